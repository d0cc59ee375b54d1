import Derived.Test.YtmniglgahodghaaPs24
import Derived.Test.YtmniglgahodghaaPs27
import Derived.Test.YtmniglgahodghaaPs25
import Derived.Test.YtmniglgahodghaaPs26
namespace Go.Proofs.Ytmniglgahodghaa.K
open Go.RowKit Go.Proofs.YtmniglgahodghaaW.PrintWords Go.Proofs.YtmniglgahodghaaW.PrintLast Go.Proofs.YtmniglgahodghaaW.PrintMore
attribute [local go_sem] max2_int min2_int max_two min_two max_three min_three max_four min_four
set_option linter.unusedVariables false
set_option linter.unusedSimpArgs false
mutual
def spec_l21Thing.l0 : Nat → List Bool → Int → List Bool → Int → List Int → Int → Int → Int → List Bool → Option (Bool)
 | 0, _, _, _, _, _, _, _, _, _ => none
 | k + 1, x2, x3, x9, x10, x190000, x190001, x190002, x190003, x190004 => if x10 < (x9.length : Int) then (if 0 ≤ (wrap64 (x3 + x10)) then (if (wrap64 (x3 + x10)) < (x190000.length : Int) then (if 0 ≤ x10 then (if rdOf false x9 x10 = true then ((spec_l21Lead.f x2 (rd x190000 (wrap64 (x3 + x10)))).bind fun t197 => (if t197 = true then (spec_l21Thing.j1 k x2 x3 x9 x10 (rd x190000 (wrap64 (x3 + x10))) false x190000 x190001 x190002 x190003 x190004) else (spec_l21Thing.j1 k x2 x3 x9 x10 (rd x190000 (wrap64 (x3 + x10))) true x190000 x190001 x190002 x190003 x190004))) else ((spec_l1Word.f (rd x190000 (wrap64 (x3 + x10)))).bind fun t200 => (spec_l21Thing.j1 k x2 x3 x9 x10 (rd x190000 (wrap64 (x3 + x10))) (!t200) x190000 x190001 x190002 x190003 x190004))) else (none)) else (none)) else (none)) else (some true)
def spec_l21Thing.j1 : Nat → List Bool → Int → List Bool → Int → Int → Bool → List Int → Int → Int → Int → List Bool → Option (Bool)
 | 0, _, _, _, _, _, _, _, _, _, _, _ => none
 | k + 1, x2, x3, x9, x10, x11, x57, x190000, x190001, x190002, x190003, x190004 => if x57 = true then (some false) else (if 0 ≤ x10 then (if x10 < (x9.length : Int) then (if rdOf false x9 x10 = true then (if x3 ≥ x190001 then ((spec_l6In.f x11 1 x190001).bind fun t202 => (if t202 = true then (if 0 ≤ (wrap64 (Int.tdiv (wrap64 ((wrap64 (x3 + x10)) - x190001)) 4)) then (if (wrap64 (Int.tdiv (wrap64 ((wrap64 (x3 + x10)) - x190001)) 4)) < (x190004.length : Int) then (if (rdOf false x190004 (wrap64 (Int.tdiv (wrap64 ((wrap64 (x3 + x10)) - x190001)) 4)) = true) then (spec_l21Thing.l0 k x2 x3 x9 (wrap64 (x10 + 1)) x190000 x190001 x190002 x190003 x190004) else (some false)) else (none)) else (none)) else (spec_l21Thing.l0 k x2 x3 x9 (wrap64 (x10 + 1)) x190000 x190001 x190002 x190003 x190004))) else (spec_l21Thing.l0 k x2 x3 x9 (wrap64 (x10 + 1)) x190000 x190001 x190002 x190003 x190004)) else (spec_l21Thing.l0 k x2 x3 x9 (wrap64 (x10 + 1)) x190000 x190001 x190002 x190003 x190004)) else (none)) else (none))
end
def spec_l21Thing.f (k : Nat) (l0 : List (S69)) (l1_0 : List Int) (a1_1 : Int) (a1_2 : Int) (a1_3 : Int) (l1_4 : List Bool) (l2 : List Bool) (a3 : Int) : Option (Bool) := (spec_l21Refs.f k l0 l1_0 a3).bind fun t190 => (if 0 ≤ a3 then (if a3 < (l1_0.length : Int) then ((spec_l21Head.f (rd l1_0 a3)).bind fun t194 => (spec_l21Thing.l0 k l2 a3 t190 t194 l1_0 a1_1 a1_2 a1_3 l1_4)) else (none)) else (none))
set_option maxHeartbeats 8000000 in
set_option maxRecDepth 100000 in
theorem spec_l21Thing.calls (k : Nat) (A0 : Option Addr) (c0 : Nat) (l0 : List (S69)) (A1_0 : Option Addr) (c1_0 : Nat) (l1_0 : List Int) (a1_1 : Int) (a1_2 : Int) (a1_3 : Int) (A1_4 : Option Addr) (c1_4 : Nat) (l1_4 : List Bool) (A2 : Option Addr) (c2 : Nat) (l2 : List Bool) (a3 : Int) (r : Bool) (w : World) (hr0 : Kd.C k69 w A0 l0.length l0) (hc0 : l0.length ≤ c0) (hr1_0 : Kd.C (Kd.int .i64) w A1_0 l1_0.length l1_0) (hc1_0 : l1_0.length ≤ c1_0) (hr1_4 : Kd.C Kd.bool w A1_4 l1_4.length l1_4) (hc1_4 : l1_4.length ≤ c1_4) (hr2 : Kd.C Kd.bool w A2 l2.length l2) (hc2 : l2.length ≤ c2) (h : spec_l21Thing.f k l0 l1_0 a1_1 a1_2 a1_3 l1_4 l2 a3 = some r) :
  Calls Try.prog 66 #[.slice A0 l0.length c0, .agg #[.slice A1_0 l1_0.length c1_0, .int .i64 a1_1, .int .i64 a1_2, .int .i64 a1_3, .slice A1_4 l1_4.length c1_4], .slice A2 l2.length c2, .int .i64 a3] w fun e w' => e = .returned (.bool r) ∧ Below w.heap.size w w' := by
 have hu29 := Try.underlying29
 have HR0 := Aside0.mk hr0
 have HC0 := Aside0.mk hc0
 clear hr0 hc0
 have HR1_0 := Aside0.mk hr1_0
 have HC1_0 := Aside0.mk hc1_0
 clear hr1_0 hc1_0
 have HR1_4 := Aside0.mk hr1_4
 have HC1_4 := Aside0.mk hc1_4
 clear hr1_4 hc1_4
 have HR2 := Aside0.mk hr2
 have HC2 := Aside0.mk hc2
 clear hr2 hc2
 have HB := Aside0.mk (Below.refl w.heap.size w)
 have H : ((spec_l21Refs.f k l0 l1_0 a3).bind fun t190 => (if 0 ≤ a3 then (if a3 < (l1_0.length : Int) then ((spec_l21Head.f (rd l1_0 a3)).bind fun t194 => (spec_l21Thing.l0 k l2 a3 t190 t194 l1_0 a1_1 a1_2 a1_3 l1_4)) else (none)) else (none))) = some r := h
 clear h
 replace H := Option.bind_eq_some_iff.mp H
 obtain ⟨t190, A50, H⟩ := H
 try dsimp only at H
 have A5 := Aside0.mk A50
 clear A50
 by_cases c6 : 0 ≤ a3
 ·rw [if_pos c6] at H
  have c6b0 : decide (0 ≤ a3) = true := decide_eq_true c6
  clear c6
  by_cases c7 : a3 < (l1_0.length : Int)
  ·rw [if_pos c7] at H
   have c7b0 : decide (a3 < (l1_0.length : Int)) = true := decide_eq_true c7
   clear c7
   replace H := Option.bind_eq_some_iff.mp H
   obtain ⟨t194, A80, H⟩ := H
   try dsimp only at H
   have A8 := Aside0.mk A80
   clear A80
   have H' := Aside0.mk H
   clear H
   go_enter Try.func66, Try.ntmps66
   go_wp2_with (first | ((with_reducible refine gate_dst (N := 5) rfl ?_); refine box_event ?hg (N := 5) ?hd (cs := #[.slice A1_0 l1_0.length c1_0, .int .i64 a1_1, .int .i64 a1_2, .int .i64 a1_3, .slice A1_4 l1_4.length c1_4]) (t := 29) ?hr ?_; (case hd => rfl); (case hg => rfl); (case hr => first | (go_simp; done) | (go_simp; rfl)); intro gb189 hg w9 hbox hb; have BK189 := Aside0.mk (hbox); have GW189 := Aside0.mk ((by rw [hg]; exact (below_size z1) : w.heap.size ≤ gb189)); have GE189 := Aside0.mk ((by rw [hg]; exact (below_size z1) : w.heap.size ≤ gb189)); replace HB := Aside0.mk (below_step z1 hb); clear hb hbox hg; obtain ⟨hcz10_0, hcz10_1, hcz10_2, hcz10_3, hcz10_4, hfz10_0, hfz10_1, hfz10_2, hfz10_3, hfz10_4⟩ := cbf5 BK189) | ((with_reducible refine gate_callee (f := 36) rfl ?_); refine goesL_ (some 16) rfl rfl Try.func36 (by kernel_rfl) rfl #[.slice A0 l0.length c0, .slice A1_0 l1_0.length c1_0, .int .i64 a3] rfl z2 ?_; (with_reducible refine (spec_l21Refs.calls k _ _ l0 _ _ l1_0 a3 t190 _ ?side1 ?side2 ?side3 ?side4 A5.out).mono ?_); (case side1 => repeat (first | exact (Kd.C_below HR0.out HB.out) | (with_reducible refine Kd.C_alloc ?_ _) | (with_reducible refine Kd.C_drewN ?_ _) | (with_reducible refine Kd.C_drew ?_))); (case side2 => exact HC0.out); (case side3 => repeat (first | exact (Kd.C_below HR1_0.out HB.out) | (with_reducible refine Kd.C_alloc ?_ _) | (with_reducible refine Kd.C_drewN ?_ _) | (with_reducible refine Kd.C_drew ?_))); (case side4 => exact HC1_0.out); rintro e w11 ⟨v191, rfl, ho0, hb⟩; refine ⟨_, rfl, ?_⟩; have HO192 := Aside0.mk (Kd.R_lower ho0 (below_size (by repeat (first | (with_reducible first | exact HB.out | apply below_alloc | apply pw_below_drewN | apply below_drew1 | refine below_set ?_ GE189.out) | exact HB.out)))); replace BK189 := Aside0.mk (blk_below (g := gb189) (o := .cells #[.slice A1_0 l1_0.length c1_0, .int .i64 a1_1, .int .i64 a1_2, .int .i64 a1_3, .slice A1_4 l1_4.length c1_4] 29 (0, 0)) (by (with_reducible repeat (first | refine blk_drewN ?_ _ | refine blk_drew ?_ | refine blk_alloc ?_ _)); exact BK189.out) hb); replace HB := Aside0.mk (below_step (by repeat (first | (with_reducible first | exact HB.out | apply below_alloc | apply pw_below_drewN | apply below_drew1 | refine below_set ?_ GE189.out) | exact HB.out)) hb); (try clear hb); (try clear hb2); (try clear hk); (try clear hi); (try clear ho0); obtain ⟨hcz12_0, hcz12_1, hcz12_2, hcz12_3, hcz12_4, hfz12_0, hfz12_1, hfz12_2, hfz12_3, hfz12_4⟩ := cbf5 BK189; have p193 : 0 ≤ (a3 : Int) := of_decide_eq_true z3; have q193 : a3 < (l1_0.length : Int) := of_decide_eq_true z3; obtain ⟨ad193, e193, hx193_0⟩ := Kd.at_int HR1_0.out a3 p193 q193; cases e193; replace hx193_0 := (HB.out.cell (World.block_lt_of_cell? w _ hx193_0)).trans hx193_0; replace p193 := eq_true p193; replace q193 := eq_true q193) | ((with_reducible refine gate_callee (f := 68) rfl ?_); refine goesL_ (some 22) rfl rfl Try.func68 (by kernel_rfl) rfl #[.int .i64 (rd l1_0 a3)] rfl z2 ?_; (with_reducible refine (spec_l21Head.calls (rd l1_0 a3) t194 _ A8.out).mono ?_); rintro e w' ⟨rfl, ⟨nd, rfl⟩⟩; refine ⟨_, rfl, ?_⟩))
   go_loopg [10] k (fun kq v10 w' => ∃ (x10_1 : Int), v10 = .int .i64 x10_1 ∧ Aside0 (spec_l21Thing.l0 kq l2 a3 t190 x10_1 l1_0 a1_1 a1_2 a1_3 l1_4 = some r) ∧ Aside0 (kq ≤ k) ∧ Aside0 (Kd.R Kd.bool 4 w' w.heap.size (fun _ => True) v191 t190) ∧ Aside0 (w'.heap[gb189]? = some (.cells #[(.slice (some ad193) l1_0.length c1_0), .int .i64 a1_1, .int .i64 a1_2, .int .i64 a1_3, (.slice A1_4 l1_4.length c1_4)] 29 (0, 0))) ∧ Aside0 (Below w.heap.size w w'))
   case atStart => exact ⟨(t194), z5, H', ⟨Nat.le_refl _⟩, ⟨by (with_reducible repeat (first | apply Kd.R_alloc | apply Kd.R_drewN | apply Kd.R_drew)); exact HO192.out⟩, ⟨by (with_reducible repeat (first | refine blk_drewN ?_ _ | refine blk_drew ?_ | refine blk_alloc ?_ _)); exact BK189.out⟩, ⟨by repeat (first | (with_reducible first | exact HB.out | apply below_alloc | apply pw_below_drewN | apply below_drew1 | refine below_set ?_ GE189.out) | exact HB.out)⟩⟩
   case round =>
    clear H'
    try clear c1
    try clear p1
    try clear q1
    try clear hx1
    try clear c2
    try clear p2
    try clear c3
    try clear c6
    try clear c6b0
    try clear c7
    try clear c7b0
    try clear hcz10_0
    try clear hcz10_1
    try clear hcz10_2
    try clear hcz10_3
    try clear hcz10_4
    try clear hcz12_0
    try clear hcz12_1
    try clear hcz12_2
    try clear hcz12_3
    try clear hcz12_4
    try clear hfz10_0
    try clear hfz10_1
    try clear hfz10_2
    try clear hfz10_3
    try clear hfz10_4
    try clear hfz12_0
    try clear hfz12_1
    try clear hfz12_2
    try clear hfz12_3
    try clear hfz12_4
    try clear hx193_0
    try clear p193
    try clear q193
    obtain ⟨x10_1, rfl, HA, HK1, HO_9, BK189, HB⟩ := hrel
    cases gk with
    | zero => exact absurd HA.out (by simp [spec_l21Thing.l0])
    | succ k1 =>
     have H := HA.out
     clear HA
     simp only [spec_l21Thing.l0] at H
     by_cases c13 : x10_1 < (t190.length : Int)
     ·rw [if_pos c13] at H
      have c13b0 : decide (x10_1 < (t190.length : Int)) = true := decide_eq_true c13
      clear c13
      obtain ⟨ji14, hji14⟩ : ∃ j_ : Int, (wrap64 (a3 + x10_1)) = j_ := ⟨_, rfl⟩
      replace H : (if 0 ≤ (ji14) then (if (ji14) < (l1_0.length : Int) then (if 0 ≤ x10_1 then (if rdOf false t190 x10_1 = true then ((spec_l21Lead.f l2 (rd l1_0 (ji14))).bind fun t197 => (if t197 = true then (spec_l21Thing.j1 k1 l2 a3 t190 x10_1 (rd l1_0 (ji14)) false l1_0 a1_1 a1_2 a1_3 l1_4) else (spec_l21Thing.j1 k1 l2 a3 t190 x10_1 (rd l1_0 (ji14)) true l1_0 a1_1 a1_2 a1_3 l1_4))) else ((spec_l1Word.f (rd l1_0 (ji14))).bind fun t200 => (spec_l21Thing.j1 k1 l2 a3 t190 x10_1 (rd l1_0 (ji14)) (!t200) l1_0 a1_1 a1_2 a1_3 l1_4))) else (none)) else (none)) else (none)) = some r := by first | (rw [hji14] at H; exact H) | (simp only [hji14] at H ⊢; exact H)
      have hji14w : (IntKind.i64.wrap (a3 + x10_1)) = ji14 := (i64_w _).trans hji14
      by_cases c15 : 0 ≤ (ji14)
      ·rw [if_pos c15] at H
       have c15b0 : decide (0 ≤ (ji14)) = true := decide_eq_true c15
       clear c15
       by_cases c16 : (ji14) < (l1_0.length : Int)
       ·rw [if_pos c16] at H
        have c16b0 : decide ((ji14) < (l1_0.length : Int)) = true := decide_eq_true c16
        clear c16
        have HC17 := Aside0.mk H
        clear H
        obtain ⟨Ao18, co18, eo18⟩ := Kd.R_slice HO_9.out
        subst eo18
        obtain ⟨hcz19_0, hcz19_1, hcz19_2, hcz19_3, hcz19_4, hfz19_0, hfz19_1, hfz19_2, hfz19_3, hfz19_4⟩ := cbf5 BK189
        have p195 : 0 ≤ ((ji14) : Int) := of_decide_eq_true z3
        have q195 : (ji14) < (l1_0.length : Int) := of_decide_eq_true z3
        obtain ⟨ad195, e195, hx195_0⟩ := Kd.at_int HR1_0.out (ji14) p195 q195
        obtain rfl : ad193 = ad195 := (by injection e195)
        replace hx195_0 := (HB.out.cell (World.block_lt_of_cell? w _ hx195_0)).trans hx195_0
        replace p195 := eq_true p195
        replace q195 := eq_true q195
        go_upto_region 6 with (fail)
        go_cut [57] (fun v57 wc => ∃ (kq : Nat) (x57_16 : Bool), v57 = .bool x57_16 ∧ Aside0 (spec_l21Thing.j1 kq l2 a3 t190 x10_1 (rd l1_0 (ji14)) x57_16 l1_0 a1_1 a1_2 a1_3 l1_4 = some r) ∧ Aside0 (kq ≤ k1) ∧ Aside0 (Kd.R Kd.bool 4 wc w.heap.size (fun _ => True) (.slice Ao18 t190.length co18) t190) ∧ Aside0 (wc.heap[gb189]? = some (.cells #[(.slice (some ad193) l1_0.length c1_0), .int .i64 a1_1, .int .i64 a1_2, .int .i64 a1_3, (.slice A1_4 l1_4.length c1_4)] 29 (0, 0))) ∧ Aside0 (Below w.heap.size w wc))
        case first =>
         have H := HC17.out
         clear HC17
         by_cases c20 : 0 ≤ x10_1
         ·rw [if_pos c20] at H
          have c20b0 : decide (0 ≤ x10_1) = true := decide_eq_true c20
          clear c20
          (first | rw [c20b0] | (simp only [i64_w, i32_w]; rw [c20b0]) | skip)
          obtain ⟨bq21, hbq21⟩ : ∃ b_ : Bool, b_ = (rdOf false t190 x10_1) := ⟨_, rfl⟩
          replace H : (if bq21 = true then ((spec_l21Lead.f l2 (rd l1_0 (ji14))).bind fun t197 => (if t197 = true then (spec_l21Thing.j1 k1 l2 a3 t190 x10_1 (rd l1_0 (ji14)) false l1_0 a1_1 a1_2 a1_3 l1_4) else (spec_l21Thing.j1 k1 l2 a3 t190 x10_1 (rd l1_0 (ji14)) true l1_0 a1_1 a1_2 a1_3 l1_4))) else ((spec_l1Word.f (rd l1_0 (ji14))).bind fun t200 => (spec_l21Thing.j1 k1 l2 a3 t190 x10_1 (rd l1_0 (ji14)) (!t200) l1_0 a1_1 a1_2 a1_3 l1_4))) = some r := by rw [← hbq21] at H; exact H
          have Nbq21 := Aside0.mk hbq21
          clear hbq21
          by_cases c22 : bq21 = true
          ·subst c22
           rw [if_pos rfl] at H
           replace H := Option.bind_eq_some_iff.mp H
           obtain ⟨t197, A230, H⟩ := H
           try dsimp only at H
           have A23 := Aside0.mk A230
           clear A230
           by_cases c24 : t197 = true
           ·subst c24
            rw [if_pos rfl] at H
            have H' := Aside0.mk H
            clear H
            have p196 : 0 ≤ (x10_1 : Int) := of_decide_eq_true z3
            have q196 : x10_1 < (t190.length : Int) := of_decide_eq_true z3
            obtain ⟨ad196, e196, hx196_0⟩ := Kd.at_bool (Kd.R_reads' HO_9.out).2.2 x10_1 p196 q196
            (try rw [← Nbq21.out] at hx196_0)
            cases e196
            replace p196 := eq_true p196
            replace q196 := eq_true q196
            go_wp2_with (first | (go_at_call 38; (with_reducible refine (spec_l21Lead.calls _ _ l2 (rd l1_0 (ji14)) true _ ?side1 ?side2 A23.out).mono ?_); (case side1 => repeat (first | exact (Kd.C_below HR2.out HB.out) | (with_reducible refine Kd.C_alloc ?_ _) | (with_reducible refine Kd.C_drewN ?_ _) | (with_reducible refine Kd.C_drew ?_))); (case side2 => exact HC2.out); rintro e w' ⟨rfl, ⟨nd, rfl⟩⟩; have p198 : 0 ≤ (x10_1 : Int) := of_decide_eq_true z3; have q198 : x10_1 < (t190.length : Int) := of_decide_eq_true z3; obtain ⟨ad198, e198, hx198_0⟩ := Kd.at_bool (Kd.R_reads' HO_9.out).2.2 x10_1 p198 q198; (try rw [← Nbq21.out] at hx198_0); obtain rfl : ad196 = ad198 := (by injection e198); replace p198 := eq_true p198; replace q198 := eq_true q198))
            go_meet
            case rel => exact ⟨_, (false), z5, H', ⟨by have := HK1.out; first | omega | exact Nat.le_refl _⟩, ⟨by (with_reducible repeat (first | apply Kd.R_alloc | apply Kd.R_drewN | apply Kd.R_drew)); exact HO_9.out⟩, ⟨by (with_reducible repeat (first | refine blk_drewN ?_ _ | refine blk_drew ?_ | refine blk_alloc ?_ _)); exact BK189.out⟩, ⟨by repeat (first | (with_reducible first | exact HB.out | apply below_alloc | apply pw_below_drewN | apply below_drew1 | refine below_set ?_ GE189.out) | exact HB.out)⟩⟩
           ·replace c24 := Bool.eq_false_iff.mpr c24
            subst c24
            rw [if_neg (show ¬ (false = true) by decide)] at H
            have H' := Aside0.mk H
            clear H
            have p196 : 0 ≤ (x10_1 : Int) := of_decide_eq_true z3
            have q196 : x10_1 < (t190.length : Int) := of_decide_eq_true z3
            obtain ⟨ad196, e196, hx196_0⟩ := Kd.at_bool (Kd.R_reads' HO_9.out).2.2 x10_1 p196 q196
            (try rw [← Nbq21.out] at hx196_0)
            cases e196
            replace p196 := eq_true p196
            replace q196 := eq_true q196
            go_wp2_with (first | (go_at_call 38; (with_reducible refine (spec_l21Lead.calls _ _ l2 (rd l1_0 (ji14)) false _ ?side1 ?side2 A23.out).mono ?_); (case side1 => repeat (first | exact (Kd.C_below HR2.out HB.out) | (with_reducible refine Kd.C_alloc ?_ _) | (with_reducible refine Kd.C_drewN ?_ _) | (with_reducible refine Kd.C_drew ?_))); (case side2 => exact HC2.out); rintro e w' ⟨rfl, ⟨nd, rfl⟩⟩))
            go_meet
            case rel => exact ⟨_, (true), z5, H', ⟨by have := HK1.out; first | omega | exact Nat.le_refl _⟩, ⟨by (with_reducible repeat (first | apply Kd.R_alloc | apply Kd.R_drewN | apply Kd.R_drew)); exact HO_9.out⟩, ⟨by (with_reducible repeat (first | refine blk_drewN ?_ _ | refine blk_drew ?_ | refine blk_alloc ?_ _)); exact BK189.out⟩, ⟨by repeat (first | (with_reducible first | exact HB.out | apply below_alloc | apply pw_below_drewN | apply below_drew1 | refine below_set ?_ GE189.out) | exact HB.out)⟩⟩
          ·replace c22 := Bool.eq_false_iff.mpr c22
           subst c22
           rw [if_neg (show ¬ (false = true) by decide)] at H
           replace H := Option.bind_eq_some_iff.mp H
           obtain ⟨t200, A250, H⟩ := H
           try dsimp only at H
           have A25 := Aside0.mk A250
           clear A250
           have H' := Aside0.mk H
           clear H
           have p196 : 0 ≤ (x10_1 : Int) := of_decide_eq_true z3
           have q196 : x10_1 < (t190.length : Int) := of_decide_eq_true z3
           obtain ⟨ad196, e196, hx196_0⟩ := Kd.at_bool (Kd.R_reads' HO_9.out).2.2 x10_1 p196 q196
           (try rw [← Nbq21.out] at hx196_0)
           cases e196
           replace p196 := eq_true p196
           replace q196 := eq_true q196
           have p199 : 0 ≤ (x10_1 : Int) := of_decide_eq_true z3
           have q199 : x10_1 < (t190.length : Int) := of_decide_eq_true z3
           obtain ⟨ad199, e199, hx199_0⟩ := Kd.at_bool (Kd.R_reads' HO_9.out).2.2 x10_1 p199 q199
           (try rw [← Nbq21.out] at hx199_0)
           obtain rfl : ad196 = ad199 := (by injection e199)
           replace p199 := eq_true p199
           replace q199 := eq_true q199
           go_wp2_with (first | (go_at_call 40; (with_reducible refine (spec_l1Word.calls (rd l1_0 (ji14)) t200 _ A25.out).mono ?_); rintro e w' ⟨rfl, ⟨nd, rfl⟩⟩))
           go_meet
           case rel => exact ⟨_, (!t200), z5, H', ⟨by have := HK1.out; first | omega | exact Nat.le_refl _⟩, ⟨by (with_reducible repeat (first | apply Kd.R_alloc | apply Kd.R_drewN | apply Kd.R_drew)); exact HO_9.out⟩, ⟨by (with_reducible repeat (first | refine blk_drewN ?_ _ | refine blk_drew ?_ | refine blk_alloc ?_ _)); exact BK189.out⟩, ⟨by repeat (first | (with_reducible first | exact HB.out | apply below_alloc | apply pw_below_drewN | apply below_drew1 | refine below_set ?_ GE189.out) | exact HB.out)⟩⟩
         ·rw [if_neg c20] at H
          exact absurd H (by simp)
        case rest =>
         clear HC17
         try clear c1
         try clear p1
         try clear q1
         try clear hx1
         try clear c2
         try clear p2
         try clear q2
         try clear c3
         try clear c6
         try clear c6b0
         try clear p6
         try clear c7
         try clear c7b0
         try clear c13
         try clear c13b0
         try clear c15
         try clear c15b0
         try clear c16
         try clear c16b0
         try clear p19
         try clear q19
         try clear hx19
         try clear c20
         try clear c20b0
         try clear q21
         try clear c22
         try clear c24
         try clear hcz10_0
         try clear hcz10_1
         try clear hcz10_2
         try clear hcz10_3
         try clear hcz10_4
         try clear hcz12_0
         try clear hcz12_1
         try clear hcz12_2
         try clear hcz12_3
         try clear hcz12_4
         try clear hcz19_0
         try clear hcz19_1
         try clear hcz19_2
         try clear hcz19_3
         try clear hcz19_4
         try clear hfz10_0
         try clear hfz10_1
         try clear hfz10_2
         try clear hfz10_3
         try clear hfz10_4
         try clear hfz12_0
         try clear hfz12_1
         try clear hfz12_2
         try clear hfz12_3
         try clear hfz12_4
         try clear hfz19_0
         try clear hfz19_1
         try clear hfz19_2
         try clear hfz19_3
         try clear hfz19_4
         try clear hx193_0
         try clear hx195_0
         try clear hx196_0
         try clear hx198_0
         try clear hx199_0
         try clear p1
         try clear p193
         try clear p195
         try clear p196
         try clear p198
         try clear p199
         try clear p2
         try clear q1
         try clear q193
         try clear q195
         try clear q196
         try clear q198
         try clear q199
         obtain ⟨kq, x57_16, rfl, HA, HJ16, HO_9, BK189, HB⟩ := hcut
         cases kq with
         | zero => exact absurd HA.out (by simp [spec_l21Thing.j1])
         | succ kj16 =>
          have H := HA.out
          clear HA
          simp only [spec_l21Thing.j1] at H
          by_cases c26 : x57_16 = true
          ·subst c26
           rw [if_pos rfl] at H
           obtain rfl := Option.some.inj H
           go_wp2
           go_ret
           exact ⟨by first | rfl | (simp [errW_none, errW_some] <;> rfl) | (simp only [← hji14]; first | rfl | (simp [errW_none, errW_some] <;> rfl)) | (simp [*, errW_none, errW_some] <;> rfl), by repeat (first | (with_reducible first | exact HB.out | apply below_alloc | apply pw_below_drewN | apply below_drew1 | refine below_set ?_ GE189.out) | exact HB.out)⟩
          ·replace c26 := Bool.eq_false_iff.mpr c26
           subst c26
           rw [if_neg (show ¬ (false = true) by decide)] at H
           by_cases c27 : 0 ≤ x10_1
           ·rw [if_pos c27] at H
            have c27b0 : decide (0 ≤ x10_1) = true := decide_eq_true c27
            clear c27
            by_cases c28 : x10_1 < (t190.length : Int)
            ·rw [if_pos c28] at H
             have c28b0 : decide (x10_1 < (t190.length : Int)) = true := decide_eq_true c28
             clear c28
             obtain ⟨bq29, hbq29⟩ : ∃ b_ : Bool, b_ = (rdOf false t190 x10_1) := ⟨_, rfl⟩
             replace H : (if bq29 = true then (if a3 ≥ a1_1 then ((spec_l6In.f (rd l1_0 (ji14)) 1 a1_1).bind fun t202 => (if t202 = true then (if 0 ≤ (wrap64 (Int.tdiv (wrap64 ((wrap64 (a3 + x10_1)) - a1_1)) 4)) then (if (wrap64 (Int.tdiv (wrap64 ((wrap64 (a3 + x10_1)) - a1_1)) 4)) < (l1_4.length : Int) then (if (rdOf false l1_4 (wrap64 (Int.tdiv (wrap64 ((wrap64 (a3 + x10_1)) - a1_1)) 4)) = true) then (spec_l21Thing.l0 kj16 l2 a3 t190 (wrap64 (x10_1 + 1)) l1_0 a1_1 a1_2 a1_3 l1_4) else (some false)) else (none)) else (none)) else (spec_l21Thing.l0 kj16 l2 a3 t190 (wrap64 (x10_1 + 1)) l1_0 a1_1 a1_2 a1_3 l1_4))) else (spec_l21Thing.l0 kj16 l2 a3 t190 (wrap64 (x10_1 + 1)) l1_0 a1_1 a1_2 a1_3 l1_4)) else (spec_l21Thing.l0 kj16 l2 a3 t190 (wrap64 (x10_1 + 1)) l1_0 a1_1 a1_2 a1_3 l1_4)) = some r := by rw [← hbq29] at H; exact H
             have Nbq29 := Aside0.mk hbq29
             clear hbq29
             by_cases c30 : bq29 = true
             ·subst c30
              rw [if_pos rfl] at H
              by_cases c31 : a3 ≥ a1_1
              ·rw [if_pos c31] at H
               have c31b0 : decide (a1_1 ≤ a3) = true := decide_eq_true c31
               clear c31
               replace H := Option.bind_eq_some_iff.mp H
               obtain ⟨t202, A320, H⟩ := H
               try dsimp only at H
               have A32 := Aside0.mk A320
               clear A320
               by_cases c33 : t202 = true
               ·subst c33
                rw [if_pos rfl] at H
                obtain ⟨ji34, hji34⟩ : ∃ j_ : Int, (wrap64 (Int.tdiv (wrap64 ((wrap64 (a3 + x10_1)) - a1_1)) 4)) = j_ := ⟨_, rfl⟩
                replace H : (if 0 ≤ (ji34) then (if (ji34) < (l1_4.length : Int) then (if (rdOf false l1_4 (ji34) = true) then (spec_l21Thing.l0 kj16 l2 a3 t190 (wrap64 (x10_1 + 1)) l1_0 a1_1 a1_2 a1_3 l1_4) else (some false)) else (none)) else (none)) = some r := by first | (rw [hji34] at H; exact H) | (simp only [hji34] at H ⊢; exact H)
                (try rw [hji34] at A32)
                have hji34w : (IntKind.i64.wrap (Int.tdiv (wrap64 ((wrap64 (a3 + x10_1)) - a1_1)) 4)) = ji34 := (i64_w _).trans hji34
                (try rw [hji14] at hji34w)
                by_cases c35 : 0 ≤ (ji34)
                ·rw [if_pos c35] at H
                 have c35b0 : decide (0 ≤ (ji34)) = true := decide_eq_true c35
                 clear c35
                 by_cases c36 : (ji34) < (l1_4.length : Int)
                 ·rw [if_pos c36] at H
                  have c36b0 : decide ((ji34) < (l1_4.length : Int)) = true := decide_eq_true c36
                  clear c36
                  obtain ⟨bq37, hbq37⟩ : ∃ b_ : Bool, b_ = (rdOf false l1_4 (ji34)) := ⟨_, rfl⟩
                  replace H : (if (bq37 = true) then (spec_l21Thing.l0 kj16 l2 a3 t190 (wrap64 (x10_1 + 1)) l1_0 a1_1 a1_2 a1_3 l1_4) else (some false)) = some r := by rw [← hbq37] at H; exact H
                  have Nbq37 := Aside0.mk hbq37
                  clear hbq37
                  by_cases c38 : (bq37 = true)
                  ·subst c38
                   rw [if_pos rfl] at H
                   have H' := Aside0.mk H
                   clear H
                   have p201 : 0 ≤ (x10_1 : Int) := of_decide_eq_true z3
                   have q201 : x10_1 < (t190.length : Int) := of_decide_eq_true z3
                   obtain ⟨ad201, e201, hx201_0⟩ := Kd.at_bool (Kd.R_reads' HO_9.out).2.2 x10_1 p201 q201
                   (try rw [← Nbq29.out] at hx201_0)
                   (try rw [← Nbq37.out] at hx201_0)
                   cases e201
                   replace p201 := eq_true p201
                   replace q201 := eq_true q201
                   obtain ⟨hcz39_0, hcz39_1, hcz39_2, hcz39_3, hcz39_4, hfz39_0, hfz39_1, hfz39_2, hfz39_3, hfz39_4⟩ := cbf5 BK189
                   go_wp2_with (first | (go_at_call 69; (with_reducible refine (spec_l6In.calls (rd l1_0 (ji14)) 1 a1_1 true _ A32.out).mono ?_); rintro e w' ⟨rfl, ⟨nd, rfl⟩⟩; have p203 : 0 ≤ ((ji34) : Int) := of_decide_eq_true z3; have q203 : (ji34) < (l1_4.length : Int) := of_decide_eq_true z3; obtain ⟨ad203, e203, hx203_0⟩ := Kd.at_bool HR1_4.out (ji34) p203 q203; (try rw [← Nbq29.out] at hx203_0); (try rw [← Nbq37.out] at hx203_0); cases e203; replace hx203_0 := (HB.out.cell (World.block_lt_of_cell? w _ hx203_0)).trans hx203_0; replace p203 := eq_true p203; replace q203 := eq_true q203))
                   go_roundg kj16
                   case measure => have := HK1.out; have := HJ16.out; omega
                   case rel => exact ⟨(wrap64 (x10_1 + 1)), z5, H', ⟨by have := HK1.out; have := HJ16.out; omega⟩, ⟨by (with_reducible repeat (first | apply Kd.R_alloc | apply Kd.R_drewN | apply Kd.R_drew)); exact HO_9.out⟩, ⟨by (with_reducible repeat (first | refine blk_drewN ?_ _ | refine blk_drew ?_ | refine blk_alloc ?_ _)); exact BK189.out⟩, ⟨by repeat (first | (with_reducible first | exact HB.out | apply below_alloc | apply pw_below_drewN | apply below_drew1 | refine below_set ?_ GE189.out) | exact HB.out)⟩⟩
                  ·replace c38 := Bool.eq_false_iff.mpr c38
                   subst c38
                   rw [if_neg (show ¬ (false = true) by decide)] at H
                   obtain rfl := Option.some.inj H
                   have p201 : 0 ≤ (x10_1 : Int) := of_decide_eq_true z3
                   have q201 : x10_1 < (t190.length : Int) := of_decide_eq_true z3
                   obtain ⟨ad201, e201, hx201_0⟩ := Kd.at_bool (Kd.R_reads' HO_9.out).2.2 x10_1 p201 q201
                   (try rw [← Nbq29.out] at hx201_0)
                   (try rw [← Nbq37.out] at hx201_0)
                   cases e201
                   replace p201 := eq_true p201
                   replace q201 := eq_true q201
                   obtain ⟨hcz40_0, hcz40_1, hcz40_2, hcz40_3, hcz40_4, hfz40_0, hfz40_1, hfz40_2, hfz40_3, hfz40_4⟩ := cbf5 BK189
                   go_wp2_with (first | (go_at_call 69; (with_reducible refine (spec_l6In.calls (rd l1_0 (ji14)) 1 a1_1 true _ A32.out).mono ?_); rintro e w' ⟨rfl, ⟨nd, rfl⟩⟩; have p203 : 0 ≤ ((ji34) : Int) := of_decide_eq_true z3; have q203 : (ji34) < (l1_4.length : Int) := of_decide_eq_true z3; obtain ⟨ad203, e203, hx203_0⟩ := Kd.at_bool HR1_4.out (ji34) p203 q203; (try rw [← Nbq29.out] at hx203_0); (try rw [← Nbq37.out] at hx203_0); cases e203; replace hx203_0 := (HB.out.cell (World.block_lt_of_cell? w _ hx203_0)).trans hx203_0; replace p203 := eq_true p203; replace q203 := eq_true q203))
                   go_ret
                   exact ⟨by first | rfl | (simp [errW_none, errW_some] <;> rfl) | (simp only [← hji14, ← hji34]; first | rfl | (simp [errW_none, errW_some] <;> rfl)) | (simp [*, errW_none, errW_some] <;> rfl), by repeat (first | (with_reducible first | exact HB.out | apply below_alloc | apply pw_below_drewN | apply below_drew1 | refine below_set ?_ GE189.out) | exact HB.out)⟩
                 ·rw [if_neg c36] at H
                  exact absurd H (by simp)
                ·rw [if_neg c35] at H
                 exact absurd H (by simp)
               ·replace c33 := Bool.eq_false_iff.mpr c33
                subst c33
                rw [if_neg (show ¬ (false = true) by decide)] at H
                have H' := Aside0.mk H
                clear H
                have p201 : 0 ≤ (x10_1 : Int) := of_decide_eq_true z3
                have q201 : x10_1 < (t190.length : Int) := of_decide_eq_true z3
                obtain ⟨ad201, e201, hx201_0⟩ := Kd.at_bool (Kd.R_reads' HO_9.out).2.2 x10_1 p201 q201
                (try rw [← Nbq29.out] at hx201_0)
                cases e201
                replace p201 := eq_true p201
                replace q201 := eq_true q201
                obtain ⟨hcz41_0, hcz41_1, hcz41_2, hcz41_3, hcz41_4, hfz41_0, hfz41_1, hfz41_2, hfz41_3, hfz41_4⟩ := cbf5 BK189
                go_wp2_with (first | (go_at_call 69; (with_reducible refine (spec_l6In.calls (rd l1_0 (ji14)) 1 a1_1 false _ A32.out).mono ?_); rintro e w' ⟨rfl, ⟨nd, rfl⟩⟩))
                go_roundg kj16
                case measure => have := HK1.out; have := HJ16.out; omega
                case rel => exact ⟨(wrap64 (x10_1 + 1)), z5, H', ⟨by have := HK1.out; have := HJ16.out; omega⟩, ⟨by (with_reducible repeat (first | apply Kd.R_alloc | apply Kd.R_drewN | apply Kd.R_drew)); exact HO_9.out⟩, ⟨by (with_reducible repeat (first | refine blk_drewN ?_ _ | refine blk_drew ?_ | refine blk_alloc ?_ _)); exact BK189.out⟩, ⟨by repeat (first | (with_reducible first | exact HB.out | apply below_alloc | apply pw_below_drewN | apply below_drew1 | refine below_set ?_ GE189.out) | exact HB.out)⟩⟩
              ·rw [if_neg c31] at H
               have c31b0 : decide (a1_1 ≤ a3) = false := decide_eq_false c31
               clear c31
               have H' := Aside0.mk H
               clear H
               have p201 : 0 ≤ (x10_1 : Int) := of_decide_eq_true z3
               have q201 : x10_1 < (t190.length : Int) := of_decide_eq_true z3
               obtain ⟨ad201, e201, hx201_0⟩ := Kd.at_bool (Kd.R_reads' HO_9.out).2.2 x10_1 p201 q201
               (try rw [← Nbq29.out] at hx201_0)
               cases e201
               replace p201 := eq_true p201
               replace q201 := eq_true q201
               obtain ⟨hcz42_0, hcz42_1, hcz42_2, hcz42_3, hcz42_4, hfz42_0, hfz42_1, hfz42_2, hfz42_3, hfz42_4⟩ := cbf5 BK189
               go_wp2
               go_roundg kj16
               case measure => have := HK1.out; have := HJ16.out; omega
               case rel => exact ⟨(wrap64 (x10_1 + 1)), z5, H', ⟨by have := HK1.out; have := HJ16.out; omega⟩, ⟨by (with_reducible repeat (first | apply Kd.R_alloc | apply Kd.R_drewN | apply Kd.R_drew)); exact HO_9.out⟩, ⟨by (with_reducible repeat (first | refine blk_drewN ?_ _ | refine blk_drew ?_ | refine blk_alloc ?_ _)); exact BK189.out⟩, ⟨by repeat (first | (with_reducible first | exact HB.out | apply below_alloc | apply pw_below_drewN | apply below_drew1 | refine below_set ?_ GE189.out) | exact HB.out)⟩⟩
             ·replace c30 := Bool.eq_false_iff.mpr c30
              subst c30
              rw [if_neg (show ¬ (false = true) by decide)] at H
              have H' := Aside0.mk H
              clear H
              have p201 : 0 ≤ (x10_1 : Int) := of_decide_eq_true z3
              have q201 : x10_1 < (t190.length : Int) := of_decide_eq_true z3
              obtain ⟨ad201, e201, hx201_0⟩ := Kd.at_bool (Kd.R_reads' HO_9.out).2.2 x10_1 p201 q201
              (try rw [← Nbq29.out] at hx201_0)
              cases e201
              replace p201 := eq_true p201
              replace q201 := eq_true q201
              go_wp2
              go_roundg kj16
              case measure => have := HK1.out; have := HJ16.out; omega
              case rel => exact ⟨(wrap64 (x10_1 + 1)), z5, H', ⟨by have := HK1.out; have := HJ16.out; omega⟩, ⟨by (with_reducible repeat (first | apply Kd.R_alloc | apply Kd.R_drewN | apply Kd.R_drew)); exact HO_9.out⟩, ⟨by (with_reducible repeat (first | refine blk_drewN ?_ _ | refine blk_drew ?_ | refine blk_alloc ?_ _)); exact BK189.out⟩, ⟨by repeat (first | (with_reducible first | exact HB.out | apply below_alloc | apply pw_below_drewN | apply below_drew1 | refine below_set ?_ GE189.out) | exact HB.out)⟩⟩
            ·rw [if_neg c28] at H
             exact absurd H (by simp)
           ·rw [if_neg c27] at H
            exact absurd H (by simp)
       ·rw [if_neg c16] at H
        exact absurd H (by simp)
      ·rw [if_neg c15] at H
       exact absurd H (by simp)
     ·rw [if_neg c13] at H
      have c13b0 : decide (x10_1 < (t190.length : Int)) = false := decide_eq_false c13
      clear c13
      obtain rfl := Option.some.inj H
      obtain ⟨Ao43, co43, eo43⟩ := Kd.R_slice HO_9.out
      subst eo43
      go_wp2
      go_ret
      exact ⟨by first | rfl | (simp [errW_none, errW_some] <;> rfl) | (simp [*, errW_none, errW_some] <;> rfl), by repeat (first | (with_reducible first | exact HB.out | apply below_alloc | apply pw_below_drewN | apply below_drew1 | refine below_set ?_ GE189.out) | exact HB.out)⟩
  ·rw [if_neg c7] at H
   exact absurd H (by simp)
 ·rw [if_neg c6] at H
  exact absurd H (by simp)
end Go.Proofs.Ytmniglgahodghaa.K
namespace Go.Proofs.Ytmniglgahodghaa.K
open Go.RowKit Go.Proofs.YtmniglgahodghaaW.PrintWords Go.Proofs.YtmniglgahodghaaW.PrintLast Go.Proofs.YtmniglgahodghaaW.PrintMore
attribute [local go_sem] max2_int min2_int max_two min_two max_three min_three max_four min_four
set_option linter.unusedVariables false
set_option linter.unusedSimpArgs false
def spec_MemOk.l0 : Nat → List (S69) → List Int → List Bool → Int → List Int → Int → Int → Int → List Bool → Option (Bool)
  | 0, _, _, _, _, _, _, _, _, _ => none
  | k + 1, x0, x5, x7, x8, x205000, x205001, x205002, x205003, x205004 => if x8 < (x5.length : Int) then (if 0 ≤ x8 then ((spec_l21Thing.f k x0 x205000 x205001 x205002 x205003 x205004 x7 (rd x5 x8)).bind fun t214 => (if t214 = true then (spec_MemOk.l0 k x0 x5 x7 (wrap64 (x8 + 1)) x205000 x205001 x205002 x205003 x205004) else (some false))) else (none)) else (some true)
def spec_MemOk.f (k : Nat) (l0 : List (S69)) (l1_0 : List Int) (a1_1 : Int) (a1_2 : Int) (a1_3 : Int) (l1_4 : List Bool) : Option (Bool) := (spec_l21Bounds.f k l0 l1_0 a1_1 a1_2 a1_3 l1_4).bind fun t205 => (if t205 = true then ((spec_l21Walk.f k l0 l1_0 a1_1 a1_2 a1_3 l1_4).bind fun bt206 => (if bt206.2 = true then ((spec_l21Starts.f k (l1_0.length : Int) bt206.1).bind fun t210 => (spec_MemOk.l0 k l0 bt206.1 t210 0 l1_0 a1_1 a1_2 a1_3 l1_4)) else (some false))) else (some false))
def spec_MemOk.T10 : Bool × List (List Nat × List Nat) := (true, [([], []), ([], []), ([], []), ([], []), ([], []), ([3, 4], [3, 4]), ([5], [5]), ([0, 1, 2, 6], [0, 1, 2, 6]), ([7], [7])])
def spec_MemOk.B10 : List Nat := [0, 0, 0, 0, 0, 24, 56, 127, 255]
theorem spec_MemOk.tab10 : rtab .any (opsOf Try.f34 10) = spec_MemOk.T10 := by kernel_rfl
theorem spec_MemOk.bits10 : waitsOk spec_MemOk.T10.2 spec_MemOk.B10 = true := by kernel_rfl
set_option maxHeartbeats 8000000 in
set_option maxRecDepth 100000 in
theorem spec_MemOk.calls (k : Nat) (A0 : Option Addr) (c0 : Nat) (l0 : List (S69)) (A1_0 : Option Addr) (c1_0 : Nat) (l1_0 : List Int) (a1_1 : Int) (a1_2 : Int) (a1_3 : Int) (A1_4 : Option Addr) (c1_4 : Nat) (l1_4 : List Bool) (r : Bool) (w : World) (hr0 : Kd.C k69 w A0 l0.length l0) (hc0 : l0.length ≤ c0) (hr1_0 : Kd.C (Kd.int .i64) w A1_0 l1_0.length l1_0) (hc1_0 : l1_0.length ≤ c1_0) (hr1_4 : Kd.C Kd.bool w A1_4 l1_4.length l1_4) (hc1_4 : l1_4.length ≤ c1_4) (h : spec_MemOk.f k l0 l1_0 a1_1 a1_2 a1_3 l1_4 = some r) :
  Calls Try.prog 34 #[.slice A0 l0.length c0, .agg #[.slice A1_0 l1_0.length c1_0, .int .i64 a1_1, .int .i64 a1_2, .int .i64 a1_3, .slice A1_4 l1_4.length c1_4]] w fun e w' => e = .returned (.bool r) ∧ Below w.heap.size w w' := by
 have hu29 := Try.underlying29
 have HR0 := Aside0.mk hr0
 have HC0 := Aside0.mk hc0
 clear hr0 hc0
 have HR1_0 := Aside0.mk hr1_0
 have HC1_0 := Aside0.mk hc1_0
 clear hr1_0 hc1_0
 have HR1_4 := Aside0.mk hr1_4
 have HC1_4 := Aside0.mk hc1_4
 clear hr1_4 hc1_4
 have HB := Aside0.mk (Below.refl w.heap.size w)
 have H : ((spec_l21Bounds.f k l0 l1_0 a1_1 a1_2 a1_3 l1_4).bind fun t205 => (if t205 = true then ((spec_l21Walk.f k l0 l1_0 a1_1 a1_2 a1_3 l1_4).bind fun bt206 => (if bt206.2 = true then ((spec_l21Starts.f k (l1_0.length : Int) bt206.1).bind fun t210 => (spec_MemOk.l0 k l0 bt206.1 t210 0 l1_0 a1_1 a1_2 a1_3 l1_4)) else (some false))) else (some false))) = some r := h
 clear h
 replace H := Option.bind_eq_some_iff.mp H
 obtain ⟨t205, A30, H⟩ := H
 try dsimp only at H
 have A3 := Aside0.mk A30
 clear A30
 by_cases c4 : t205 = true
 ·subst c4
  rw [if_pos rfl] at H
  replace H := Option.bind_eq_some_iff.mp H
  obtain ⟨⟨t206, t209⟩, A50, H⟩ := H
  try dsimp only at H
  have A5 := Aside0.mk A50
  clear A50
  by_cases c6 : t209 = true
  ·subst c6
   rw [if_pos rfl] at H
   replace H := Option.bind_eq_some_iff.mp H
   obtain ⟨t210, A70, H⟩ := H
   try dsimp only at H
   have A7 := Aside0.mk A70
   clear A70
   have H' := Aside0.mk H
   clear H
   go_enter Try.func34, Try.ntmps34
   go_wp2_with (first | ((with_reducible refine gate_dst (N := 3) rfl ?_); refine box_event ?hg (N := 3) ?hd (cs := #[.slice A1_0 l1_0.length c1_0, .int .i64 a1_1, .int .i64 a1_2, .int .i64 a1_3, .slice A1_4 l1_4.length c1_4]) (t := 29) ?hr ?_; (case hd => rfl); (case hg => rfl); (case hr => first | (go_simp; done) | (go_simp; rfl)); intro gb204 hg w8 hbox hb; have BK204 := Aside0.mk (hbox); have GW204 := Aside0.mk ((by rw [hg]; exact (below_size z1) : w.heap.size ≤ gb204)); have GE204 := Aside0.mk ((by rw [hg]; exact (below_size z1) : w.heap.size ≤ gb204)); replace HB := Aside0.mk (below_step z1 hb); clear hb hbox hg; obtain ⟨hcz9_0, hcz9_1, hcz9_2, hcz9_3, hcz9_4, hfz9_0, hfz9_1, hfz9_2, hfz9_3, hfz9_4⟩ := cbf5 BK204) | ((with_reducible refine gate_callee (f := 65) rfl ?_); refine goesL_ (some 11) rfl rfl Try.func65 (by kernel_rfl) rfl #[.slice A0 l0.length c0, .agg #[.slice A1_0 l1_0.length c1_0, .int .i64 a1_1, .int .i64 a1_2, .int .i64 a1_3, .slice A1_4 l1_4.length c1_4]] rfl z2 ?_; (with_reducible refine (spec_l21Bounds.calls k _ _ l0 _ _ l1_0 a1_1 a1_2 a1_3 _ _ l1_4 true _ ?side1 ?side2 ?side3 ?side4 ?side5 ?side6 A3.out).mono ?_); (case side1 => repeat (first | exact (Kd.C_below HR0.out HB.out) | (with_reducible refine Kd.C_alloc ?_ _) | (with_reducible refine Kd.C_drewN ?_ _) | (with_reducible refine Kd.C_drew ?_))); (case side2 => exact HC0.out); (case side3 => repeat (first | exact (Kd.C_below HR1_0.out HB.out) | (with_reducible refine Kd.C_alloc ?_ _) | (with_reducible refine Kd.C_drewN ?_ _) | (with_reducible refine Kd.C_drew ?_))); (case side4 => exact HC1_0.out); (case side5 => repeat (first | exact (Kd.C_below HR1_4.out HB.out) | (with_reducible refine Kd.C_alloc ?_ _) | (with_reducible refine Kd.C_drewN ?_ _) | (with_reducible refine Kd.C_drew ?_))); (case side6 => exact HC1_4.out); rintro e w10 ⟨rfl, hb⟩; refine ⟨_, rfl, ?_⟩; replace BK204 := Aside0.mk (blk_below (g := gb204) (o := .cells #[.slice A1_0 l1_0.length c1_0, .int .i64 a1_1, .int .i64 a1_2, .int .i64 a1_3, .slice A1_4 l1_4.length c1_4] 29 (0, 0)) z35 hb); replace HB := Aside0.mk (below_step z14 hb); (try clear hb); (try clear hb2); (try clear hk); (try clear hi); obtain ⟨hcz11_0, hcz11_1, hcz11_2, hcz11_3, hcz11_4, hfz11_0, hfz11_1, hfz11_2, hfz11_3, hfz11_4⟩ := cbf5 BK204) | ((with_reducible refine gate_callee (f := 37) rfl ?_); refine goesL_ (some 16) rfl rfl Try.func37 (by kernel_rfl) rfl #[.slice A0 l0.length c0, .agg #[.slice A1_0 l1_0.length c1_0, .int .i64 a1_1, .int .i64 a1_2, .int .i64 a1_3, .slice A1_4 l1_4.length c1_4]] rfl z2 ?_; (with_reducible refine (spec_l21Walk.calls k _ _ l0 _ _ l1_0 a1_1 a1_2 a1_3 _ _ l1_4 t206 true _ ?side1 ?side2 ?side3 ?side4 ?side5 ?side6 A5.out).mono ?_); (case side1 => repeat (first | exact (Kd.C_below HR0.out HB.out) | (with_reducible refine Kd.C_alloc ?_ _) | (with_reducible refine Kd.C_drewN ?_ _) | (with_reducible refine Kd.C_drew ?_))); (case side2 => exact HC0.out); (case side3 => repeat (first | exact (Kd.C_below HR1_0.out HB.out) | (with_reducible refine Kd.C_alloc ?_ _) | (with_reducible refine Kd.C_drewN ?_ _) | (with_reducible refine Kd.C_drew ?_))); (case side4 => exact HC1_0.out); (case side5 => repeat (first | exact (Kd.C_below HR1_4.out HB.out) | (with_reducible refine Kd.C_alloc ?_ _) | (with_reducible refine Kd.C_drewN ?_ _) | (with_reducible refine Kd.C_drew ?_))); (case side6 => exact HC1_4.out); rintro e w12 ⟨v207, rfl, ho0, hb⟩; refine ⟨_, rfl, ?_⟩; have HO208 := Aside0.mk (Kd.R_lower ho0 (below_size z14)); replace BK204 := Aside0.mk (blk_below (g := gb204) (o := .cells #[.slice A1_0 l1_0.length c1_0, .int .i64 a1_1, .int .i64 a1_2, .int .i64 a1_3, .slice A1_4 l1_4.length c1_4] 29 (0, 0)) z35 hb); replace HB := Aside0.mk (below_step z14 hb); (try clear hb); (try clear hb2); (try clear hk); (try clear hi); (try clear ho0); obtain ⟨hcz13_0, hcz13_1, hcz13_2, hcz13_3, hcz13_4, hfz13_0, hfz13_1, hfz13_2, hfz13_3, hfz13_4⟩ := cbf5 BK204; obtain ⟨Ao14, co14, eo14⟩ := Kd.R_slice HO208.out; subst eo14) | ((with_reducible refine gate_callee (f := 39) rfl ?_); refine goesL_ (some 25) rfl rfl Try.func39 (by kernel_rfl) rfl #[.int .i64 (l1_0.length : Int), .slice Ao14 t206.length co14] rfl z2 ?_; (with_reducible refine (spec_l21Starts.calls k (l1_0.length : Int) _ _ t206 t210 _ ?side1 ?side2 A7.out).mono ?_); (case side1 => repeat (first | exact (Kd.R_reads' HO208.out).2.2 | (with_reducible refine Kd.C_alloc ?_ _) | (with_reducible refine Kd.C_drewN ?_ _) | (with_reducible refine Kd.C_drew ?_))); (case side2 => exact (Kd.R_reads' HO208.out).2.1); rintro e w15 ⟨v211, rfl, ho0, hb⟩; refine ⟨_, rfl, ?_⟩; have HO212 := Aside0.mk (Kd.R_lower ho0 (below_size z14)); replace HO208 := Aside0.mk (Kd.R_below (by (with_reducible repeat (first | apply Kd.R_alloc | apply Kd.R_drewN | apply Kd.R_drew)); exact HO208.out) hb); replace BK204 := Aside0.mk (blk_below (g := gb204) (o := .cells #[.slice A1_0 l1_0.length c1_0, .int .i64 a1_1, .int .i64 a1_2, .int .i64 a1_3, .slice A1_4 l1_4.length c1_4] 29 (0, 0)) z35 hb); replace HB := Aside0.mk (below_step z14 hb); (try clear hb); (try clear hb2); (try clear hk); (try clear hi); (try clear ho0)))
   go_loopg [8] k (fun kq v8 w' => ∃ (x8_1 : Int), v8 = .int .i64 x8_1 ∧ Aside0 (spec_MemOk.l0 kq l0 t206 t210 x8_1 l1_0 a1_1 a1_2 a1_3 l1_4 = some r) ∧ Aside0 (kq ≤ k) ∧ Aside0 (Kd.R (Kd.int .i64) 3 w' w.heap.size (fun _ => True) (.slice Ao14 t206.length co14) t206) ∧ Aside0 (Kd.R Kd.bool 4 w' w.heap.size (fun _ => True) v211 t210) ∧ Aside0 (w'.heap[gb204]? = some (.cells #[(.slice A1_0 l1_0.length c1_0), .int .i64 a1_1, .int .i64 a1_2, .int .i64 a1_3, (.slice A1_4 l1_4.length c1_4)] 29 (0, 0))) ∧ Aside0 (Below w.heap.size w w'))
   case atStart => exact ⟨(0), z5, H', ⟨Nat.le_refl _⟩, ⟨by (with_reducible repeat (first | apply Kd.R_alloc | apply Kd.R_drewN | apply Kd.R_drew)); exact HO208.out⟩, ⟨by (with_reducible repeat (first | apply Kd.R_alloc | apply Kd.R_drewN | apply Kd.R_drew)); exact HO212.out⟩, ⟨by (with_reducible repeat (first | refine blk_drewN ?_ _ | refine blk_drew ?_ | refine blk_alloc ?_ _)); exact BK204.out⟩, ⟨by repeat (first | (with_reducible first | exact HB.out | apply below_alloc | apply pw_below_drewN | apply below_drew1 | refine below_set ?_ GE204.out) | exact HB.out)⟩⟩
   case round =>
    clear H'
    try clear c1
    try clear p2
    try clear c3
    try clear c4
    try clear c6
    try clear hcz11_0
    try clear hcz11_1
    try clear hcz11_2
    try clear hcz11_3
    try clear hcz11_4
    try clear hcz13_0
    try clear hcz13_1
    try clear hcz13_2
    try clear hcz13_3
    try clear hcz13_4
    try clear hcz9_0
    try clear hcz9_1
    try clear hcz9_2
    try clear hcz9_3
    try clear hcz9_4
    try clear hfz11_0
    try clear hfz11_1
    try clear hfz11_2
    try clear hfz11_3
    try clear hfz11_4
    try clear hfz13_0
    try clear hfz13_1
    try clear hfz13_2
    try clear hfz13_3
    try clear hfz13_4
    try clear hfz9_0
    try clear hfz9_1
    try clear hfz9_2
    try clear hfz9_3
    try clear hfz9_4
    obtain ⟨x8_1, rfl, HA, HK1, HO_5, HO_7, BK204, HB⟩ := hrel
    cases gk with
    | zero => exact absurd HA.out (by simp [spec_MemOk.l0])
    | succ k1 =>
     have H := HA.out
     clear HA
     simp only [spec_MemOk.l0] at H
     by_cases c16 : x8_1 < (t206.length : Int)
     ·rw [if_pos c16] at H
      have c16b0 : decide (x8_1 < (t206.length : Int)) = true := decide_eq_true c16
      clear c16
      by_cases c17 : 0 ≤ x8_1
      ·rw [if_pos c17] at H
       have c17b0 : decide (0 ≤ x8_1) = true := decide_eq_true c17
       clear c17
       replace H := Option.bind_eq_some_iff.mp H
       obtain ⟨t214, A180, H⟩ := H
       try dsimp only at H
       have A18 := Aside0.mk A180
       clear A180
       by_cases c19 : t214 = true
       ·subst c19
        rw [if_pos rfl] at H
        have H' := Aside0.mk H
        clear H
        try go_wp2
        have n0_ := Aside0.mk (Kd.R_drew HO_5.out)
        have n1_ := Aside0.mk (Kd.R_drew HO_7.out)
        have n2_ := Aside0.mk (blk_drew BK204.out)
        have n3_ := Aside0.mk (below_drew1 HB.out)
        clear HO_5
        clear HO_7
        clear BK204
        clear HB
        have HO_5 := n0_
        have HO_7 := n1_
        have BK204 := n2_
        have HB := n3_
        clear n0_ n1_ n2_ n3_
        have p213 : 0 ≤ (x8_1 : Int) := of_decide_eq_true z3
        have q213 : x8_1 < (t206.length : Int) := of_decide_eq_true z3
        obtain ⟨ad213, e213, hx213_0⟩ := Kd.at_int (Kd.R_reads' HO_5.out).2.2 x8_1 p213 q213
        cases e213
        replace p213 := eq_true p213
        replace q213 := eq_true q213
        obtain ⟨Ao21, co21, eo21⟩ := Kd.R_slice HO_7.out
        (first | subst eo21 | (injection eo21 with f1_ f2_ f3_; have f4_ := f1_.symm; have f5_ := f3_.symm; clear f1_ f2_ f3_; subst f4_; subst f5_))
        refine start_ (n := 9) (S := fun w' => w'.cell? ⟨gb204, 0, none⟩ = some (.slice A1_0 l1_0.length c1_0) ∧ w'.cell? ⟨gb204, 1, none⟩ = some (.int .i64 a1_1) ∧ w'.cell? ⟨gb204, 2, none⟩ = some (.int .i64 a1_2) ∧ w'.cell? ⟨gb204, 3, none⟩ = some (.int .i64 a1_3) ∧ w'.cell? ⟨gb204, 4, none⟩ = some (.slice A1_4 l1_4.length c1_4) ∧ w'.cell? (ad213.add (x8_1).toNat) = some (.int .i64 (rd t206 x8_1))) (ds := []) #[false, false, false, false, false, false, false, false, false] (by kernel_rfl) rfl rfl ⟨(blk_cell BK204.out 0).trans rfl, (blk_cell BK204.out 1).trans rfl, (blk_cell BK204.out 2).trans rfl, (blk_cell BK204.out 3).trans rfl, (blk_cell BK204.out 4).trans rfl, hx213_0⟩ (fun hHeld => ?_); refine with_tabW spec_MemOk.tab10 spec_MemOk.bits10 (fun HT_ HW_ => ?_)
        generalize wr.drew = w20 at HO_5 HO_7 BK204 HB hx213_0 hHeld ⊢
        refine pS 0 32 #[true, false, false, false, false, false, false, false, false] ?_ (hc := (any_of HT_.out (by kernel_rfl)))
        refine pS 2 34 #[true, false, true, false, false, false, false, false, false] ?_ (hc := (any_of HT_.out (by kernel_rfl)))
        refine pS 3 35 #[true, false, true, true, false, false, false, false, false] ?_ (hc := (any_of HT_.out (by kernel_rfl)))
        refine pS 4 36 #[true, false, true, true, true, false, false, false, false] ?_ (hc := (any_of HT_.out (by kernel_rfl)))
        refine pS 5 37 #[true, false, true, true, true, true, false, false, false] ?_ (hc := (any_of HT_.out (by kernel_rfl)))
        refine tS 1 33 #[true, true, true, true, true, true, false, false, false] rfl rfl (take_ofW HT_.out HW_.out (by kernel_rfl)) hHeld z4 ?_
        refine tS 6 38 #[true, true, true, true, true, true, true, false, false] rfl rfl (take_ofW HT_.out HW_.out (by kernel_rfl)) hHeld z4 ?_
        refine one_ (i := 7) (N := some 39) #[true, true, true, true, true, true, true, true, false] rfl rfl (one_of HT_.out (by kernel_rfl)) (by decide) (fun K hK => ?_)
        refine goes_ Try.func66 (by kernel_rfl) rfl #[.slice A0 l0.length c0, .agg #[.slice A1_0 l1_0.length c1_0, .int .i64 a1_1, .int .i64 a1_2, .int .i64 a1_3, .slice A1_4 l1_4.length c1_4], .slice Ao21 t210.length co21, .int .i64 (rd t206 x8_1)] (by rfl) rfl rfl z2 ?_
        with_reducible refine (spec_l21Thing.calls k1 _ _ l0 _ _ l1_0 a1_1 a1_2 a1_3 _ _ l1_4 _ _ t210 (rd t206 x8_1) true _ ?side1 ?side2 ?side3 ?side4 ?side5 ?side6 ?side7 ?side8 A18.out).mono ?_
        (case side1 => repeat (first | exact (Kd.C_below HR0.out HB.out) | (with_reducible refine Kd.C_alloc ?_ _) | (with_reducible refine Kd.C_drewN ?_ _) | (with_reducible refine Kd.C_drew ?_)))
        (case side2 => exact HC0.out)
        (case side3 => repeat (first | exact (Kd.C_below HR1_0.out HB.out) | (with_reducible refine Kd.C_alloc ?_ _) | (with_reducible refine Kd.C_drewN ?_ _) | (with_reducible refine Kd.C_drew ?_)))
        (case side4 => exact HC1_0.out)
        (case side5 => repeat (first | exact (Kd.C_below HR1_4.out HB.out) | (with_reducible refine Kd.C_alloc ?_ _) | (with_reducible refine Kd.C_drewN ?_ _) | (with_reducible refine Kd.C_drew ?_)))
        (case side6 => exact HC1_4.out)
        (case side7 => repeat (first | exact (Kd.R_reads' HO_7.out).2.2 | (with_reducible refine Kd.C_alloc ?_ _) | (with_reducible refine Kd.C_drewN ?_ _) | (with_reducible refine Kd.C_drew ?_)))
        (case side8 => exact (Kd.R_reads' HO_7.out).2.1)
        rintro e w22 ⟨rfl, hb⟩
        have HS5_ := (hb.cell (World.block_lt_of_cell? _ _ (hHeld.2.2.2.2.2))).trans (hHeld.2.2.2.2.2)
        refine ⟨_, rfl, ?_⟩
        have n0_ := Aside0.mk (Kd.R_below (by (with_reducible repeat (first | apply Kd.R_alloc | apply Kd.R_drewN | apply Kd.R_drew)); exact HO_5.out) hb)
        have n1_ := Aside0.mk (Kd.R_below z50 hb)
        have n2_ := Aside0.mk (blk_below (g := gb204) (o := .cells #[.slice A1_0 l1_0.length c1_0, .int .i64 a1_1, .int .i64 a1_2, .int .i64 a1_3, .slice A1_4 l1_4.length c1_4] 29 (0, 0)) z35 hb)
        have n3_ := Aside0.mk (below_step z14 hb)
        clear HO_5
        clear HO_7
        clear BK204
        clear HB
        have HO_5 := n0_
        have HO_7 := n1_
        have BK204 := n2_
        have HB := n3_
        clear n0_ n1_ n2_ n3_
        (try clear hb)
        (try clear hb2)
        (try clear hk)
        (try clear hi)
        refine hK.out _ _ ⟨(blk_cell BK204.out 0).trans rfl, (blk_cell BK204.out 1).trans rfl, (blk_cell BK204.out 2).trans rfl, (blk_cell BK204.out 3).trans rfl, (blk_cell BK204.out 4).trans rfl, HS5_⟩ (fun hHeld => ?_)
        clear hK K
        refine norm_ (a' := ?_) ?_ ?_
        rotate_left
        ·show Act.put _ (some 39) _ = _
         simp only [Act.put, lA1, lA2, lA3, i64_w, i32_w]
         rfl
        refine pS 8 40 #[true, true, true, true, true, true, true, true, true] ?_ (hc := (any_of HT_.out (by kernel_rfl)))
        refine done_ (done_of HT_.out (by kernel_rfl)) ?_
        try go_wp2
        go_roundg k1
        case measure => have := HK1.out; omega
        case rel => exact ⟨(wrap64 (x8_1 + 1)), z5, H', ⟨by have := HK1.out; omega⟩, ⟨by (with_reducible repeat (first | apply Kd.R_alloc | apply Kd.R_drewN | apply Kd.R_drew)); exact HO_5.out⟩, ⟨by (with_reducible repeat (first | apply Kd.R_alloc | apply Kd.R_drewN | apply Kd.R_drew)); exact HO_7.out⟩, ⟨by (with_reducible repeat (first | refine blk_drewN ?_ _ | refine blk_drew ?_ | refine blk_alloc ?_ _)); exact BK204.out⟩, ⟨by repeat (first | (with_reducible first | exact HB.out | apply below_alloc | apply pw_below_drewN | apply below_drew1 | refine below_set ?_ GE204.out) | exact HB.out)⟩⟩
       ·replace c19 := Bool.eq_false_iff.mpr c19
        subst c19
        rw [if_neg (show ¬ (false = true) by decide)] at H
        obtain rfl := Option.some.inj H
        try go_wp2
        have n0_ := Aside0.mk (Kd.R_drew HO_5.out)
        have n1_ := Aside0.mk (Kd.R_drew HO_7.out)
        have n2_ := Aside0.mk (blk_drew BK204.out)
        have n3_ := Aside0.mk (below_drew1 HB.out)
        clear HO_5
        clear HO_7
        clear BK204
        clear HB
        have HO_5 := n0_
        have HO_7 := n1_
        have BK204 := n2_
        have HB := n3_
        clear n0_ n1_ n2_ n3_
        have p213 : 0 ≤ (x8_1 : Int) := of_decide_eq_true z3
        have q213 : x8_1 < (t206.length : Int) := of_decide_eq_true z3
        obtain ⟨ad213, e213, hx213_0⟩ := Kd.at_int (Kd.R_reads' HO_5.out).2.2 x8_1 p213 q213
        cases e213
        replace p213 := eq_true p213
        replace q213 := eq_true q213
        obtain ⟨Ao24, co24, eo24⟩ := Kd.R_slice HO_7.out
        (first | subst eo24 | (injection eo24 with f1_ f2_ f3_; have f4_ := f1_.symm; have f5_ := f3_.symm; clear f1_ f2_ f3_; subst f4_; subst f5_))
        refine start_ (n := 9) (S := fun w' => w'.cell? ⟨gb204, 0, none⟩ = some (.slice A1_0 l1_0.length c1_0) ∧ w'.cell? ⟨gb204, 1, none⟩ = some (.int .i64 a1_1) ∧ w'.cell? ⟨gb204, 2, none⟩ = some (.int .i64 a1_2) ∧ w'.cell? ⟨gb204, 3, none⟩ = some (.int .i64 a1_3) ∧ w'.cell? ⟨gb204, 4, none⟩ = some (.slice A1_4 l1_4.length c1_4) ∧ w'.cell? (ad213.add (x8_1).toNat) = some (.int .i64 (rd t206 x8_1))) (ds := []) #[false, false, false, false, false, false, false, false, false] (by kernel_rfl) rfl rfl ⟨(blk_cell BK204.out 0).trans rfl, (blk_cell BK204.out 1).trans rfl, (blk_cell BK204.out 2).trans rfl, (blk_cell BK204.out 3).trans rfl, (blk_cell BK204.out 4).trans rfl, hx213_0⟩ (fun hHeld => ?_); refine with_tabW spec_MemOk.tab10 spec_MemOk.bits10 (fun HT_ HW_ => ?_)
        generalize wr.drew = w23 at HO_5 HO_7 BK204 HB hx213_0 hHeld ⊢
        refine pS 0 32 #[true, false, false, false, false, false, false, false, false] ?_ (hc := (any_of HT_.out (by kernel_rfl)))
        refine pS 2 34 #[true, false, true, false, false, false, false, false, false] ?_ (hc := (any_of HT_.out (by kernel_rfl)))
        refine pS 3 35 #[true, false, true, true, false, false, false, false, false] ?_ (hc := (any_of HT_.out (by kernel_rfl)))
        refine pS 4 36 #[true, false, true, true, true, false, false, false, false] ?_ (hc := (any_of HT_.out (by kernel_rfl)))
        refine pS 5 37 #[true, false, true, true, true, true, false, false, false] ?_ (hc := (any_of HT_.out (by kernel_rfl)))
        refine tS 1 33 #[true, true, true, true, true, true, false, false, false] rfl rfl (take_ofW HT_.out HW_.out (by kernel_rfl)) hHeld z4 ?_
        refine tS 6 38 #[true, true, true, true, true, true, true, false, false] rfl rfl (take_ofW HT_.out HW_.out (by kernel_rfl)) hHeld z4 ?_
        refine one_ (i := 7) (N := some 39) #[true, true, true, true, true, true, true, true, false] rfl rfl (one_of HT_.out (by kernel_rfl)) (by decide) (fun K hK => ?_)
        refine goes_ Try.func66 (by kernel_rfl) rfl #[.slice A0 l0.length c0, .agg #[.slice A1_0 l1_0.length c1_0, .int .i64 a1_1, .int .i64 a1_2, .int .i64 a1_3, .slice A1_4 l1_4.length c1_4], .slice Ao24 t210.length co24, .int .i64 (rd t206 x8_1)] (by rfl) rfl rfl z2 ?_
        with_reducible refine (spec_l21Thing.calls k1 _ _ l0 _ _ l1_0 a1_1 a1_2 a1_3 _ _ l1_4 _ _ t210 (rd t206 x8_1) false _ ?side1 ?side2 ?side3 ?side4 ?side5 ?side6 ?side7 ?side8 A18.out).mono ?_
        (case side1 => repeat (first | exact (Kd.C_below HR0.out HB.out) | (with_reducible refine Kd.C_alloc ?_ _) | (with_reducible refine Kd.C_drewN ?_ _) | (with_reducible refine Kd.C_drew ?_)))
        (case side2 => exact HC0.out)
        (case side3 => repeat (first | exact (Kd.C_below HR1_0.out HB.out) | (with_reducible refine Kd.C_alloc ?_ _) | (with_reducible refine Kd.C_drewN ?_ _) | (with_reducible refine Kd.C_drew ?_)))
        (case side4 => exact HC1_0.out)
        (case side5 => repeat (first | exact (Kd.C_below HR1_4.out HB.out) | (with_reducible refine Kd.C_alloc ?_ _) | (with_reducible refine Kd.C_drewN ?_ _) | (with_reducible refine Kd.C_drew ?_)))
        (case side6 => exact HC1_4.out)
        (case side7 => repeat (first | exact (Kd.R_reads' HO_7.out).2.2 | (with_reducible refine Kd.C_alloc ?_ _) | (with_reducible refine Kd.C_drewN ?_ _) | (with_reducible refine Kd.C_drew ?_)))
        (case side8 => exact (Kd.R_reads' HO_7.out).2.1)
        rintro e w25 ⟨rfl, hb⟩
        have HS5_ := (hb.cell (World.block_lt_of_cell? _ _ (hHeld.2.2.2.2.2))).trans (hHeld.2.2.2.2.2)
        refine ⟨_, rfl, ?_⟩
        have n0_ := Aside0.mk (Kd.R_below (by (with_reducible repeat (first | apply Kd.R_alloc | apply Kd.R_drewN | apply Kd.R_drew)); exact HO_5.out) hb)
        have n1_ := Aside0.mk (Kd.R_below z50 hb)
        have n2_ := Aside0.mk (blk_below (g := gb204) (o := .cells #[.slice A1_0 l1_0.length c1_0, .int .i64 a1_1, .int .i64 a1_2, .int .i64 a1_3, .slice A1_4 l1_4.length c1_4] 29 (0, 0)) z35 hb)
        have n3_ := Aside0.mk (below_step z14 hb)
        clear HO_5
        clear HO_7
        clear BK204
        clear HB
        have HO_5 := n0_
        have HO_7 := n1_
        have BK204 := n2_
        have HB := n3_
        clear n0_ n1_ n2_ n3_
        (try clear hb)
        (try clear hb2)
        (try clear hk)
        (try clear hi)
        refine hK.out _ _ ⟨(blk_cell BK204.out 0).trans rfl, (blk_cell BK204.out 1).trans rfl, (blk_cell BK204.out 2).trans rfl, (blk_cell BK204.out 3).trans rfl, (blk_cell BK204.out 4).trans rfl, HS5_⟩ (fun hHeld => ?_)
        clear hK K
        refine norm_ (a' := ?_) ?_ ?_
        rotate_left
        ·show Act.put _ (some 39) _ = _
         simp only [Act.put, lA1, lA2, lA3, i64_w, i32_w]
         rfl
        refine pS 8 40 #[true, true, true, true, true, true, true, true, true] ?_ (hc := (any_of HT_.out (by kernel_rfl)))
        refine done_ (done_of HT_.out (by kernel_rfl)) ?_
        try go_wp2
        go_ret
        exact ⟨by first | rfl | (simp [errW_none, errW_some] <;> rfl) | (simp [*, errW_none, errW_some] <;> rfl), by repeat (first | (with_reducible first | exact HB.out | apply below_alloc | apply pw_below_drewN | apply below_drew1 | refine below_set ?_ GE204.out) | exact HB.out)⟩
      ·rw [if_neg c17] at H
       exact absurd H (by simp)
     ·rw [if_neg c16] at H
      have c16b0 : decide (x8_1 < (t206.length : Int)) = false := decide_eq_false c16
      clear c16
      obtain rfl := Option.some.inj H
      go_wp2
      go_ret
      exact ⟨by first | rfl | (simp [errW_none, errW_some] <;> rfl) | (simp [*, errW_none, errW_some] <;> rfl), by repeat (first | (with_reducible first | exact HB.out | apply below_alloc | apply pw_below_drewN | apply below_drew1 | refine below_set ?_ GE204.out) | exact HB.out)⟩
  ·replace c6 := Bool.eq_false_iff.mpr c6
   subst c6
   rw [if_neg (show ¬ (false = true) by decide)] at H
   obtain rfl := Option.some.inj H
   go_enter Try.func34, Try.ntmps34
   go_wp2_with (first | ((with_reducible refine gate_dst (N := 3) rfl ?_); refine box_event ?hg (N := 3) ?hd (cs := #[.slice A1_0 l1_0.length c1_0, .int .i64 a1_1, .int .i64 a1_2, .int .i64 a1_3, .slice A1_4 l1_4.length c1_4]) (t := 29) ?hr ?_; (case hd => rfl); (case hg => rfl); (case hr => first | (go_simp; done) | (go_simp; rfl)); intro gb204 hg w26 hbox hb; have BK204 := Aside0.mk (hbox); have GW204 := Aside0.mk ((by rw [hg]; exact (below_size z1) : w.heap.size ≤ gb204)); have GE204 := Aside0.mk ((by rw [hg]; exact (below_size z1) : w.heap.size ≤ gb204)); replace HB := Aside0.mk (below_step z1 hb); clear hb hbox hg; obtain ⟨hcz27_0, hcz27_1, hcz27_2, hcz27_3, hcz27_4, hfz27_0, hfz27_1, hfz27_2, hfz27_3, hfz27_4⟩ := cbf5 BK204) | ((with_reducible refine gate_callee (f := 65) rfl ?_); refine goesL_ (some 11) rfl rfl Try.func65 (by kernel_rfl) rfl #[.slice A0 l0.length c0, .agg #[.slice A1_0 l1_0.length c1_0, .int .i64 a1_1, .int .i64 a1_2, .int .i64 a1_3, .slice A1_4 l1_4.length c1_4]] rfl z2 ?_; (with_reducible refine (spec_l21Bounds.calls k _ _ l0 _ _ l1_0 a1_1 a1_2 a1_3 _ _ l1_4 true _ ?side1 ?side2 ?side3 ?side4 ?side5 ?side6 A3.out).mono ?_); (case side1 => repeat (first | exact (Kd.C_below HR0.out HB.out) | (with_reducible refine Kd.C_alloc ?_ _) | (with_reducible refine Kd.C_drewN ?_ _) | (with_reducible refine Kd.C_drew ?_))); (case side2 => exact HC0.out); (case side3 => repeat (first | exact (Kd.C_below HR1_0.out HB.out) | (with_reducible refine Kd.C_alloc ?_ _) | (with_reducible refine Kd.C_drewN ?_ _) | (with_reducible refine Kd.C_drew ?_))); (case side4 => exact HC1_0.out); (case side5 => repeat (first | exact (Kd.C_below HR1_4.out HB.out) | (with_reducible refine Kd.C_alloc ?_ _) | (with_reducible refine Kd.C_drewN ?_ _) | (with_reducible refine Kd.C_drew ?_))); (case side6 => exact HC1_4.out); rintro e w28 ⟨rfl, hb⟩; refine ⟨_, rfl, ?_⟩; replace BK204 := Aside0.mk (blk_below (g := gb204) (o := .cells #[.slice A1_0 l1_0.length c1_0, .int .i64 a1_1, .int .i64 a1_2, .int .i64 a1_3, .slice A1_4 l1_4.length c1_4] 29 (0, 0)) z35 hb); replace HB := Aside0.mk (below_step z14 hb); (try clear hb); (try clear hb2); (try clear hk); (try clear hi); obtain ⟨hcz29_0, hcz29_1, hcz29_2, hcz29_3, hcz29_4, hfz29_0, hfz29_1, hfz29_2, hfz29_3, hfz29_4⟩ := cbf5 BK204) | ((with_reducible refine gate_callee (f := 37) rfl ?_); refine goesL_ (some 16) rfl rfl Try.func37 (by kernel_rfl) rfl #[.slice A0 l0.length c0, .agg #[.slice A1_0 l1_0.length c1_0, .int .i64 a1_1, .int .i64 a1_2, .int .i64 a1_3, .slice A1_4 l1_4.length c1_4]] rfl z2 ?_; (with_reducible refine (spec_l21Walk.calls k _ _ l0 _ _ l1_0 a1_1 a1_2 a1_3 _ _ l1_4 t206 false _ ?side1 ?side2 ?side3 ?side4 ?side5 ?side6 A5.out).mono ?_); (case side1 => repeat (first | exact (Kd.C_below HR0.out HB.out) | (with_reducible refine Kd.C_alloc ?_ _) | (with_reducible refine Kd.C_drewN ?_ _) | (with_reducible refine Kd.C_drew ?_))); (case side2 => exact HC0.out); (case side3 => repeat (first | exact (Kd.C_below HR1_0.out HB.out) | (with_reducible refine Kd.C_alloc ?_ _) | (with_reducible refine Kd.C_drewN ?_ _) | (with_reducible refine Kd.C_drew ?_))); (case side4 => exact HC1_0.out); (case side5 => repeat (first | exact (Kd.C_below HR1_4.out HB.out) | (with_reducible refine Kd.C_alloc ?_ _) | (with_reducible refine Kd.C_drewN ?_ _) | (with_reducible refine Kd.C_drew ?_))); (case side6 => exact HC1_4.out); rintro e w30 ⟨v207, rfl, ho0, hb⟩; refine ⟨_, rfl, ?_⟩; have HO208 := Aside0.mk (Kd.R_lower ho0 (below_size z14)); replace BK204 := Aside0.mk (blk_below (g := gb204) (o := .cells #[.slice A1_0 l1_0.length c1_0, .int .i64 a1_1, .int .i64 a1_2, .int .i64 a1_3, .slice A1_4 l1_4.length c1_4] 29 (0, 0)) z35 hb); replace HB := Aside0.mk (below_step z14 hb); (try clear hb); (try clear hb2); (try clear hk); (try clear hi); (try clear ho0)))
   go_ret
   exact ⟨by first | rfl | (simp [errW_none, errW_some] <;> rfl) | (simp [*, errW_none, errW_some] <;> rfl), by repeat (first | (with_reducible first | exact HB.out | apply below_alloc | apply pw_below_drewN | apply below_drew1 | refine below_set ?_ GE204.out) | exact HB.out)⟩
 ·replace c4 := Bool.eq_false_iff.mpr c4
  subst c4
  rw [if_neg (show ¬ (false = true) by decide)] at H
  obtain rfl := Option.some.inj H
  go_enter Try.func34, Try.ntmps34
  go_wp2_with (first | ((with_reducible refine gate_dst (N := 3) rfl ?_); refine box_event ?hg (N := 3) ?hd (cs := #[.slice A1_0 l1_0.length c1_0, .int .i64 a1_1, .int .i64 a1_2, .int .i64 a1_3, .slice A1_4 l1_4.length c1_4]) (t := 29) ?hr ?_; (case hd => rfl); (case hg => rfl); (case hr => first | (go_simp; done) | (go_simp; rfl)); intro gb204 hg w31 hbox hb; have BK204 := Aside0.mk (hbox); have GW204 := Aside0.mk ((by rw [hg]; exact (below_size z1) : w.heap.size ≤ gb204)); have GE204 := Aside0.mk ((by rw [hg]; exact (below_size z1) : w.heap.size ≤ gb204)); replace HB := Aside0.mk (below_step z1 hb); clear hb hbox hg; obtain ⟨hcz32_0, hcz32_1, hcz32_2, hcz32_3, hcz32_4, hfz32_0, hfz32_1, hfz32_2, hfz32_3, hfz32_4⟩ := cbf5 BK204) | ((with_reducible refine gate_callee (f := 65) rfl ?_); refine goesL_ (some 11) rfl rfl Try.func65 (by kernel_rfl) rfl #[.slice A0 l0.length c0, .agg #[.slice A1_0 l1_0.length c1_0, .int .i64 a1_1, .int .i64 a1_2, .int .i64 a1_3, .slice A1_4 l1_4.length c1_4]] rfl z2 ?_; (with_reducible refine (spec_l21Bounds.calls k _ _ l0 _ _ l1_0 a1_1 a1_2 a1_3 _ _ l1_4 false _ ?side1 ?side2 ?side3 ?side4 ?side5 ?side6 A3.out).mono ?_); (case side1 => repeat (first | exact (Kd.C_below HR0.out HB.out) | (with_reducible refine Kd.C_alloc ?_ _) | (with_reducible refine Kd.C_drewN ?_ _) | (with_reducible refine Kd.C_drew ?_))); (case side2 => exact HC0.out); (case side3 => repeat (first | exact (Kd.C_below HR1_0.out HB.out) | (with_reducible refine Kd.C_alloc ?_ _) | (with_reducible refine Kd.C_drewN ?_ _) | (with_reducible refine Kd.C_drew ?_))); (case side4 => exact HC1_0.out); (case side5 => repeat (first | exact (Kd.C_below HR1_4.out HB.out) | (with_reducible refine Kd.C_alloc ?_ _) | (with_reducible refine Kd.C_drewN ?_ _) | (with_reducible refine Kd.C_drew ?_))); (case side6 => exact HC1_4.out); rintro e w33 ⟨rfl, hb⟩; refine ⟨_, rfl, ?_⟩; replace BK204 := Aside0.mk (blk_below (g := gb204) (o := .cells #[.slice A1_0 l1_0.length c1_0, .int .i64 a1_1, .int .i64 a1_2, .int .i64 a1_3, .slice A1_4 l1_4.length c1_4] 29 (0, 0)) z35 hb); replace HB := Aside0.mk (below_step z14 hb); (try clear hb); (try clear hb2); (try clear hk); (try clear hi)))
  go_ret
  exact ⟨by first | rfl | (simp [errW_none, errW_some] <;> rfl) | (simp [*, errW_none, errW_some] <;> rfl), by repeat (first | (with_reducible first | exact HB.out | apply below_alloc | apply pw_below_drewN | apply below_drew1 | refine below_set ?_ GE204.out) | exact HB.out)⟩
end Go.Proofs.Ytmniglgahodghaa.K
namespace Go.Proofs.Ytmniglgahodghaa.K
open Go.RowKit Go.Proofs.YtmniglgahodghaaW.PrintWords Go.Proofs.YtmniglgahodghaaW.PrintLast Go.Proofs.YtmniglgahodghaaW.PrintMore
attribute [local go_sem] max2_int min2_int max_two min_two max_three min_three max_four min_four
set_option linter.unusedVariables false
set_option linter.unusedSimpArgs false
def spec_l21Number.l0 : Nat → List Int → List Int → Int → Option (List Int)
  | 0, _, _, _ => none
  | k + 1, x1, x5, x6 => if x6 < (x1.length : Int) then (if 0 ≤ x6 then (if 0 ≤ (rd x1 x6) then (if (rd x1 x6) < (x5.length : Int) then (spec_l21Number.l0 k x1 (x5.set ((rd x1 x6) : Int).toNat (wrap64 (x6 + 1))) (wrap64 (x6 + 1))) else (none)) else (none)) else (none)) else (some x5)
def spec_l21Number.f (k : Nat) (a0 : Int) (l1 : List Int) : Option (List Int) := if 0 ≤ a0 then (if (a0 : Int).toNat ≤ 35184372088832 then (spec_l21Number.l0 k l1 (List.replicate (a0 : Int).toNat 0) 0) else (none)) else (none)
theorem spec_l21Number.mono_l : ∀ k, (∀ y0 y1 y2, LeO (spec_l21Number.l0 k y0 y1 y2) (spec_l21Number.l0 (k + 1) y0 y1 y2))
 | 0 => fun _ _ _ r h => by simp [spec_l21Number.l0] at h
 | k + 1 => by
  have ih0 := spec_l21Number.mono_l k
  ·intro y0 y1 y2
   unfold spec_l21Number.l0
   repeat' first
   | (with_reducible exact ih0 _ _ _)
   | (with_reducible exact LeO.refl _)
   | (with_reducible exact LeO.none _)
   | (with_reducible refine LeO.ite ?_ ?_)
   | (with_reducible refine LeO.bind ?_ (fun _ => ?_))
   | exact ih0 _ _ _
   | exact LeO.none _
   | refine LeO.ite ?_ ?_
   | refine LeO.bind ?_ (fun _ => ?_)
set_option maxHeartbeats 8000000 in
set_option maxRecDepth 100000 in
theorem spec_l21Number.calls (k : Nat) (a0 : Int) (A1 : Option Addr) (c1 : Nat) (l1 : List Int) (r : List Int) (w : World) (hr1 : Kd.C (Kd.int .i64) w A1 l1.length l1) (hc1 : l1.length ≤ c1) (h : spec_l21Number.f k a0 l1 = some r) :
  Calls Try.prog 87 #[.int .i64 a0, .slice A1 l1.length c1] w fun e w' => ∃ v0_ : Value, e = .returned (v0_) ∧ Kd.R (Kd.int .i64) 3 w' w.heap.size (fun _ => True) v0_ r ∧ Below w.heap.size w w' := by
 have HR1 := Aside0.mk hr1
 have HC1 := Aside0.mk hc1
 clear hr1 hc1
 have HB := Aside0.mk (Below.refl w.heap.size w)
 have H : (if 0 ≤ a0 then (if (a0 : Int).toNat ≤ 35184372088832 then (spec_l21Number.l0 k l1 (List.replicate (a0 : Int).toNat 0) 0) else (none)) else (none)) = some r := h
 clear h
 by_cases c3 : 0 ≤ a0
 ·rw [if_pos c3] at H
  have c3b0 := eq_true c3
  have c3b1 : decide (0 ≤ a0) = true := decide_eq_true c3
  clear c3
  by_cases c4 : (a0 : Int).toNat ≤ 35184372088832
  ·rw [if_pos c4] at H
   have c4b0 := eq_true c4
   have c4b1 : decide ((a0 : Int).toNat ≤ 35184372088832) = true := decide_eq_true c4
   clear c4
   obtain ⟨y344, hy344⟩ : ∃ y_ : List Int, y_ = (List.replicate (a0 : Int).toNat 0) := ⟨_, rfl⟩
   replace H : (spec_l21Number.l0 k l1 y344 0) = some r := by first | (rw [hy344]; with_reducible exact H) | (have H2_ := (Option.bind_some _ _).symm.trans H; rw [hy344]; with_reducible exact H2_) | (have H2_ := (Option.bind_some _ _).symm.trans H; with_reducible exact H2_) | with_reducible exact H | (rw [hy344]; exact H) | exact H
   have Ny344 := Aside0.mk hy344
   clear hy344
   have H' := Aside0.mk H
   clear H
   go_enter Try.func87, Try.ntmps87
   go_wp2_with (first | ((with_reducible refine gate_dst (N := 8) rfl ?_); refine Kd.R_make (Kd.int .i64) _ 3 rfl (N := 8) rfl 23 _ _ rfl a0 rfl rfl Try.underlying23 (.int .i64 0) 8 info3 rfl (by decide) (by omega) 0 (ok := fun _ => True) (okp := fun _ => True) rfl (fun _ hk => hk) trivial (of_decide_eq_true z3) (Nat.le_trans (Nat.mul_le_mul_right _ (of_decide_eq_true z3 : a0.toNat ≤ 35184372088832)) (by omega)) (Below.refl _ _) (Nat.le_refl _) ?_; intro v345 w5 ho6 hb hg_ hnew_; clear hg_ hnew_; (first | rw [← Ny344.out] at ho6 | (simp only [Int.reduceToNat] at ho6; rw [← Ny344.out] at ho6)); have HO346 := Aside0.mk (Kd.R_lower ho6 (below_size z1)); replace HB := Aside0.mk (below_step z1 hb); clear hb ho6))
   go_loopg [6] k (fun kq v6 w' => ∃ (x5_1 : List Int) (x6_1 : Int), v6 = .int .i64 x6_1 ∧ Aside0 (spec_l21Number.l0 kq l1 x5_1 x6_1 = some r) ∧ Aside0 (kq ≤ k) ∧ Aside0 (Kd.R (Kd.int .i64) 3 w' w.heap.size (fun _ => True) v345 x5_1) ∧ Aside0 (Below w.heap.size w w'))
   case atStart => exact ⟨(y344), (0), z5, H', ⟨Nat.le_refl _⟩, ⟨by (with_reducible repeat (first | apply Kd.R_alloc | apply Kd.R_drewN | apply Kd.R_drew)); exact HO346.out⟩, ⟨by repeat (first | (with_reducible first | exact HB.out | apply below_alloc | apply pw_below_drewN | apply below_drew1) | exact HB.out)⟩⟩
   case round =>
    clear H'
    try clear c1
    try clear p2
    try clear c3
    try clear c3b0
    try clear c3b1
    try clear c4
    try clear c4b0
    try clear c4b1
    obtain ⟨x5_1, x6_1, rfl, HA, HK1, HO_5, HB⟩ := hrel
    cases gk with
    | zero => exact absurd HA.out (by simp [spec_l21Number.l0])
    | succ k1 =>
     have H := HA.out
     clear HA
     simp only [spec_l21Number.l0] at H
     by_cases c7 : x6_1 < (l1.length : Int)
     ·rw [if_pos c7] at H
      have c7b0 : decide (x6_1 < (l1.length : Int)) = true := decide_eq_true c7
      clear c7
      by_cases c8 : 0 ≤ x6_1
      ·rw [if_pos c8] at H
       have c8b0 : decide (0 ≤ x6_1) = true := decide_eq_true c8
       clear c8
       by_cases c9 : 0 ≤ (rd l1 x6_1)
       ·rw [if_pos c9] at H
        have c9b0 : decide (0 ≤ (rd l1 x6_1)) = true := decide_eq_true c9
        clear c9
        by_cases c10 : (rd l1 x6_1) < (x5_1.length : Int)
        ·rw [if_pos c10] at H
         have c10b0 : decide ((rd l1 x6_1) < (x5_1.length : Int)) = true := decide_eq_true c10
         clear c10
         obtain ⟨y348, hy348⟩ : ∃ y_ : List Int, y_ = (x5_1.set ((rd l1 x6_1) : Int).toNat (wrap64 (x6_1 + 1))) := ⟨_, rfl⟩
         replace H : (spec_l21Number.l0 k1 l1 y348 (wrap64 (x6_1 + 1))) = some r := by first | (rw [hy348]; with_reducible exact H) | (have H2_ := (Option.bind_some _ _).symm.trans H; rw [hy348]; with_reducible exact H2_) | (have H2_ := (Option.bind_some _ _).symm.trans H; with_reducible exact H2_) | with_reducible exact H | (rw [hy348]; exact H) | exact H
         have Ny348 := Aside0.mk hy348
         clear hy348
         have H' := Aside0.mk H
         clear H
         have p347 : 0 ≤ (x6_1 : Int) := of_decide_eq_true z3
         have q347 : x6_1 < (l1.length : Int) := of_decide_eq_true z3
         obtain ⟨ad347, e347, hx347_0⟩ := Kd.at_int HR1.out x6_1 p347 q347
         cases e347
         replace hx347_0 := (HB.out.cell (World.block_lt_of_cell? w _ hx347_0)).trans hx347_0
         replace p347 := eq_true p347
         replace q347 := eq_true q347
         have p11 : 0 ≤ ((rd l1 x6_1) : Int) := of_decide_eq_true z3
         have q11 : ((rd l1 x6_1) : Int) < ((x5_1.length : Int) : Int) := of_decide_eq_true z3
         obtain ⟨go11, co11, eo11, gb11, gl11, cl11, HG11⟩ := Kd.R_form HO_5.out (by omega)
         (first | cases eo11 | (injection eo11 with ea_ en_ ec_; (first | subst ea_ | (injection ea_ with ea_; subst ea_)); subst ec_; clear en_))
         have GB11 := Aside0.mk gb11
         have GG11 := Aside0.mk HG11
         clear gb11 gl11 HG11
         obtain ⟨hx11_0, hf11_0⟩ := Kd.R_celln 0 HO_5.out ((rd l1 x6_1) : Int) p11 q11
         replace p11 := eq_true p11
         replace q11 := eq_true q11
         have HP12 := Kd.R_putg HO_5.out ((rd l1 x6_1) : Int) (wrap64 (x6_1 + 1))
         go_wp2_with (first | ((with_reducible refine gate_store (t := 3) (p := 22) rfl ?_); refine store_event (t := 3) (p := 22) (v := ?vo_w13) (w1 := (wr.setCell ⟨go11, ((rd l1 x6_1) : Int).toNat, none⟩ (.int .i64 (wrap64 (x6_1 + 1))))) ?hg ?ho ?hn ?hr ?_; (case ho => rfl); (case hg => rfl); (case hn => rfl); (case hr => first | (go_simp; done) | (go_simp; rfl) | ((try (first | (obtain ⟨_, _, rfl⟩ := Kd.R_slice HO_5.out) | (obtain ⟨_, _, rfl⟩ := Kd.S_slice HO_5.out))); first | (go_simp; done) | (go_simp; rfl))); intro w13 hw; have hg : wr.grownBy w13 (some go11) := (by rw [hw]; exact HP12.2); have hp_ : Kd.R (Kd.int .i64) 3 w13 w.heap.size (fun _ => True) (.slice (some ⟨go11, 0, none⟩) x5_1.length co11) y348 := (by rw [hw, Ny348.out]; exact HP12.1); clear HP12; replace HO_5 := Aside0.mk (hp_); replace HB := Aside0.mk ((by rw [hw]; exact below_set (HB.out) GB11.out : Below w.heap.size w w13)); clear hg hw hp_))
         go_roundg k1
         case measure => have := HK1.out; omega
         case rel => exact ⟨(y348), (wrap64 (x6_1 + 1)), z5, H', ⟨by have := HK1.out; omega⟩, ⟨by (with_reducible repeat (first | apply Kd.R_alloc | apply Kd.R_drewN | apply Kd.R_drew)); exact HO_5.out⟩, ⟨by repeat (first | (with_reducible first | exact HB.out | apply below_alloc | apply pw_below_drewN | apply below_drew1) | exact HB.out)⟩⟩
        ·rw [if_neg c10] at H
         exact absurd H (by simp)
       ·rw [if_neg c9] at H
        exact absurd H (by simp)
      ·rw [if_neg c8] at H
       exact absurd H (by simp)
     ·rw [if_neg c7] at H
      have c7b0 : decide (x6_1 < (l1.length : Int)) = false := decide_eq_false c7
      clear c7
      obtain rfl := Option.some.inj H
      go_wp2
      go_ret
      exact ⟨_, by first | rfl | (simp [errW_none, errW_some] <;> rfl) | (simp [*, errW_none, errW_some] <;> rfl), by (with_reducible repeat (first | apply Kd.R_alloc | apply Kd.R_drewN | apply Kd.R_drew)); exact HO_5.out, by repeat (first | (with_reducible first | exact HB.out | apply below_alloc | apply pw_below_drewN | apply below_drew1) | exact HB.out)⟩
  ·rw [if_neg c4] at H
   exact absurd H (by simp)
 ·rw [if_neg c3] at H
  exact absurd H (by simp)
end Go.Proofs.Ytmniglgahodghaa.K
