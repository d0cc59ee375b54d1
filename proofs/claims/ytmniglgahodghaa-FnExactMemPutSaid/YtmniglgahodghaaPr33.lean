import Derived.Test.YtmniglgahodghaaPr24
import Derived.Test.YtmniglgahodghaaPr32
import Derived.Test.YtmniglgahodghaaPr30
import Derived.Test.YtmniglgahodghaaPr31
import Derived.Test.YtmniglgahodghaaPr28
namespace Go.Proofs.Ytmniglgahodghaa.K
open Go.RowKit Go.Proofs.YtmniglgahodghaaW.PrintWords Go.Proofs.YtmniglgahodghaaW.PrintLast Go.Proofs.YtmniglgahodghaaW.PrintMore
attribute [local go_sem] max2_int min2_int max_two min_two max_three min_three max_four min_four
set_option linter.unusedVariables false
set_option linter.unusedSimpArgs false
mutual
def spec_l21Thing.l0 : Nat → List Bool → Int → List Bool → Int → List Int → Int → Int → Int → List Bool → Option (Bool)
 | 0, _, _, _, _, _, _, _, _, _ => none
 | k + 1, x2, x3, x9, x10, x190000, x190001, x190002, x190003, x190004 => if x10 < (x9.length : Int) then (if 0 ≤ (wrap64 (x3 + x10)) then (if (wrap64 (x3 + x10)) < (x190000.length : Int) then (if 0 ≤ x10 then (if rdOf false x9 x10 = true then ((spec_l21Lead.f x2 (rd x190000 (wrap64 (x3 + x10)))).bind fun t197 => (if t197 = true then (spec_l21Thing.j1 k x2 x3 x9 x10 (rd x190000 (wrap64 (x3 + x10))) false x190000 x190001 x190002 x190003 x190004) else (spec_l21Thing.j1 k x2 x3 x9 x10 (rd x190000 (wrap64 (x3 + x10))) true x190000 x190001 x190002 x190003 x190004))) else ((spec_l1Word.f (rd x190000 (wrap64 (x3 + x10)))).bind fun t200 => (spec_l21Thing.j1 k x2 x3 x9 x10 (rd x190000 (wrap64 (x3 + x10))) (!t200) x190000 x190001 x190002 x190003 x190004))) else (none)) else (none)) else (none)) else (some true)
def spec_l21Thing.j1 : Nat → List Bool → Int → List Bool → Int → Int → Bool → List Int → Int → Int → Int → List Bool → Option (Bool)
 | 0, _, _, _, _, _, _, _, _, _, _, _ => none
 | k + 1, x2, x3, x9, x10, x11, x57, x190000, x190001, x190002, x190003, x190004 => if x57 = true then (some false) else (if 0 ≤ x10 then (if x10 < (x9.length : Int) then (if rdOf false x9 x10 = true then (if x3 ≥ x190001 then ((spec_l6In.f x11 1 x190001).bind fun t202 => (if t202 = true then (if 0 ≤ (wrap64 (Int.tdiv (wrap64 ((wrap64 (x3 + x10)) - x190001)) 4)) then (if (wrap64 (Int.tdiv (wrap64 ((wrap64 (x3 + x10)) - x190001)) 4)) < (x190004.length : Int) then (if (rdOf false x190004 (wrap64 (Int.tdiv (wrap64 ((wrap64 (x3 + x10)) - x190001)) 4)) = true) then (spec_l21Thing.l0 k x2 x3 x9 (wrap64 (x10 + 1)) x190000 x190001 x190002 x190003 x190004) else (some false)) else (none)) else (none)) else (spec_l21Thing.l0 k x2 x3 x9 (wrap64 (x10 + 1)) x190000 x190001 x190002 x190003 x190004))) else (spec_l21Thing.l0 k x2 x3 x9 (wrap64 (x10 + 1)) x190000 x190001 x190002 x190003 x190004)) else (spec_l21Thing.l0 k x2 x3 x9 (wrap64 (x10 + 1)) x190000 x190001 x190002 x190003 x190004)) else (none)) else (none))
end
def spec_l21Thing.f (k : Nat) (l0 : List (S69)) (l1_0 : List Int) (a1_1 : Int) (a1_2 : Int) (a1_3 : Int) (l1_4 : List Bool) (l2 : List Bool) (a3 : Int) : Option (Bool) := (spec_l21Refs.f k l0 l1_0 a3).bind fun t190 => (if 0 ≤ a3 then (if a3 < (l1_0.length : Int) then ((spec_l21Head.f (rd l1_0 a3)).bind fun t194 => (spec_l21Thing.l0 k l2 a3 t190 t194 l1_0 a1_1 a1_2 a1_3 l1_4)) else (none)) else (none))
set_option maxHeartbeats 8000000 in
set_option maxRecDepth 100000 in
theorem spec_l21Thing.calls (k : Nat) (A0 : Option Addr) (c0 : Nat) (l0 : List (S69)) (A1_0 : Option Addr) (c1_0 : Nat) (l1_0 : List Int) (a1_1 : Int) (a1_2 : Int) (a1_3 : Int) (A1_4 : Option Addr) (c1_4 : Nat) (l1_4 : List Bool) (A2 : Option Addr) (c2 : Nat) (l2 : List Bool) (a3 : Int) (r : Bool) (w : World) (hr0 : Kd.C k69 w A0 l0.length l0) (hc0 : l0.length ≤ c0) (hr1_0 : Kd.C (Kd.int .i64) w A1_0 l1_0.length l1_0) (hc1_0 : l1_0.length ≤ c1_0) (hr1_4 : Kd.C Kd.bool w A1_4 l1_4.length l1_4) (hc1_4 : l1_4.length ≤ c1_4) (hr2 : Kd.C Kd.bool w A2 l2.length l2) (hc2 : l2.length ≤ c2) (h : spec_l21Thing.f k l0 l1_0 a1_1 a1_2 a1_3 l1_4 l2 a3 = some r) :
  Calls Try.prog 66 #[.slice A0 l0.length c0, .agg #[.slice A1_0 l1_0.length c1_0, .int .i64 a1_1, .int .i64 a1_2, .int .i64 a1_3, .slice A1_4 l1_4.length c1_4], .slice A2 l2.length c2, .int .i64 a3] w fun e w' => e = .returned (.bool r) ∧ Below w.heap.size w w' := by
 have hu29 := Try.underlying29
 have HR0 := Aside0.mk hr0
 have HC0 := Aside0.mk hc0
 clear hr0 hc0
 have HR1_0 := Aside0.mk hr1_0
 have HC1_0 := Aside0.mk hc1_0
 clear hr1_0 hc1_0
 have HR1_4 := Aside0.mk hr1_4
 have HC1_4 := Aside0.mk hc1_4
 clear hr1_4 hc1_4
 have HR2 := Aside0.mk hr2
 have HC2 := Aside0.mk hc2
 clear hr2 hc2
 have HB := Aside0.mk (Below.refl w.heap.size w)
 have H : ((spec_l21Refs.f k l0 l1_0 a3).bind fun t190 => (if 0 ≤ a3 then (if a3 < (l1_0.length : Int) then ((spec_l21Head.f (rd l1_0 a3)).bind fun t194 => (spec_l21Thing.l0 k l2 a3 t190 t194 l1_0 a1_1 a1_2 a1_3 l1_4)) else (none)) else (none))) = some r := h
 clear h
 replace H := Option.bind_eq_some_iff.mp H
 obtain ⟨t190, A50, H⟩ := H
 try dsimp only at H
 have A5 := Aside0.mk A50
 clear A50
 by_cases c6 : 0 ≤ a3
 ·rw [if_pos c6] at H
  have c6b0 : decide (0 ≤ a3) = true := decide_eq_true c6
  clear c6
  by_cases c7 : a3 < (l1_0.length : Int)
  ·rw [if_pos c7] at H
   have c7b0 : decide (a3 < (l1_0.length : Int)) = true := decide_eq_true c7
   clear c7
   replace H := Option.bind_eq_some_iff.mp H
   obtain ⟨t194, A80, H⟩ := H
   try dsimp only at H
   have A8 := Aside0.mk A80
   clear A80
   have H' := Aside0.mk H
   clear H
   go_enter Try.func66, Try.ntmps66
   go_wp2_with (first | ((with_reducible refine gate_dst (N := 5) rfl ?_); refine box_event ?hg (N := 5) ?hd (cs := #[.slice A1_0 l1_0.length c1_0, .int .i64 a1_1, .int .i64 a1_2, .int .i64 a1_3, .slice A1_4 l1_4.length c1_4]) (t := 29) ?hr ?_; (case hd => rfl); (case hg => rfl); (case hr => first | (go_simp; done) | (go_simp; rfl)); intro gb189 hg w9 hbox hb; have BK189 := Aside0.mk (hbox); have GW189 := Aside0.mk ((by rw [hg]; exact (below_size z1) : w.heap.size ≤ gb189)); have GE189 := Aside0.mk ((by rw [hg]; exact (below_size z1) : w.heap.size ≤ gb189)); replace HB := Aside0.mk (below_step z1 hb); clear hb hbox hg; obtain ⟨hcz10_0, hcz10_1, hcz10_2, hcz10_3, hcz10_4, hfz10_0, hfz10_1, hfz10_2, hfz10_3, hfz10_4⟩ := cbf5 BK189) | ((with_reducible refine gate_callee (f := 36) rfl ?_); refine goesL_ (some 16) rfl rfl Try.func36 (by kernel_rfl) rfl #[.slice A0 l0.length c0, .slice A1_0 l1_0.length c1_0, .int .i64 a3] rfl z2 ?_; (with_reducible refine (spec_l21Refs.calls k _ _ l0 _ _ l1_0 a3 t190 _ ?side1 ?side2 ?side3 ?side4 A5.out).mono ?_); (case side1 => repeat (first | exact (Kd.C_below HR0.out HB.out) | (with_reducible refine Kd.C_alloc ?_ _) | (with_reducible refine Kd.C_drewN ?_ _) | (with_reducible refine Kd.C_drew ?_))); (case side2 => exact HC0.out); (case side3 => repeat (first | exact (Kd.C_below HR1_0.out HB.out) | (with_reducible refine Kd.C_alloc ?_ _) | (with_reducible refine Kd.C_drewN ?_ _) | (with_reducible refine Kd.C_drew ?_))); (case side4 => exact HC1_0.out); rintro e w11 ⟨v191, rfl, ho0, hb⟩; refine ⟨_, rfl, ?_⟩; have HO192 := Aside0.mk (Kd.R_lower ho0 (below_size (by repeat (first | (with_reducible first | exact HB.out | apply below_alloc | apply pw_below_drewN | apply below_drew1 | refine below_set ?_ GE189.out) | exact HB.out)))); replace BK189 := Aside0.mk (blk_below (g := gb189) (o := .cells #[.slice A1_0 l1_0.length c1_0, .int .i64 a1_1, .int .i64 a1_2, .int .i64 a1_3, .slice A1_4 l1_4.length c1_4] 29 (0, 0)) (by (with_reducible repeat (first | refine blk_drewN ?_ _ | refine blk_drew ?_ | refine blk_alloc ?_ _)); exact BK189.out) hb); replace HB := Aside0.mk (below_step (by repeat (first | (with_reducible first | exact HB.out | apply below_alloc | apply pw_below_drewN | apply below_drew1 | refine below_set ?_ GE189.out) | exact HB.out)) hb); (try clear hb); (try clear hb2); (try clear hk); (try clear hi); (try clear ho0); obtain ⟨hcz12_0, hcz12_1, hcz12_2, hcz12_3, hcz12_4, hfz12_0, hfz12_1, hfz12_2, hfz12_3, hfz12_4⟩ := cbf5 BK189; have p193 : 0 ≤ (a3 : Int) := of_decide_eq_true z3; have q193 : a3 < (l1_0.length : Int) := of_decide_eq_true z3; obtain ⟨ad193, e193, hx193_0⟩ := Kd.at_int HR1_0.out a3 p193 q193; cases e193; replace hx193_0 := (HB.out.cell (World.block_lt_of_cell? w _ hx193_0)).trans hx193_0; replace p193 := eq_true p193; replace q193 := eq_true q193) | ((with_reducible refine gate_callee (f := 68) rfl ?_); refine goesL_ (some 22) rfl rfl Try.func68 (by kernel_rfl) rfl #[.int .i64 (rd l1_0 a3)] rfl z2 ?_; (with_reducible refine (spec_l21Head.calls (rd l1_0 a3) t194 _ A8.out).mono ?_); rintro e w' ⟨rfl, ⟨nd, rfl⟩⟩; refine ⟨_, rfl, ?_⟩))
   go_loopg [10] k (fun kq v10 w' => ∃ (x10_1 : Int), v10 = .int .i64 x10_1 ∧ Aside0 (spec_l21Thing.l0 kq l2 a3 t190 x10_1 l1_0 a1_1 a1_2 a1_3 l1_4 = some r) ∧ Aside0 (kq ≤ k) ∧ Aside0 (Kd.R Kd.bool 4 w' w.heap.size (fun _ => True) v191 t190) ∧ Aside0 (w'.heap[gb189]? = some (.cells #[(.slice (some ad193) l1_0.length c1_0), .int .i64 a1_1, .int .i64 a1_2, .int .i64 a1_3, (.slice A1_4 l1_4.length c1_4)] 29 (0, 0))) ∧ Aside0 (Below w.heap.size w w'))
   case atStart => exact ⟨(t194), z6, H', ⟨Nat.le_refl _⟩, ⟨by (with_reducible repeat (first | apply Kd.R_alloc | apply Kd.R_drewN | apply Kd.R_drew)); exact HO192.out⟩, ⟨by (with_reducible repeat (first | refine blk_drewN ?_ _ | refine blk_drew ?_ | refine blk_alloc ?_ _)); exact BK189.out⟩, ⟨by repeat (first | (with_reducible first | exact HB.out | apply below_alloc | apply pw_below_drewN | apply below_drew1 | refine below_set ?_ GE189.out) | exact HB.out)⟩⟩
   case round =>
    clear H'
    try clear c1
    try clear p1
    try clear q1
    try clear hx1
    try clear c2
    try clear p2
    try clear c3
    try clear c6
    try clear c6b0
    try clear c7
    try clear c7b0
    try clear hcz10_0
    try clear hcz10_1
    try clear hcz10_2
    try clear hcz10_3
    try clear hcz10_4
    try clear hcz12_0
    try clear hcz12_1
    try clear hcz12_2
    try clear hcz12_3
    try clear hcz12_4
    try clear hfz10_0
    try clear hfz10_1
    try clear hfz10_2
    try clear hfz10_3
    try clear hfz10_4
    try clear hfz12_0
    try clear hfz12_1
    try clear hfz12_2
    try clear hfz12_3
    try clear hfz12_4
    try clear hx193_0
    try clear p193
    try clear q193
    obtain ⟨x10_1, rfl, HA, HK1, HO_9, BK189, HB⟩ := hrel
    cases gk with
    | zero => exact absurd HA.out (by simp [spec_l21Thing.l0])
    | succ k1 =>
     have H := HA.out
     clear HA
     simp only [spec_l21Thing.l0] at H
     by_cases c13 : x10_1 < (t190.length : Int)
     ·rw [if_pos c13] at H
      have c13b0 : decide (x10_1 < (t190.length : Int)) = true := decide_eq_true c13
      clear c13
      obtain ⟨ji14, hji14⟩ : ∃ j_ : Int, (wrap64 (a3 + x10_1)) = j_ := ⟨_, rfl⟩
      replace H : (if 0 ≤ (ji14) then (if (ji14) < (l1_0.length : Int) then (if 0 ≤ x10_1 then (if rdOf false t190 x10_1 = true then ((spec_l21Lead.f l2 (rd l1_0 (ji14))).bind fun t197 => (if t197 = true then (spec_l21Thing.j1 k1 l2 a3 t190 x10_1 (rd l1_0 (ji14)) false l1_0 a1_1 a1_2 a1_3 l1_4) else (spec_l21Thing.j1 k1 l2 a3 t190 x10_1 (rd l1_0 (ji14)) true l1_0 a1_1 a1_2 a1_3 l1_4))) else ((spec_l1Word.f (rd l1_0 (ji14))).bind fun t200 => (spec_l21Thing.j1 k1 l2 a3 t190 x10_1 (rd l1_0 (ji14)) (!t200) l1_0 a1_1 a1_2 a1_3 l1_4))) else (none)) else (none)) else (none)) = some r := by first | (rw [hji14] at H; exact H) | (simp only [hji14] at H ⊢; exact H)
      have hji14w : (IntKind.i64.wrap (a3 + x10_1)) = ji14 := (i64_w _).trans hji14
      by_cases c15 : 0 ≤ (ji14)
      ·rw [if_pos c15] at H
       have c15b0 : decide (0 ≤ (ji14)) = true := decide_eq_true c15
       clear c15
       by_cases c16 : (ji14) < (l1_0.length : Int)
       ·rw [if_pos c16] at H
        have c16b0 : decide ((ji14) < (l1_0.length : Int)) = true := decide_eq_true c16
        clear c16
        have HC17 := Aside0.mk H
        clear H
        obtain ⟨Ao18, co18, eo18⟩ := Kd.R_slice HO_9.out
        subst eo18
        obtain ⟨hcz19_0, hcz19_1, hcz19_2, hcz19_3, hcz19_4, hfz19_0, hfz19_1, hfz19_2, hfz19_3, hfz19_4⟩ := cbf5 BK189
        have p195 : 0 ≤ ((ji14) : Int) := of_decide_eq_true z3
        have q195 : (ji14) < (l1_0.length : Int) := of_decide_eq_true z3
        obtain ⟨ad195, e195, hx195_0⟩ := Kd.at_int HR1_0.out (ji14) p195 q195
        obtain rfl : ad193 = ad195 := (by injection e195)
        replace hx195_0 := (HB.out.cell (World.block_lt_of_cell? w _ hx195_0)).trans hx195_0
        replace p195 := eq_true p195
        replace q195 := eq_true q195
        go_upto_region 6 with (fail)
        go_cut [57] (fun v57 wc => ∃ (kq : Nat) (x57_16 : Bool), v57 = .bool x57_16 ∧ Aside0 (spec_l21Thing.j1 kq l2 a3 t190 x10_1 (rd l1_0 (ji14)) x57_16 l1_0 a1_1 a1_2 a1_3 l1_4 = some r) ∧ Aside0 (kq ≤ k1) ∧ Aside0 (Kd.R Kd.bool 4 wc w.heap.size (fun _ => True) (.slice Ao18 t190.length co18) t190) ∧ Aside0 (wc.heap[gb189]? = some (.cells #[(.slice (some ad193) l1_0.length c1_0), .int .i64 a1_1, .int .i64 a1_2, .int .i64 a1_3, (.slice A1_4 l1_4.length c1_4)] 29 (0, 0))) ∧ Aside0 (Below w.heap.size w wc))
        case first =>
         have H := HC17.out
         clear HC17
         by_cases c20 : 0 ≤ x10_1
         ·rw [if_pos c20] at H
          have c20b0 : decide (0 ≤ x10_1) = true := decide_eq_true c20
          clear c20
          (first | rw [c20b0] | (simp only [i64_w, i32_w]; rw [c20b0]) | skip)
          obtain ⟨bq21, hbq21⟩ : ∃ b_ : Bool, b_ = (rdOf false t190 x10_1) := ⟨_, rfl⟩
          replace H : (if bq21 = true then ((spec_l21Lead.f l2 (rd l1_0 (ji14))).bind fun t197 => (if t197 = true then (spec_l21Thing.j1 k1 l2 a3 t190 x10_1 (rd l1_0 (ji14)) false l1_0 a1_1 a1_2 a1_3 l1_4) else (spec_l21Thing.j1 k1 l2 a3 t190 x10_1 (rd l1_0 (ji14)) true l1_0 a1_1 a1_2 a1_3 l1_4))) else ((spec_l1Word.f (rd l1_0 (ji14))).bind fun t200 => (spec_l21Thing.j1 k1 l2 a3 t190 x10_1 (rd l1_0 (ji14)) (!t200) l1_0 a1_1 a1_2 a1_3 l1_4))) = some r := by rw [← hbq21] at H; exact H
          have Nbq21 := Aside0.mk hbq21
          clear hbq21
          by_cases c22 : bq21 = true
          ·subst c22
           rw [if_pos rfl] at H
           replace H := Option.bind_eq_some_iff.mp H
           obtain ⟨t197, A230, H⟩ := H
           try dsimp only at H
           have A23 := Aside0.mk A230
           clear A230
           by_cases c24 : t197 = true
           ·subst c24
            rw [if_pos rfl] at H
            have H' := Aside0.mk H
            clear H
            have p196 : 0 ≤ (x10_1 : Int) := of_decide_eq_true z3
            have q196 : x10_1 < (t190.length : Int) := of_decide_eq_true z3
            obtain ⟨ad196, e196, hx196_0⟩ := Kd.at_bool (Kd.R_reads' HO_9.out).2.2 x10_1 p196 q196
            (try rw [← Nbq21.out] at hx196_0)
            cases e196
            replace p196 := eq_true p196
            replace q196 := eq_true q196
            go_wp2_with (first | (go_at_call 38; (with_reducible refine (spec_l21Lead.calls _ _ l2 (rd l1_0 (ji14)) true _ ?side1 ?side2 A23.out).mono ?_); (case side1 => repeat (first | exact (Kd.C_below HR2.out HB.out) | (with_reducible refine Kd.C_alloc ?_ _) | (with_reducible refine Kd.C_drewN ?_ _) | (with_reducible refine Kd.C_drew ?_))); (case side2 => exact HC2.out); rintro e w' ⟨rfl, ⟨nd, rfl⟩⟩; have p198 : 0 ≤ (x10_1 : Int) := of_decide_eq_true z3; have q198 : x10_1 < (t190.length : Int) := of_decide_eq_true z3; obtain ⟨ad198, e198, hx198_0⟩ := Kd.at_bool (Kd.R_reads' HO_9.out).2.2 x10_1 p198 q198; (try rw [← Nbq21.out] at hx198_0); obtain rfl : ad196 = ad198 := (by injection e198); replace p198 := eq_true p198; replace q198 := eq_true q198))
            go_meet
            case rel => exact ⟨_, (false), z6, H', ⟨by have := HK1.out; first | omega | exact Nat.le_refl _⟩, ⟨by (with_reducible repeat (first | apply Kd.R_alloc | apply Kd.R_drewN | apply Kd.R_drew)); exact HO_9.out⟩, ⟨by (with_reducible repeat (first | refine blk_drewN ?_ _ | refine blk_drew ?_ | refine blk_alloc ?_ _)); exact BK189.out⟩, ⟨by repeat (first | (with_reducible first | exact HB.out | apply below_alloc | apply pw_below_drewN | apply below_drew1 | refine below_set ?_ GE189.out) | exact HB.out)⟩⟩
           ·replace c24 := Bool.eq_false_iff.mpr c24
            subst c24
            rw [if_neg (show ¬ (false = true) by decide)] at H
            have H' := Aside0.mk H
            clear H
            have p196 : 0 ≤ (x10_1 : Int) := of_decide_eq_true z3
            have q196 : x10_1 < (t190.length : Int) := of_decide_eq_true z3
            obtain ⟨ad196, e196, hx196_0⟩ := Kd.at_bool (Kd.R_reads' HO_9.out).2.2 x10_1 p196 q196
            (try rw [← Nbq21.out] at hx196_0)
            cases e196
            replace p196 := eq_true p196
            replace q196 := eq_true q196
            go_wp2_with (first | (go_at_call 38; (with_reducible refine (spec_l21Lead.calls _ _ l2 (rd l1_0 (ji14)) false _ ?side1 ?side2 A23.out).mono ?_); (case side1 => repeat (first | exact (Kd.C_below HR2.out HB.out) | (with_reducible refine Kd.C_alloc ?_ _) | (with_reducible refine Kd.C_drewN ?_ _) | (with_reducible refine Kd.C_drew ?_))); (case side2 => exact HC2.out); rintro e w' ⟨rfl, ⟨nd, rfl⟩⟩))
            go_meet
            case rel => exact ⟨_, (true), z6, H', ⟨by have := HK1.out; first | omega | exact Nat.le_refl _⟩, ⟨by (with_reducible repeat (first | apply Kd.R_alloc | apply Kd.R_drewN | apply Kd.R_drew)); exact HO_9.out⟩, ⟨by (with_reducible repeat (first | refine blk_drewN ?_ _ | refine blk_drew ?_ | refine blk_alloc ?_ _)); exact BK189.out⟩, ⟨by repeat (first | (with_reducible first | exact HB.out | apply below_alloc | apply pw_below_drewN | apply below_drew1 | refine below_set ?_ GE189.out) | exact HB.out)⟩⟩
          ·replace c22 := Bool.eq_false_iff.mpr c22
           subst c22
           rw [if_neg (show ¬ (false = true) by decide)] at H
           replace H := Option.bind_eq_some_iff.mp H
           obtain ⟨t200, A250, H⟩ := H
           try dsimp only at H
           have A25 := Aside0.mk A250
           clear A250
           have H' := Aside0.mk H
           clear H
           have p196 : 0 ≤ (x10_1 : Int) := of_decide_eq_true z3
           have q196 : x10_1 < (t190.length : Int) := of_decide_eq_true z3
           obtain ⟨ad196, e196, hx196_0⟩ := Kd.at_bool (Kd.R_reads' HO_9.out).2.2 x10_1 p196 q196
           (try rw [← Nbq21.out] at hx196_0)
           cases e196
           replace p196 := eq_true p196
           replace q196 := eq_true q196
           have p199 : 0 ≤ (x10_1 : Int) := of_decide_eq_true z3
           have q199 : x10_1 < (t190.length : Int) := of_decide_eq_true z3
           obtain ⟨ad199, e199, hx199_0⟩ := Kd.at_bool (Kd.R_reads' HO_9.out).2.2 x10_1 p199 q199
           (try rw [← Nbq21.out] at hx199_0)
           obtain rfl : ad196 = ad199 := (by injection e199)
           replace p199 := eq_true p199
           replace q199 := eq_true q199
           go_wp2_with (first | (go_at_call 40; (with_reducible refine (spec_l1Word.calls (rd l1_0 (ji14)) t200 _ A25.out).mono ?_); rintro e w' ⟨rfl, ⟨nd, rfl⟩⟩))
           go_meet
           case rel => exact ⟨_, (!t200), z6, H', ⟨by have := HK1.out; first | omega | exact Nat.le_refl _⟩, ⟨by (with_reducible repeat (first | apply Kd.R_alloc | apply Kd.R_drewN | apply Kd.R_drew)); exact HO_9.out⟩, ⟨by (with_reducible repeat (first | refine blk_drewN ?_ _ | refine blk_drew ?_ | refine blk_alloc ?_ _)); exact BK189.out⟩, ⟨by repeat (first | (with_reducible first | exact HB.out | apply below_alloc | apply pw_below_drewN | apply below_drew1 | refine below_set ?_ GE189.out) | exact HB.out)⟩⟩
         ·rw [if_neg c20] at H
          exact absurd H (by simp)
        case rest =>
         clear HC17
         try clear c1
         try clear p1
         try clear q1
         try clear hx1
         try clear c2
         try clear p2
         try clear q2
         try clear c3
         try clear c6
         try clear c6b0
         try clear p6
         try clear c7
         try clear c7b0
         try clear c13
         try clear c13b0
         try clear c15
         try clear c15b0
         try clear c16
         try clear c16b0
         try clear p19
         try clear q19
         try clear hx19
         try clear c20
         try clear c20b0
         try clear q21
         try clear c22
         try clear c24
         try clear hcz10_0
         try clear hcz10_1
         try clear hcz10_2
         try clear hcz10_3
         try clear hcz10_4
         try clear hcz12_0
         try clear hcz12_1
         try clear hcz12_2
         try clear hcz12_3
         try clear hcz12_4
         try clear hcz19_0
         try clear hcz19_1
         try clear hcz19_2
         try clear hcz19_3
         try clear hcz19_4
         try clear hfz10_0
         try clear hfz10_1
         try clear hfz10_2
         try clear hfz10_3
         try clear hfz10_4
         try clear hfz12_0
         try clear hfz12_1
         try clear hfz12_2
         try clear hfz12_3
         try clear hfz12_4
         try clear hfz19_0
         try clear hfz19_1
         try clear hfz19_2
         try clear hfz19_3
         try clear hfz19_4
         try clear hx193_0
         try clear hx195_0
         try clear hx196_0
         try clear hx198_0
         try clear hx199_0
         try clear p1
         try clear p193
         try clear p195
         try clear p196
         try clear p198
         try clear p199
         try clear p2
         try clear q1
         try clear q193
         try clear q195
         try clear q196
         try clear q198
         try clear q199
         obtain ⟨kq, x57_16, rfl, HA, HJ16, HO_9, BK189, HB⟩ := hcut
         cases kq with
         | zero => exact absurd HA.out (by simp [spec_l21Thing.j1])
         | succ kj16 =>
          have H := HA.out
          clear HA
          simp only [spec_l21Thing.j1] at H
          by_cases c26 : x57_16 = true
          ·subst c26
           rw [if_pos rfl] at H
           obtain rfl := Option.some.inj H
           go_wp2
           go_ret
           exact ⟨by first | rfl | (simp [errW_none, errW_some] <;> rfl) | (simp only [← hji14]; first | rfl | (simp [errW_none, errW_some] <;> rfl)) | (simp [*, errW_none, errW_some] <;> rfl), by repeat (first | (with_reducible first | exact HB.out | apply below_alloc | apply pw_below_drewN | apply below_drew1 | refine below_set ?_ GE189.out) | exact HB.out)⟩
          ·replace c26 := Bool.eq_false_iff.mpr c26
           subst c26
           rw [if_neg (show ¬ (false = true) by decide)] at H
           by_cases c27 : 0 ≤ x10_1
           ·rw [if_pos c27] at H
            have c27b0 : decide (0 ≤ x10_1) = true := decide_eq_true c27
            clear c27
            by_cases c28 : x10_1 < (t190.length : Int)
            ·rw [if_pos c28] at H
             have c28b0 : decide (x10_1 < (t190.length : Int)) = true := decide_eq_true c28
             clear c28
             obtain ⟨bq29, hbq29⟩ : ∃ b_ : Bool, b_ = (rdOf false t190 x10_1) := ⟨_, rfl⟩
             replace H : (if bq29 = true then (if a3 ≥ a1_1 then ((spec_l6In.f (rd l1_0 (ji14)) 1 a1_1).bind fun t202 => (if t202 = true then (if 0 ≤ (wrap64 (Int.tdiv (wrap64 ((wrap64 (a3 + x10_1)) - a1_1)) 4)) then (if (wrap64 (Int.tdiv (wrap64 ((wrap64 (a3 + x10_1)) - a1_1)) 4)) < (l1_4.length : Int) then (if (rdOf false l1_4 (wrap64 (Int.tdiv (wrap64 ((wrap64 (a3 + x10_1)) - a1_1)) 4)) = true) then (spec_l21Thing.l0 kj16 l2 a3 t190 (wrap64 (x10_1 + 1)) l1_0 a1_1 a1_2 a1_3 l1_4) else (some false)) else (none)) else (none)) else (spec_l21Thing.l0 kj16 l2 a3 t190 (wrap64 (x10_1 + 1)) l1_0 a1_1 a1_2 a1_3 l1_4))) else (spec_l21Thing.l0 kj16 l2 a3 t190 (wrap64 (x10_1 + 1)) l1_0 a1_1 a1_2 a1_3 l1_4)) else (spec_l21Thing.l0 kj16 l2 a3 t190 (wrap64 (x10_1 + 1)) l1_0 a1_1 a1_2 a1_3 l1_4)) = some r := by rw [← hbq29] at H; exact H
             have Nbq29 := Aside0.mk hbq29
             clear hbq29
             by_cases c30 : bq29 = true
             ·subst c30
              rw [if_pos rfl] at H
              by_cases c31 : a3 ≥ a1_1
              ·rw [if_pos c31] at H
               have c31b0 : decide (a1_1 ≤ a3) = true := decide_eq_true c31
               clear c31
               replace H := Option.bind_eq_some_iff.mp H
               obtain ⟨t202, A320, H⟩ := H
               try dsimp only at H
               have A32 := Aside0.mk A320
               clear A320
               by_cases c33 : t202 = true
               ·subst c33
                rw [if_pos rfl] at H
                obtain ⟨ji34, hji34⟩ : ∃ j_ : Int, (wrap64 (Int.tdiv (wrap64 ((wrap64 (a3 + x10_1)) - a1_1)) 4)) = j_ := ⟨_, rfl⟩
                replace H : (if 0 ≤ (ji34) then (if (ji34) < (l1_4.length : Int) then (if (rdOf false l1_4 (ji34) = true) then (spec_l21Thing.l0 kj16 l2 a3 t190 (wrap64 (x10_1 + 1)) l1_0 a1_1 a1_2 a1_3 l1_4) else (some false)) else (none)) else (none)) = some r := by first | (rw [hji34] at H; exact H) | (simp only [hji34] at H ⊢; exact H)
                (try rw [hji34] at A32)
                have hji34w : (IntKind.i64.wrap (Int.tdiv (wrap64 ((wrap64 (a3 + x10_1)) - a1_1)) 4)) = ji34 := (i64_w _).trans hji34
                (try rw [hji14] at hji34w)
                by_cases c35 : 0 ≤ (ji34)
                ·rw [if_pos c35] at H
                 have c35b0 : decide (0 ≤ (ji34)) = true := decide_eq_true c35
                 clear c35
                 by_cases c36 : (ji34) < (l1_4.length : Int)
                 ·rw [if_pos c36] at H
                  have c36b0 : decide ((ji34) < (l1_4.length : Int)) = true := decide_eq_true c36
                  clear c36
                  obtain ⟨bq37, hbq37⟩ : ∃ b_ : Bool, b_ = (rdOf false l1_4 (ji34)) := ⟨_, rfl⟩
                  replace H : (if (bq37 = true) then (spec_l21Thing.l0 kj16 l2 a3 t190 (wrap64 (x10_1 + 1)) l1_0 a1_1 a1_2 a1_3 l1_4) else (some false)) = some r := by rw [← hbq37] at H; exact H
                  have Nbq37 := Aside0.mk hbq37
                  clear hbq37
                  by_cases c38 : (bq37 = true)
                  ·subst c38
                   rw [if_pos rfl] at H
                   have H' := Aside0.mk H
                   clear H
                   have p201 : 0 ≤ (x10_1 : Int) := of_decide_eq_true z3
                   have q201 : x10_1 < (t190.length : Int) := of_decide_eq_true z3
                   obtain ⟨ad201, e201, hx201_0⟩ := Kd.at_bool (Kd.R_reads' HO_9.out).2.2 x10_1 p201 q201
                   (try rw [← Nbq29.out] at hx201_0)
                   (try rw [← Nbq37.out] at hx201_0)
                   cases e201
                   replace p201 := eq_true p201
                   replace q201 := eq_true q201
                   obtain ⟨hcz39_0, hcz39_1, hcz39_2, hcz39_3, hcz39_4, hfz39_0, hfz39_1, hfz39_2, hfz39_3, hfz39_4⟩ := cbf5 BK189
                   go_wp2_with (first | (go_at_call 69; (with_reducible refine (spec_l6In.calls (rd l1_0 (ji14)) 1 a1_1 true _ A32.out).mono ?_); rintro e w' ⟨rfl, ⟨nd, rfl⟩⟩; have p203 : 0 ≤ ((ji34) : Int) := of_decide_eq_true z3; have q203 : (ji34) < (l1_4.length : Int) := of_decide_eq_true z3; obtain ⟨ad203, e203, hx203_0⟩ := Kd.at_bool HR1_4.out (ji34) p203 q203; (try rw [← Nbq29.out] at hx203_0); (try rw [← Nbq37.out] at hx203_0); cases e203; replace hx203_0 := (HB.out.cell (World.block_lt_of_cell? w _ hx203_0)).trans hx203_0; replace p203 := eq_true p203; replace q203 := eq_true q203))
                   go_roundg kj16
                   case measure => have := HK1.out; have := HJ16.out; omega
                   case rel => exact ⟨(wrap64 (x10_1 + 1)), z6, H', ⟨by have := HK1.out; have := HJ16.out; omega⟩, ⟨by (with_reducible repeat (first | apply Kd.R_alloc | apply Kd.R_drewN | apply Kd.R_drew)); exact HO_9.out⟩, ⟨by (with_reducible repeat (first | refine blk_drewN ?_ _ | refine blk_drew ?_ | refine blk_alloc ?_ _)); exact BK189.out⟩, ⟨by repeat (first | (with_reducible first | exact HB.out | apply below_alloc | apply pw_below_drewN | apply below_drew1 | refine below_set ?_ GE189.out) | exact HB.out)⟩⟩
                  ·replace c38 := Bool.eq_false_iff.mpr c38
                   subst c38
                   rw [if_neg (show ¬ (false = true) by decide)] at H
                   obtain rfl := Option.some.inj H
                   have p201 : 0 ≤ (x10_1 : Int) := of_decide_eq_true z3
                   have q201 : x10_1 < (t190.length : Int) := of_decide_eq_true z3
                   obtain ⟨ad201, e201, hx201_0⟩ := Kd.at_bool (Kd.R_reads' HO_9.out).2.2 x10_1 p201 q201
                   (try rw [← Nbq29.out] at hx201_0)
                   (try rw [← Nbq37.out] at hx201_0)
                   cases e201
                   replace p201 := eq_true p201
                   replace q201 := eq_true q201
                   obtain ⟨hcz40_0, hcz40_1, hcz40_2, hcz40_3, hcz40_4, hfz40_0, hfz40_1, hfz40_2, hfz40_3, hfz40_4⟩ := cbf5 BK189
                   go_wp2_with (first | (go_at_call 69; (with_reducible refine (spec_l6In.calls (rd l1_0 (ji14)) 1 a1_1 true _ A32.out).mono ?_); rintro e w' ⟨rfl, ⟨nd, rfl⟩⟩; have p203 : 0 ≤ ((ji34) : Int) := of_decide_eq_true z3; have q203 : (ji34) < (l1_4.length : Int) := of_decide_eq_true z3; obtain ⟨ad203, e203, hx203_0⟩ := Kd.at_bool HR1_4.out (ji34) p203 q203; (try rw [← Nbq29.out] at hx203_0); (try rw [← Nbq37.out] at hx203_0); cases e203; replace hx203_0 := (HB.out.cell (World.block_lt_of_cell? w _ hx203_0)).trans hx203_0; replace p203 := eq_true p203; replace q203 := eq_true q203))
                   go_ret
                   exact ⟨by first | rfl | (simp [errW_none, errW_some] <;> rfl) | (simp only [← hji14, ← hji34]; first | rfl | (simp [errW_none, errW_some] <;> rfl)) | (simp [*, errW_none, errW_some] <;> rfl), by repeat (first | (with_reducible first | exact HB.out | apply below_alloc | apply pw_below_drewN | apply below_drew1 | refine below_set ?_ GE189.out) | exact HB.out)⟩
                 ·rw [if_neg c36] at H
                  exact absurd H (by simp)
                ·rw [if_neg c35] at H
                 exact absurd H (by simp)
               ·replace c33 := Bool.eq_false_iff.mpr c33
                subst c33
                rw [if_neg (show ¬ (false = true) by decide)] at H
                have H' := Aside0.mk H
                clear H
                have p201 : 0 ≤ (x10_1 : Int) := of_decide_eq_true z3
                have q201 : x10_1 < (t190.length : Int) := of_decide_eq_true z3
                obtain ⟨ad201, e201, hx201_0⟩ := Kd.at_bool (Kd.R_reads' HO_9.out).2.2 x10_1 p201 q201
                (try rw [← Nbq29.out] at hx201_0)
                cases e201
                replace p201 := eq_true p201
                replace q201 := eq_true q201
                obtain ⟨hcz41_0, hcz41_1, hcz41_2, hcz41_3, hcz41_4, hfz41_0, hfz41_1, hfz41_2, hfz41_3, hfz41_4⟩ := cbf5 BK189
                go_wp2_with (first | (go_at_call 69; (with_reducible refine (spec_l6In.calls (rd l1_0 (ji14)) 1 a1_1 false _ A32.out).mono ?_); rintro e w' ⟨rfl, ⟨nd, rfl⟩⟩))
                go_roundg kj16
                case measure => have := HK1.out; have := HJ16.out; omega
                case rel => exact ⟨(wrap64 (x10_1 + 1)), z6, H', ⟨by have := HK1.out; have := HJ16.out; omega⟩, ⟨by (with_reducible repeat (first | apply Kd.R_alloc | apply Kd.R_drewN | apply Kd.R_drew)); exact HO_9.out⟩, ⟨by (with_reducible repeat (first | refine blk_drewN ?_ _ | refine blk_drew ?_ | refine blk_alloc ?_ _)); exact BK189.out⟩, ⟨by repeat (first | (with_reducible first | exact HB.out | apply below_alloc | apply pw_below_drewN | apply below_drew1 | refine below_set ?_ GE189.out) | exact HB.out)⟩⟩
              ·rw [if_neg c31] at H
               have c31b0 : decide (a1_1 ≤ a3) = false := decide_eq_false c31
               clear c31
               have H' := Aside0.mk H
               clear H
               have p201 : 0 ≤ (x10_1 : Int) := of_decide_eq_true z3
               have q201 : x10_1 < (t190.length : Int) := of_decide_eq_true z3
               obtain ⟨ad201, e201, hx201_0⟩ := Kd.at_bool (Kd.R_reads' HO_9.out).2.2 x10_1 p201 q201
               (try rw [← Nbq29.out] at hx201_0)
               cases e201
               replace p201 := eq_true p201
               replace q201 := eq_true q201
               obtain ⟨hcz42_0, hcz42_1, hcz42_2, hcz42_3, hcz42_4, hfz42_0, hfz42_1, hfz42_2, hfz42_3, hfz42_4⟩ := cbf5 BK189
               go_wp2
               go_roundg kj16
               case measure => have := HK1.out; have := HJ16.out; omega
               case rel => exact ⟨(wrap64 (x10_1 + 1)), z6, H', ⟨by have := HK1.out; have := HJ16.out; omega⟩, ⟨by (with_reducible repeat (first | apply Kd.R_alloc | apply Kd.R_drewN | apply Kd.R_drew)); exact HO_9.out⟩, ⟨by (with_reducible repeat (first | refine blk_drewN ?_ _ | refine blk_drew ?_ | refine blk_alloc ?_ _)); exact BK189.out⟩, ⟨by repeat (first | (with_reducible first | exact HB.out | apply below_alloc | apply pw_below_drewN | apply below_drew1 | refine below_set ?_ GE189.out) | exact HB.out)⟩⟩
             ·replace c30 := Bool.eq_false_iff.mpr c30
              subst c30
              rw [if_neg (show ¬ (false = true) by decide)] at H
              have H' := Aside0.mk H
              clear H
              have p201 : 0 ≤ (x10_1 : Int) := of_decide_eq_true z3
              have q201 : x10_1 < (t190.length : Int) := of_decide_eq_true z3
              obtain ⟨ad201, e201, hx201_0⟩ := Kd.at_bool (Kd.R_reads' HO_9.out).2.2 x10_1 p201 q201
              (try rw [← Nbq29.out] at hx201_0)
              cases e201
              replace p201 := eq_true p201
              replace q201 := eq_true q201
              go_wp2
              go_roundg kj16
              case measure => have := HK1.out; have := HJ16.out; omega
              case rel => exact ⟨(wrap64 (x10_1 + 1)), z6, H', ⟨by have := HK1.out; have := HJ16.out; omega⟩, ⟨by (with_reducible repeat (first | apply Kd.R_alloc | apply Kd.R_drewN | apply Kd.R_drew)); exact HO_9.out⟩, ⟨by (with_reducible repeat (first | refine blk_drewN ?_ _ | refine blk_drew ?_ | refine blk_alloc ?_ _)); exact BK189.out⟩, ⟨by repeat (first | (with_reducible first | exact HB.out | apply below_alloc | apply pw_below_drewN | apply below_drew1 | refine below_set ?_ GE189.out) | exact HB.out)⟩⟩
            ·rw [if_neg c28] at H
             exact absurd H (by simp)
           ·rw [if_neg c27] at H
            exact absurd H (by simp)
       ·rw [if_neg c16] at H
        exact absurd H (by simp)
      ·rw [if_neg c15] at H
       exact absurd H (by simp)
     ·rw [if_neg c13] at H
      have c13b0 : decide (x10_1 < (t190.length : Int)) = false := decide_eq_false c13
      clear c13
      obtain rfl := Option.some.inj H
      obtain ⟨Ao43, co43, eo43⟩ := Kd.R_slice HO_9.out
      subst eo43
      go_wp2
      go_ret
      exact ⟨by first | rfl | (simp [errW_none, errW_some] <;> rfl) | (simp [*, errW_none, errW_some] <;> rfl), by repeat (first | (with_reducible first | exact HB.out | apply below_alloc | apply pw_below_drewN | apply below_drew1 | refine below_set ?_ GE189.out) | exact HB.out)⟩
  ·rw [if_neg c7] at H
   exact absurd H (by simp)
 ·rw [if_neg c6] at H
  exact absurd H (by simp)
end Go.Proofs.Ytmniglgahodghaa.K
namespace Go.Proofs.Ytmniglgahodghaa.K
open Go.RowKit Go.Proofs.YtmniglgahodghaaW.PrintWords Go.Proofs.YtmniglgahodghaaW.PrintLast Go.Proofs.YtmniglgahodghaaW.PrintMore
attribute [local go_sem] max2_int min2_int max_two min_two max_three min_three max_four min_four
set_option linter.unusedVariables false
set_option linter.unusedSimpArgs false
def spec_MemOk.l0 : Nat → List (S69) → List Int → List Bool → Int → List Int → Int → Int → Int → List Bool → Option (Bool)
  | 0, _, _, _, _, _, _, _, _, _ => none
  | k + 1, x0, x5, x7, x8, x205000, x205001, x205002, x205003, x205004 => if x8 < (x5.length : Int) then (if 0 ≤ x8 then ((spec_l21Thing.f k x0 x205000 x205001 x205002 x205003 x205004 x7 (rd x5 x8)).bind fun t214 => (if t214 = true then (spec_MemOk.l0 k x0 x5 x7 (wrap64 (x8 + 1)) x205000 x205001 x205002 x205003 x205004) else (some false))) else (none)) else (some true)
def spec_MemOk.f (k : Nat) (l0 : List (S69)) (l1_0 : List Int) (a1_1 : Int) (a1_2 : Int) (a1_3 : Int) (l1_4 : List Bool) : Option (Bool) := (spec_l21Bounds.f k l0 l1_0 a1_1 a1_2 a1_3 l1_4).bind fun t205 => (if t205 = true then ((spec_l21Walk.f k l0 l1_0 a1_1 a1_2 a1_3 l1_4).bind fun bt206 => (if bt206.2 = true then ((spec_l21Starts.f k (l1_0.length : Int) bt206.1).bind fun t210 => (spec_MemOk.l0 k l0 bt206.1 t210 0 l1_0 a1_1 a1_2 a1_3 l1_4)) else (some false))) else (some false))
def spec_MemOk.T10 : Bool × List (List Nat × List Nat) := (true, [([], []), ([], []), ([], []), ([], []), ([], []), ([3, 4], [3, 4]), ([5], [5]), ([0, 1, 2, 6], [0, 1, 2, 6]), ([7], [7])])
def spec_MemOk.B10 : List Nat := [0, 0, 0, 0, 0, 24, 56, 127, 255]
theorem spec_MemOk.tab10 : rtab .any (opsOf Try.f34 10) = spec_MemOk.T10 := by kernel_rfl
theorem spec_MemOk.bits10 : waitsOk spec_MemOk.T10.2 spec_MemOk.B10 = true := by kernel_rfl
set_option maxHeartbeats 8000000 in
set_option maxRecDepth 100000 in
theorem spec_MemOk.calls (k : Nat) (A0 : Option Addr) (c0 : Nat) (l0 : List (S69)) (A1_0 : Option Addr) (c1_0 : Nat) (l1_0 : List Int) (a1_1 : Int) (a1_2 : Int) (a1_3 : Int) (A1_4 : Option Addr) (c1_4 : Nat) (l1_4 : List Bool) (r : Bool) (w : World) (hr0 : Kd.C k69 w A0 l0.length l0) (hc0 : l0.length ≤ c0) (hr1_0 : Kd.C (Kd.int .i64) w A1_0 l1_0.length l1_0) (hc1_0 : l1_0.length ≤ c1_0) (hr1_4 : Kd.C Kd.bool w A1_4 l1_4.length l1_4) (hc1_4 : l1_4.length ≤ c1_4) (h : spec_MemOk.f k l0 l1_0 a1_1 a1_2 a1_3 l1_4 = some r) :
  Calls Try.prog 34 #[.slice A0 l0.length c0, .agg #[.slice A1_0 l1_0.length c1_0, .int .i64 a1_1, .int .i64 a1_2, .int .i64 a1_3, .slice A1_4 l1_4.length c1_4]] w fun e w' => e = .returned (.bool r) ∧ Below w.heap.size w w' := by
 have hu29 := Try.underlying29
 have HR0 := Aside0.mk hr0
 have HC0 := Aside0.mk hc0
 clear hr0 hc0
 have HR1_0 := Aside0.mk hr1_0
 have HC1_0 := Aside0.mk hc1_0
 clear hr1_0 hc1_0
 have HR1_4 := Aside0.mk hr1_4
 have HC1_4 := Aside0.mk hc1_4
 clear hr1_4 hc1_4
 have HB := Aside0.mk (Below.refl w.heap.size w)
 have H : ((spec_l21Bounds.f k l0 l1_0 a1_1 a1_2 a1_3 l1_4).bind fun t205 => (if t205 = true then ((spec_l21Walk.f k l0 l1_0 a1_1 a1_2 a1_3 l1_4).bind fun bt206 => (if bt206.2 = true then ((spec_l21Starts.f k (l1_0.length : Int) bt206.1).bind fun t210 => (spec_MemOk.l0 k l0 bt206.1 t210 0 l1_0 a1_1 a1_2 a1_3 l1_4)) else (some false))) else (some false))) = some r := h
 clear h
 replace H := Option.bind_eq_some_iff.mp H
 obtain ⟨t205, A30, H⟩ := H
 try dsimp only at H
 have A3 := Aside0.mk A30
 clear A30
 by_cases c4 : t205 = true
 ·subst c4
  rw [if_pos rfl] at H
  replace H := Option.bind_eq_some_iff.mp H
  obtain ⟨⟨t206, t209⟩, A50, H⟩ := H
  try dsimp only at H
  have A5 := Aside0.mk A50
  clear A50
  by_cases c6 : t209 = true
  ·subst c6
   rw [if_pos rfl] at H
   replace H := Option.bind_eq_some_iff.mp H
   obtain ⟨t210, A70, H⟩ := H
   try dsimp only at H
   have A7 := Aside0.mk A70
   clear A70
   have H' := Aside0.mk H
   clear H
   go_enter Try.func34, Try.ntmps34
   go_wp2_with (first | ((with_reducible refine gate_dst (N := 3) rfl ?_); refine box_event ?hg (N := 3) ?hd (cs := #[.slice A1_0 l1_0.length c1_0, .int .i64 a1_1, .int .i64 a1_2, .int .i64 a1_3, .slice A1_4 l1_4.length c1_4]) (t := 29) ?hr ?_; (case hd => rfl); (case hg => rfl); (case hr => first | (go_simp; done) | (go_simp; rfl)); intro gb204 hg w8 hbox hb; have BK204 := Aside0.mk (hbox); have GW204 := Aside0.mk ((by rw [hg]; exact (below_size z1) : w.heap.size ≤ gb204)); have GE204 := Aside0.mk ((by rw [hg]; exact (below_size z1) : w.heap.size ≤ gb204)); replace HB := Aside0.mk (below_step z1 hb); clear hb hbox hg; obtain ⟨hcz9_0, hcz9_1, hcz9_2, hcz9_3, hcz9_4, hfz9_0, hfz9_1, hfz9_2, hfz9_3, hfz9_4⟩ := cbf5 BK204) | ((with_reducible refine gate_callee (f := 65) rfl ?_); refine goesL_ (some 11) rfl rfl Try.func65 (by kernel_rfl) rfl #[.slice A0 l0.length c0, .agg #[.slice A1_0 l1_0.length c1_0, .int .i64 a1_1, .int .i64 a1_2, .int .i64 a1_3, .slice A1_4 l1_4.length c1_4]] rfl z2 ?_; (with_reducible refine (spec_l21Bounds.calls k _ _ l0 _ _ l1_0 a1_1 a1_2 a1_3 _ _ l1_4 true _ ?side1 ?side2 ?side3 ?side4 ?side5 ?side6 A3.out).mono ?_); (case side1 => repeat (first | exact (Kd.C_below HR0.out HB.out) | (with_reducible refine Kd.C_alloc ?_ _) | (with_reducible refine Kd.C_drewN ?_ _) | (with_reducible refine Kd.C_drew ?_))); (case side2 => exact HC0.out); (case side3 => repeat (first | exact (Kd.C_below HR1_0.out HB.out) | (with_reducible refine Kd.C_alloc ?_ _) | (with_reducible refine Kd.C_drewN ?_ _) | (with_reducible refine Kd.C_drew ?_))); (case side4 => exact HC1_0.out); (case side5 => repeat (first | exact (Kd.C_below HR1_4.out HB.out) | (with_reducible refine Kd.C_alloc ?_ _) | (with_reducible refine Kd.C_drewN ?_ _) | (with_reducible refine Kd.C_drew ?_))); (case side6 => exact HC1_4.out); rintro e w10 ⟨rfl, hb⟩; refine ⟨_, rfl, ?_⟩; replace BK204 := Aside0.mk (blk_below (g := gb204) (o := .cells #[.slice A1_0 l1_0.length c1_0, .int .i64 a1_1, .int .i64 a1_2, .int .i64 a1_3, .slice A1_4 l1_4.length c1_4] 29 (0, 0)) z23 hb); replace HB := Aside0.mk (below_step z11 hb); (try clear hb); (try clear hb2); (try clear hk); (try clear hi); obtain ⟨hcz11_0, hcz11_1, hcz11_2, hcz11_3, hcz11_4, hfz11_0, hfz11_1, hfz11_2, hfz11_3, hfz11_4⟩ := cbf5 BK204) | ((with_reducible refine gate_callee (f := 37) rfl ?_); refine goesL_ (some 16) rfl rfl Try.func37 (by kernel_rfl) rfl #[.slice A0 l0.length c0, .agg #[.slice A1_0 l1_0.length c1_0, .int .i64 a1_1, .int .i64 a1_2, .int .i64 a1_3, .slice A1_4 l1_4.length c1_4]] rfl z2 ?_; (with_reducible refine (spec_l21Walk.calls k _ _ l0 _ _ l1_0 a1_1 a1_2 a1_3 _ _ l1_4 t206 true _ ?side1 ?side2 ?side3 ?side4 ?side5 ?side6 A5.out).mono ?_); (case side1 => repeat (first | exact (Kd.C_below HR0.out HB.out) | (with_reducible refine Kd.C_alloc ?_ _) | (with_reducible refine Kd.C_drewN ?_ _) | (with_reducible refine Kd.C_drew ?_))); (case side2 => exact HC0.out); (case side3 => repeat (first | exact (Kd.C_below HR1_0.out HB.out) | (with_reducible refine Kd.C_alloc ?_ _) | (with_reducible refine Kd.C_drewN ?_ _) | (with_reducible refine Kd.C_drew ?_))); (case side4 => exact HC1_0.out); (case side5 => repeat (first | exact (Kd.C_below HR1_4.out HB.out) | (with_reducible refine Kd.C_alloc ?_ _) | (with_reducible refine Kd.C_drewN ?_ _) | (with_reducible refine Kd.C_drew ?_))); (case side6 => exact HC1_4.out); rintro e w12 ⟨v207, rfl, ho0, hb⟩; refine ⟨_, rfl, ?_⟩; have HO208 := Aside0.mk (Kd.R_lower ho0 (below_size z11)); replace BK204 := Aside0.mk (blk_below (g := gb204) (o := .cells #[.slice A1_0 l1_0.length c1_0, .int .i64 a1_1, .int .i64 a1_2, .int .i64 a1_3, .slice A1_4 l1_4.length c1_4] 29 (0, 0)) z23 hb); replace HB := Aside0.mk (below_step z11 hb); (try clear hb); (try clear hb2); (try clear hk); (try clear hi); (try clear ho0); obtain ⟨hcz13_0, hcz13_1, hcz13_2, hcz13_3, hcz13_4, hfz13_0, hfz13_1, hfz13_2, hfz13_3, hfz13_4⟩ := cbf5 BK204; obtain ⟨Ao14, co14, eo14⟩ := Kd.R_slice HO208.out; subst eo14) | ((with_reducible refine gate_callee (f := 39) rfl ?_); refine goesL_ (some 25) rfl rfl Try.func39 (by kernel_rfl) rfl #[.int .i64 (l1_0.length : Int), .slice Ao14 t206.length co14] rfl z2 ?_; (with_reducible refine (spec_l21Starts.calls k (l1_0.length : Int) _ _ t206 t210 _ ?side1 ?side2 A7.out).mono ?_); (case side1 => repeat (first | exact (Kd.R_reads' HO208.out).2.2 | (with_reducible refine Kd.C_alloc ?_ _) | (with_reducible refine Kd.C_drewN ?_ _) | (with_reducible refine Kd.C_drew ?_))); (case side2 => exact (Kd.R_reads' HO208.out).2.1); rintro e w15 ⟨v211, rfl, ho0, hb⟩; refine ⟨_, rfl, ?_⟩; have HO212 := Aside0.mk (Kd.R_lower ho0 (below_size z11)); replace HO208 := Aside0.mk (Kd.R_below (by (with_reducible repeat (first | apply Kd.R_alloc | apply Kd.R_drewN | apply Kd.R_drew)); exact HO208.out) hb); replace BK204 := Aside0.mk (blk_below (g := gb204) (o := .cells #[.slice A1_0 l1_0.length c1_0, .int .i64 a1_1, .int .i64 a1_2, .int .i64 a1_3, .slice A1_4 l1_4.length c1_4] 29 (0, 0)) z23 hb); replace HB := Aside0.mk (below_step z11 hb); (try clear hb); (try clear hb2); (try clear hk); (try clear hi); (try clear ho0)))
   go_loopg [8] k (fun kq v8 w' => ∃ (x8_1 : Int), v8 = .int .i64 x8_1 ∧ Aside0 (spec_MemOk.l0 kq l0 t206 t210 x8_1 l1_0 a1_1 a1_2 a1_3 l1_4 = some r) ∧ Aside0 (kq ≤ k) ∧ Aside0 (Kd.R (Kd.int .i64) 3 w' w.heap.size (fun _ => True) (.slice Ao14 t206.length co14) t206) ∧ Aside0 (Kd.R Kd.bool 4 w' w.heap.size (fun _ => True) v211 t210) ∧ Aside0 (w'.heap[gb204]? = some (.cells #[(.slice A1_0 l1_0.length c1_0), .int .i64 a1_1, .int .i64 a1_2, .int .i64 a1_3, (.slice A1_4 l1_4.length c1_4)] 29 (0, 0))) ∧ Aside0 (Below w.heap.size w w'))
   case atStart => exact ⟨(0), z6, H', ⟨Nat.le_refl _⟩, ⟨by (with_reducible repeat (first | apply Kd.R_alloc | apply Kd.R_drewN | apply Kd.R_drew)); exact HO208.out⟩, ⟨by (with_reducible repeat (first | apply Kd.R_alloc | apply Kd.R_drewN | apply Kd.R_drew)); exact HO212.out⟩, ⟨by (with_reducible repeat (first | refine blk_drewN ?_ _ | refine blk_drew ?_ | refine blk_alloc ?_ _)); exact BK204.out⟩, ⟨by repeat (first | (with_reducible first | exact HB.out | apply below_alloc | apply pw_below_drewN | apply below_drew1 | refine below_set ?_ GE204.out) | exact HB.out)⟩⟩
   case round =>
    clear H'
    try clear c1
    try clear p2
    try clear c3
    try clear c4
    try clear c6
    try clear hcz11_0
    try clear hcz11_1
    try clear hcz11_2
    try clear hcz11_3
    try clear hcz11_4
    try clear hcz13_0
    try clear hcz13_1
    try clear hcz13_2
    try clear hcz13_3
    try clear hcz13_4
    try clear hcz9_0
    try clear hcz9_1
    try clear hcz9_2
    try clear hcz9_3
    try clear hcz9_4
    try clear hfz11_0
    try clear hfz11_1
    try clear hfz11_2
    try clear hfz11_3
    try clear hfz11_4
    try clear hfz13_0
    try clear hfz13_1
    try clear hfz13_2
    try clear hfz13_3
    try clear hfz13_4
    try clear hfz9_0
    try clear hfz9_1
    try clear hfz9_2
    try clear hfz9_3
    try clear hfz9_4
    obtain ⟨x8_1, rfl, HA, HK1, HO_5, HO_7, BK204, HB⟩ := hrel
    cases gk with
    | zero => exact absurd HA.out (by simp [spec_MemOk.l0])
    | succ k1 =>
     have H := HA.out
     clear HA
     simp only [spec_MemOk.l0] at H
     by_cases c16 : x8_1 < (t206.length : Int)
     ·rw [if_pos c16] at H
      have c16b0 : decide (x8_1 < (t206.length : Int)) = true := decide_eq_true c16
      clear c16
      by_cases c17 : 0 ≤ x8_1
      ·rw [if_pos c17] at H
       have c17b0 : decide (0 ≤ x8_1) = true := decide_eq_true c17
       clear c17
       replace H := Option.bind_eq_some_iff.mp H
       obtain ⟨t214, A180, H⟩ := H
       try dsimp only at H
       have A18 := Aside0.mk A180
       clear A180
       by_cases c19 : t214 = true
       ·subst c19
        rw [if_pos rfl] at H
        have H' := Aside0.mk H
        clear H
        try go_wp2
        have n0_ := Aside0.mk (Kd.R_drew HO_5.out)
        have n1_ := Aside0.mk (Kd.R_drew HO_7.out)
        have n2_ := Aside0.mk (blk_drew BK204.out)
        have n3_ := Aside0.mk (below_drew1 HB.out)
        clear HO_5
        clear HO_7
        clear BK204
        clear HB
        have HO_5 := n0_
        have HO_7 := n1_
        have BK204 := n2_
        have HB := n3_
        clear n0_ n1_ n2_ n3_
        have p213 : 0 ≤ (x8_1 : Int) := of_decide_eq_true z3
        have q213 : x8_1 < (t206.length : Int) := of_decide_eq_true z3
        obtain ⟨ad213, e213, hx213_0⟩ := Kd.at_int (Kd.R_reads' HO_5.out).2.2 x8_1 p213 q213
        cases e213
        replace p213 := eq_true p213
        replace q213 := eq_true q213
        obtain ⟨Ao21, co21, eo21⟩ := Kd.R_slice HO_7.out
        (first | subst eo21 | (injection eo21 with f1_ f2_ f3_; have f4_ := f1_.symm; have f5_ := f3_.symm; clear f1_ f2_ f3_; subst f4_; subst f5_))
        refine start_ (n := 9) (S := fun w' => w'.cell? ⟨gb204, 0, none⟩ = some (.slice A1_0 l1_0.length c1_0) ∧ w'.cell? ⟨gb204, 1, none⟩ = some (.int .i64 a1_1) ∧ w'.cell? ⟨gb204, 2, none⟩ = some (.int .i64 a1_2) ∧ w'.cell? ⟨gb204, 3, none⟩ = some (.int .i64 a1_3) ∧ w'.cell? ⟨gb204, 4, none⟩ = some (.slice A1_4 l1_4.length c1_4) ∧ w'.cell? (ad213.add (x8_1).toNat) = some (.int .i64 (rd t206 x8_1))) (ds := []) #[false, false, false, false, false, false, false, false, false] (by kernel_rfl) rfl rfl ⟨(blk_cell BK204.out 0).trans rfl, (blk_cell BK204.out 1).trans rfl, (blk_cell BK204.out 2).trans rfl, (blk_cell BK204.out 3).trans rfl, (blk_cell BK204.out 4).trans rfl, hx213_0⟩ (fun hHeld => ?_); refine with_tabW spec_MemOk.tab10 spec_MemOk.bits10 (fun HT_ HW_ => ?_)
        generalize wr.drew = w20 at HO_5 HO_7 BK204 HB hx213_0 hHeld ⊢
        refine pS 0 32 #[true, false, false, false, false, false, false, false, false] ?_ (hc := (any_of HT_.out (by kernel_rfl)))
        refine pS 2 34 #[true, false, true, false, false, false, false, false, false] ?_ (hc := (any_of HT_.out (by kernel_rfl)))
        refine pS 3 35 #[true, false, true, true, false, false, false, false, false] ?_ (hc := (any_of HT_.out (by kernel_rfl)))
        refine pS 4 36 #[true, false, true, true, true, false, false, false, false] ?_ (hc := (any_of HT_.out (by kernel_rfl)))
        refine pS 5 37 #[true, false, true, true, true, true, false, false, false] ?_ (hc := (any_of HT_.out (by kernel_rfl)))
        refine tS 1 33 #[true, true, true, true, true, true, false, false, false] rfl rfl (take_ofW HT_.out HW_.out (by kernel_rfl)) hHeld z4 ?_
        refine tS 6 38 #[true, true, true, true, true, true, true, false, false] rfl rfl (take_ofW HT_.out HW_.out (by kernel_rfl)) hHeld z4 ?_
        refine one_ (i := 7) (N := some 39) #[true, true, true, true, true, true, true, true, false] rfl rfl (one_of HT_.out (by kernel_rfl)) (by decide) (fun K hK => ?_)
        refine goes_ Try.func66 (by kernel_rfl) rfl #[.slice A0 l0.length c0, .agg #[.slice A1_0 l1_0.length c1_0, .int .i64 a1_1, .int .i64 a1_2, .int .i64 a1_3, .slice A1_4 l1_4.length c1_4], .slice Ao21 t210.length co21, .int .i64 (rd t206 x8_1)] (by rfl) rfl rfl z2 ?_
        with_reducible refine (spec_l21Thing.calls k1 _ _ l0 _ _ l1_0 a1_1 a1_2 a1_3 _ _ l1_4 _ _ t210 (rd t206 x8_1) true _ ?side1 ?side2 ?side3 ?side4 ?side5 ?side6 ?side7 ?side8 A18.out).mono ?_
        (case side1 => repeat (first | exact (Kd.C_below HR0.out HB.out) | (with_reducible refine Kd.C_alloc ?_ _) | (with_reducible refine Kd.C_drewN ?_ _) | (with_reducible refine Kd.C_drew ?_)))
        (case side2 => exact HC0.out)
        (case side3 => repeat (first | exact (Kd.C_below HR1_0.out HB.out) | (with_reducible refine Kd.C_alloc ?_ _) | (with_reducible refine Kd.C_drewN ?_ _) | (with_reducible refine Kd.C_drew ?_)))
        (case side4 => exact HC1_0.out)
        (case side5 => repeat (first | exact (Kd.C_below HR1_4.out HB.out) | (with_reducible refine Kd.C_alloc ?_ _) | (with_reducible refine Kd.C_drewN ?_ _) | (with_reducible refine Kd.C_drew ?_)))
        (case side6 => exact HC1_4.out)
        (case side7 => repeat (first | exact (Kd.R_reads' HO_7.out).2.2 | (with_reducible refine Kd.C_alloc ?_ _) | (with_reducible refine Kd.C_drewN ?_ _) | (with_reducible refine Kd.C_drew ?_)))
        (case side8 => exact (Kd.R_reads' HO_7.out).2.1)
        rintro e w22 ⟨rfl, hb⟩
        have HS5_ := (hb.cell (World.block_lt_of_cell? _ _ (hHeld.2.2.2.2.2))).trans (hHeld.2.2.2.2.2)
        refine ⟨_, rfl, ?_⟩
        have n0_ := Aside0.mk (Kd.R_below (by (with_reducible repeat (first | apply Kd.R_alloc | apply Kd.R_drewN | apply Kd.R_drew)); exact HO_5.out) hb)
        have n1_ := Aside0.mk (Kd.R_below (by (with_reducible repeat (first | apply Kd.R_alloc | apply Kd.R_drewN | apply Kd.R_drew)); exact HO_7.out) hb)
        have n2_ := Aside0.mk (blk_below (g := gb204) (o := .cells #[.slice A1_0 l1_0.length c1_0, .int .i64 a1_1, .int .i64 a1_2, .int .i64 a1_3, .slice A1_4 l1_4.length c1_4] 29 (0, 0)) z23 hb)
        have n3_ := Aside0.mk (below_step z11 hb)
        clear HO_5
        clear HO_7
        clear BK204
        clear HB
        have HO_5 := n0_
        have HO_7 := n1_
        have BK204 := n2_
        have HB := n3_
        clear n0_ n1_ n2_ n3_
        (try clear hb)
        (try clear hb2)
        (try clear hk)
        (try clear hi)
        refine hK.out _ _ ⟨(blk_cell BK204.out 0).trans rfl, (blk_cell BK204.out 1).trans rfl, (blk_cell BK204.out 2).trans rfl, (blk_cell BK204.out 3).trans rfl, (blk_cell BK204.out 4).trans rfl, HS5_⟩ (fun hHeld => ?_)
        clear hK K
        refine norm_ (a' := ?_) ?_ ?_
        rotate_left
        ·show Act.put _ (some 39) _ = _
         simp only [Act.put, lA1, lA2, lA3, i64_w, i32_w]
         rfl
        refine pS 8 40 #[true, true, true, true, true, true, true, true, true] ?_ (hc := (any_of HT_.out (by kernel_rfl)))
        refine done_ (done_of HT_.out (by kernel_rfl)) ?_
        try go_wp2
        go_roundg k1
        case measure => have := HK1.out; omega
        case rel => exact ⟨(wrap64 (x8_1 + 1)), z6, H', ⟨by have := HK1.out; omega⟩, ⟨by (with_reducible repeat (first | apply Kd.R_alloc | apply Kd.R_drewN | apply Kd.R_drew)); exact HO_5.out⟩, ⟨by (with_reducible repeat (first | apply Kd.R_alloc | apply Kd.R_drewN | apply Kd.R_drew)); exact HO_7.out⟩, ⟨by (with_reducible repeat (first | refine blk_drewN ?_ _ | refine blk_drew ?_ | refine blk_alloc ?_ _)); exact BK204.out⟩, ⟨by repeat (first | (with_reducible first | exact HB.out | apply below_alloc | apply pw_below_drewN | apply below_drew1 | refine below_set ?_ GE204.out) | exact HB.out)⟩⟩
       ·replace c19 := Bool.eq_false_iff.mpr c19
        subst c19
        rw [if_neg (show ¬ (false = true) by decide)] at H
        obtain rfl := Option.some.inj H
        try go_wp2
        have n0_ := Aside0.mk (Kd.R_drew HO_5.out)
        have n1_ := Aside0.mk (Kd.R_drew HO_7.out)
        have n2_ := Aside0.mk (blk_drew BK204.out)
        have n3_ := Aside0.mk (below_drew1 HB.out)
        clear HO_5
        clear HO_7
        clear BK204
        clear HB
        have HO_5 := n0_
        have HO_7 := n1_
        have BK204 := n2_
        have HB := n3_
        clear n0_ n1_ n2_ n3_
        have p213 : 0 ≤ (x8_1 : Int) := of_decide_eq_true z3
        have q213 : x8_1 < (t206.length : Int) := of_decide_eq_true z3
        obtain ⟨ad213, e213, hx213_0⟩ := Kd.at_int (Kd.R_reads' HO_5.out).2.2 x8_1 p213 q213
        cases e213
        replace p213 := eq_true p213
        replace q213 := eq_true q213
        obtain ⟨Ao24, co24, eo24⟩ := Kd.R_slice HO_7.out
        (first | subst eo24 | (injection eo24 with f1_ f2_ f3_; have f4_ := f1_.symm; have f5_ := f3_.symm; clear f1_ f2_ f3_; subst f4_; subst f5_))
        refine start_ (n := 9) (S := fun w' => w'.cell? ⟨gb204, 0, none⟩ = some (.slice A1_0 l1_0.length c1_0) ∧ w'.cell? ⟨gb204, 1, none⟩ = some (.int .i64 a1_1) ∧ w'.cell? ⟨gb204, 2, none⟩ = some (.int .i64 a1_2) ∧ w'.cell? ⟨gb204, 3, none⟩ = some (.int .i64 a1_3) ∧ w'.cell? ⟨gb204, 4, none⟩ = some (.slice A1_4 l1_4.length c1_4) ∧ w'.cell? (ad213.add (x8_1).toNat) = some (.int .i64 (rd t206 x8_1))) (ds := []) #[false, false, false, false, false, false, false, false, false] (by kernel_rfl) rfl rfl ⟨(blk_cell BK204.out 0).trans rfl, (blk_cell BK204.out 1).trans rfl, (blk_cell BK204.out 2).trans rfl, (blk_cell BK204.out 3).trans rfl, (blk_cell BK204.out 4).trans rfl, hx213_0⟩ (fun hHeld => ?_); refine with_tabW spec_MemOk.tab10 spec_MemOk.bits10 (fun HT_ HW_ => ?_)
        generalize wr.drew = w23 at HO_5 HO_7 BK204 HB hx213_0 hHeld ⊢
        refine pS 0 32 #[true, false, false, false, false, false, false, false, false] ?_ (hc := (any_of HT_.out (by kernel_rfl)))
        refine pS 2 34 #[true, false, true, false, false, false, false, false, false] ?_ (hc := (any_of HT_.out (by kernel_rfl)))
        refine pS 3 35 #[true, false, true, true, false, false, false, false, false] ?_ (hc := (any_of HT_.out (by kernel_rfl)))
        refine pS 4 36 #[true, false, true, true, true, false, false, false, false] ?_ (hc := (any_of HT_.out (by kernel_rfl)))
        refine pS 5 37 #[true, false, true, true, true, true, false, false, false] ?_ (hc := (any_of HT_.out (by kernel_rfl)))
        refine tS 1 33 #[true, true, true, true, true, true, false, false, false] rfl rfl (take_ofW HT_.out HW_.out (by kernel_rfl)) hHeld z4 ?_
        refine tS 6 38 #[true, true, true, true, true, true, true, false, false] rfl rfl (take_ofW HT_.out HW_.out (by kernel_rfl)) hHeld z4 ?_
        refine one_ (i := 7) (N := some 39) #[true, true, true, true, true, true, true, true, false] rfl rfl (one_of HT_.out (by kernel_rfl)) (by decide) (fun K hK => ?_)
        refine goes_ Try.func66 (by kernel_rfl) rfl #[.slice A0 l0.length c0, .agg #[.slice A1_0 l1_0.length c1_0, .int .i64 a1_1, .int .i64 a1_2, .int .i64 a1_3, .slice A1_4 l1_4.length c1_4], .slice Ao24 t210.length co24, .int .i64 (rd t206 x8_1)] (by rfl) rfl rfl z2 ?_
        with_reducible refine (spec_l21Thing.calls k1 _ _ l0 _ _ l1_0 a1_1 a1_2 a1_3 _ _ l1_4 _ _ t210 (rd t206 x8_1) false _ ?side1 ?side2 ?side3 ?side4 ?side5 ?side6 ?side7 ?side8 A18.out).mono ?_
        (case side1 => repeat (first | exact (Kd.C_below HR0.out HB.out) | (with_reducible refine Kd.C_alloc ?_ _) | (with_reducible refine Kd.C_drewN ?_ _) | (with_reducible refine Kd.C_drew ?_)))
        (case side2 => exact HC0.out)
        (case side3 => repeat (first | exact (Kd.C_below HR1_0.out HB.out) | (with_reducible refine Kd.C_alloc ?_ _) | (with_reducible refine Kd.C_drewN ?_ _) | (with_reducible refine Kd.C_drew ?_)))
        (case side4 => exact HC1_0.out)
        (case side5 => repeat (first | exact (Kd.C_below HR1_4.out HB.out) | (with_reducible refine Kd.C_alloc ?_ _) | (with_reducible refine Kd.C_drewN ?_ _) | (with_reducible refine Kd.C_drew ?_)))
        (case side6 => exact HC1_4.out)
        (case side7 => repeat (first | exact (Kd.R_reads' HO_7.out).2.2 | (with_reducible refine Kd.C_alloc ?_ _) | (with_reducible refine Kd.C_drewN ?_ _) | (with_reducible refine Kd.C_drew ?_)))
        (case side8 => exact (Kd.R_reads' HO_7.out).2.1)
        rintro e w25 ⟨rfl, hb⟩
        have HS5_ := (hb.cell (World.block_lt_of_cell? _ _ (hHeld.2.2.2.2.2))).trans (hHeld.2.2.2.2.2)
        refine ⟨_, rfl, ?_⟩
        have n0_ := Aside0.mk (Kd.R_below (by (with_reducible repeat (first | apply Kd.R_alloc | apply Kd.R_drewN | apply Kd.R_drew)); exact HO_5.out) hb)
        have n1_ := Aside0.mk (Kd.R_below (by (with_reducible repeat (first | apply Kd.R_alloc | apply Kd.R_drewN | apply Kd.R_drew)); exact HO_7.out) hb)
        have n2_ := Aside0.mk (blk_below (g := gb204) (o := .cells #[.slice A1_0 l1_0.length c1_0, .int .i64 a1_1, .int .i64 a1_2, .int .i64 a1_3, .slice A1_4 l1_4.length c1_4] 29 (0, 0)) z23 hb)
        have n3_ := Aside0.mk (below_step z11 hb)
        clear HO_5
        clear HO_7
        clear BK204
        clear HB
        have HO_5 := n0_
        have HO_7 := n1_
        have BK204 := n2_
        have HB := n3_
        clear n0_ n1_ n2_ n3_
        (try clear hb)
        (try clear hb2)
        (try clear hk)
        (try clear hi)
        refine hK.out _ _ ⟨(blk_cell BK204.out 0).trans rfl, (blk_cell BK204.out 1).trans rfl, (blk_cell BK204.out 2).trans rfl, (blk_cell BK204.out 3).trans rfl, (blk_cell BK204.out 4).trans rfl, HS5_⟩ (fun hHeld => ?_)
        clear hK K
        refine norm_ (a' := ?_) ?_ ?_
        rotate_left
        ·show Act.put _ (some 39) _ = _
         simp only [Act.put, lA1, lA2, lA3, i64_w, i32_w]
         rfl
        refine pS 8 40 #[true, true, true, true, true, true, true, true, true] ?_ (hc := (any_of HT_.out (by kernel_rfl)))
        refine done_ (done_of HT_.out (by kernel_rfl)) ?_
        try go_wp2
        go_ret
        exact ⟨by first | rfl | (simp [errW_none, errW_some] <;> rfl) | (simp [*, errW_none, errW_some] <;> rfl), by repeat (first | (with_reducible first | exact HB.out | apply below_alloc | apply pw_below_drewN | apply below_drew1 | refine below_set ?_ GE204.out) | exact HB.out)⟩
      ·rw [if_neg c17] at H
       exact absurd H (by simp)
     ·rw [if_neg c16] at H
      have c16b0 : decide (x8_1 < (t206.length : Int)) = false := decide_eq_false c16
      clear c16
      obtain rfl := Option.some.inj H
      go_wp2
      go_ret
      exact ⟨by first | rfl | (simp [errW_none, errW_some] <;> rfl) | (simp [*, errW_none, errW_some] <;> rfl), by repeat (first | (with_reducible first | exact HB.out | apply below_alloc | apply pw_below_drewN | apply below_drew1 | refine below_set ?_ GE204.out) | exact HB.out)⟩
  ·replace c6 := Bool.eq_false_iff.mpr c6
   subst c6
   rw [if_neg (show ¬ (false = true) by decide)] at H
   obtain rfl := Option.some.inj H
   go_enter Try.func34, Try.ntmps34
   go_wp2_with (first | ((with_reducible refine gate_dst (N := 3) rfl ?_); refine box_event ?hg (N := 3) ?hd (cs := #[.slice A1_0 l1_0.length c1_0, .int .i64 a1_1, .int .i64 a1_2, .int .i64 a1_3, .slice A1_4 l1_4.length c1_4]) (t := 29) ?hr ?_; (case hd => rfl); (case hg => rfl); (case hr => first | (go_simp; done) | (go_simp; rfl)); intro gb204 hg w26 hbox hb; have BK204 := Aside0.mk (hbox); have GW204 := Aside0.mk ((by rw [hg]; exact (below_size z1) : w.heap.size ≤ gb204)); have GE204 := Aside0.mk ((by rw [hg]; exact (below_size z1) : w.heap.size ≤ gb204)); replace HB := Aside0.mk (below_step z1 hb); clear hb hbox hg; obtain ⟨hcz27_0, hcz27_1, hcz27_2, hcz27_3, hcz27_4, hfz27_0, hfz27_1, hfz27_2, hfz27_3, hfz27_4⟩ := cbf5 BK204) | ((with_reducible refine gate_callee (f := 65) rfl ?_); refine goesL_ (some 11) rfl rfl Try.func65 (by kernel_rfl) rfl #[.slice A0 l0.length c0, .agg #[.slice A1_0 l1_0.length c1_0, .int .i64 a1_1, .int .i64 a1_2, .int .i64 a1_3, .slice A1_4 l1_4.length c1_4]] rfl z2 ?_; (with_reducible refine (spec_l21Bounds.calls k _ _ l0 _ _ l1_0 a1_1 a1_2 a1_3 _ _ l1_4 true _ ?side1 ?side2 ?side3 ?side4 ?side5 ?side6 A3.out).mono ?_); (case side1 => repeat (first | exact (Kd.C_below HR0.out HB.out) | (with_reducible refine Kd.C_alloc ?_ _) | (with_reducible refine Kd.C_drewN ?_ _) | (with_reducible refine Kd.C_drew ?_))); (case side2 => exact HC0.out); (case side3 => repeat (first | exact (Kd.C_below HR1_0.out HB.out) | (with_reducible refine Kd.C_alloc ?_ _) | (with_reducible refine Kd.C_drewN ?_ _) | (with_reducible refine Kd.C_drew ?_))); (case side4 => exact HC1_0.out); (case side5 => repeat (first | exact (Kd.C_below HR1_4.out HB.out) | (with_reducible refine Kd.C_alloc ?_ _) | (with_reducible refine Kd.C_drewN ?_ _) | (with_reducible refine Kd.C_drew ?_))); (case side6 => exact HC1_4.out); rintro e w28 ⟨rfl, hb⟩; refine ⟨_, rfl, ?_⟩; replace BK204 := Aside0.mk (blk_below (g := gb204) (o := .cells #[.slice A1_0 l1_0.length c1_0, .int .i64 a1_1, .int .i64 a1_2, .int .i64 a1_3, .slice A1_4 l1_4.length c1_4] 29 (0, 0)) z23 hb); replace HB := Aside0.mk (below_step z11 hb); (try clear hb); (try clear hb2); (try clear hk); (try clear hi); obtain ⟨hcz29_0, hcz29_1, hcz29_2, hcz29_3, hcz29_4, hfz29_0, hfz29_1, hfz29_2, hfz29_3, hfz29_4⟩ := cbf5 BK204) | ((with_reducible refine gate_callee (f := 37) rfl ?_); refine goesL_ (some 16) rfl rfl Try.func37 (by kernel_rfl) rfl #[.slice A0 l0.length c0, .agg #[.slice A1_0 l1_0.length c1_0, .int .i64 a1_1, .int .i64 a1_2, .int .i64 a1_3, .slice A1_4 l1_4.length c1_4]] rfl z2 ?_; (with_reducible refine (spec_l21Walk.calls k _ _ l0 _ _ l1_0 a1_1 a1_2 a1_3 _ _ l1_4 t206 false _ ?side1 ?side2 ?side3 ?side4 ?side5 ?side6 A5.out).mono ?_); (case side1 => repeat (first | exact (Kd.C_below HR0.out HB.out) | (with_reducible refine Kd.C_alloc ?_ _) | (with_reducible refine Kd.C_drewN ?_ _) | (with_reducible refine Kd.C_drew ?_))); (case side2 => exact HC0.out); (case side3 => repeat (first | exact (Kd.C_below HR1_0.out HB.out) | (with_reducible refine Kd.C_alloc ?_ _) | (with_reducible refine Kd.C_drewN ?_ _) | (with_reducible refine Kd.C_drew ?_))); (case side4 => exact HC1_0.out); (case side5 => repeat (first | exact (Kd.C_below HR1_4.out HB.out) | (with_reducible refine Kd.C_alloc ?_ _) | (with_reducible refine Kd.C_drewN ?_ _) | (with_reducible refine Kd.C_drew ?_))); (case side6 => exact HC1_4.out); rintro e w30 ⟨v207, rfl, ho0, hb⟩; refine ⟨_, rfl, ?_⟩; have HO208 := Aside0.mk (Kd.R_lower ho0 (below_size z11)); replace BK204 := Aside0.mk (blk_below (g := gb204) (o := .cells #[.slice A1_0 l1_0.length c1_0, .int .i64 a1_1, .int .i64 a1_2, .int .i64 a1_3, .slice A1_4 l1_4.length c1_4] 29 (0, 0)) z23 hb); replace HB := Aside0.mk (below_step z11 hb); (try clear hb); (try clear hb2); (try clear hk); (try clear hi); (try clear ho0)))
   go_ret
   exact ⟨by first | rfl | (simp [errW_none, errW_some] <;> rfl) | (simp [*, errW_none, errW_some] <;> rfl), by repeat (first | (with_reducible first | exact HB.out | apply below_alloc | apply pw_below_drewN | apply below_drew1 | refine below_set ?_ GE204.out) | exact HB.out)⟩
 ·replace c4 := Bool.eq_false_iff.mpr c4
  subst c4
  rw [if_neg (show ¬ (false = true) by decide)] at H
  obtain rfl := Option.some.inj H
  go_enter Try.func34, Try.ntmps34
  go_wp2_with (first | ((with_reducible refine gate_dst (N := 3) rfl ?_); refine box_event ?hg (N := 3) ?hd (cs := #[.slice A1_0 l1_0.length c1_0, .int .i64 a1_1, .int .i64 a1_2, .int .i64 a1_3, .slice A1_4 l1_4.length c1_4]) (t := 29) ?hr ?_; (case hd => rfl); (case hg => rfl); (case hr => first | (go_simp; done) | (go_simp; rfl)); intro gb204 hg w31 hbox hb; have BK204 := Aside0.mk (hbox); have GW204 := Aside0.mk ((by rw [hg]; exact (below_size z1) : w.heap.size ≤ gb204)); have GE204 := Aside0.mk ((by rw [hg]; exact (below_size z1) : w.heap.size ≤ gb204)); replace HB := Aside0.mk (below_step z1 hb); clear hb hbox hg; obtain ⟨hcz32_0, hcz32_1, hcz32_2, hcz32_3, hcz32_4, hfz32_0, hfz32_1, hfz32_2, hfz32_3, hfz32_4⟩ := cbf5 BK204) | ((with_reducible refine gate_callee (f := 65) rfl ?_); refine goesL_ (some 11) rfl rfl Try.func65 (by kernel_rfl) rfl #[.slice A0 l0.length c0, .agg #[.slice A1_0 l1_0.length c1_0, .int .i64 a1_1, .int .i64 a1_2, .int .i64 a1_3, .slice A1_4 l1_4.length c1_4]] rfl z2 ?_; (with_reducible refine (spec_l21Bounds.calls k _ _ l0 _ _ l1_0 a1_1 a1_2 a1_3 _ _ l1_4 false _ ?side1 ?side2 ?side3 ?side4 ?side5 ?side6 A3.out).mono ?_); (case side1 => repeat (first | exact (Kd.C_below HR0.out HB.out) | (with_reducible refine Kd.C_alloc ?_ _) | (with_reducible refine Kd.C_drewN ?_ _) | (with_reducible refine Kd.C_drew ?_))); (case side2 => exact HC0.out); (case side3 => repeat (first | exact (Kd.C_below HR1_0.out HB.out) | (with_reducible refine Kd.C_alloc ?_ _) | (with_reducible refine Kd.C_drewN ?_ _) | (with_reducible refine Kd.C_drew ?_))); (case side4 => exact HC1_0.out); (case side5 => repeat (first | exact (Kd.C_below HR1_4.out HB.out) | (with_reducible refine Kd.C_alloc ?_ _) | (with_reducible refine Kd.C_drewN ?_ _) | (with_reducible refine Kd.C_drew ?_))); (case side6 => exact HC1_4.out); rintro e w33 ⟨rfl, hb⟩; refine ⟨_, rfl, ?_⟩; replace BK204 := Aside0.mk (blk_below (g := gb204) (o := .cells #[.slice A1_0 l1_0.length c1_0, .int .i64 a1_1, .int .i64 a1_2, .int .i64 a1_3, .slice A1_4 l1_4.length c1_4] 29 (0, 0)) z23 hb); replace HB := Aside0.mk (below_step z11 hb); (try clear hb); (try clear hb2); (try clear hk); (try clear hi)))
  go_ret
  exact ⟨by first | rfl | (simp [errW_none, errW_some] <;> rfl) | (simp [*, errW_none, errW_some] <;> rfl), by repeat (first | (with_reducible first | exact HB.out | apply below_alloc | apply pw_below_drewN | apply below_drew1 | refine below_set ?_ GE204.out) | exact HB.out)⟩
end Go.Proofs.Ytmniglgahodghaa.K
namespace Go.Proofs.Ytmniglgahodghaa.K
open Go.RowKit Go.Proofs.YtmniglgahodghaaW.PrintWords Go.Proofs.YtmniglgahodghaaW.PrintLast Go.Proofs.YtmniglgahodghaaW.PrintMore
attribute [local go_sem] max2_int min2_int max_two min_two max_three min_three max_four min_four
set_option linter.unusedVariables false
set_option linter.unusedSimpArgs false
def spec_l21Is.f (k : Nat) (l0 : List (S69)) (l1_0 : List Int) (a1_1 : Int) (a1_2 : Int) (a1_3 : Int) (l1_4 : List Bool) (a2 : Int) : Option (Bool) := (spec_l21Walk.f k l0 l1_0 a1_1 a1_2 a1_3 l1_4).bind fun bt216 => ((spec_l6In.f a2 1 (l1_0.length : Int)).bind fun t220 => (if t220 = true then ((spec_l21Starts.f k (l1_0.length : Int) bt216.1).bind fun t221 => (if 0 ≤ (wrap64 (a2 - 1)) then (if (wrap64 (a2 - 1)) < (t221.length : Int) then (some (rdOf false t221 (wrap64 (a2 - 1)))) else (none)) else (none))) else (some false)))
set_option maxHeartbeats 8000000 in
set_option maxRecDepth 100000 in
theorem spec_l21Is.calls (k : Nat) (A0 : Option Addr) (c0 : Nat) (l0 : List (S69)) (A1_0 : Option Addr) (c1_0 : Nat) (l1_0 : List Int) (a1_1 : Int) (a1_2 : Int) (a1_3 : Int) (A1_4 : Option Addr) (c1_4 : Nat) (l1_4 : List Bool) (a2 : Int) (r : Bool) (w : World) (hr0 : Kd.C k69 w A0 l0.length l0) (hc0 : l0.length ≤ c0) (hr1_0 : Kd.C (Kd.int .i64) w A1_0 l1_0.length l1_0) (hc1_0 : l1_0.length ≤ c1_0) (hr1_4 : Kd.C Kd.bool w A1_4 l1_4.length l1_4) (hc1_4 : l1_4.length ≤ c1_4) (h : spec_l21Is.f k l0 l1_0 a1_1 a1_2 a1_3 l1_4 a2 = some r) :
  Calls Try.prog 67 #[.slice A0 l0.length c0, .agg #[.slice A1_0 l1_0.length c1_0, .int .i64 a1_1, .int .i64 a1_2, .int .i64 a1_3, .slice A1_4 l1_4.length c1_4], .int .i64 a2] w fun e w' => e = .returned (.bool r) ∧ Below w.heap.size w w' := by
 have hu29 := Try.underlying29
 have HR0 := Aside0.mk hr0
 have HC0 := Aside0.mk hc0
 clear hr0 hc0
 have HR1_0 := Aside0.mk hr1_0
 have HC1_0 := Aside0.mk hc1_0
 clear hr1_0 hc1_0
 have HR1_4 := Aside0.mk hr1_4
 have HC1_4 := Aside0.mk hc1_4
 clear hr1_4 hc1_4
 have HB := Aside0.mk (Below.refl w.heap.size w)
 have H : ((spec_l21Walk.f k l0 l1_0 a1_1 a1_2 a1_3 l1_4).bind fun bt216 => ((spec_l6In.f a2 1 (l1_0.length : Int)).bind fun t220 => (if t220 = true then ((spec_l21Starts.f k (l1_0.length : Int) bt216.1).bind fun t221 => (if 0 ≤ (wrap64 (a2 - 1)) then (if (wrap64 (a2 - 1)) < (t221.length : Int) then (some (rdOf false t221 (wrap64 (a2 - 1)))) else (none)) else (none))) else (some false)))) = some r := h
 clear h
 replace H := Option.bind_eq_some_iff.mp H
 obtain ⟨⟨t216, t219⟩, A40, H⟩ := H
 try dsimp only at H
 have A4 := Aside0.mk A40
 clear A40
 replace H := Option.bind_eq_some_iff.mp H
 obtain ⟨t220, A50, H⟩ := H
 try dsimp only at H
 have A5 := Aside0.mk A50
 clear A50
 by_cases c6 : t220 = true
 ·subst c6
  rw [if_pos rfl] at H
  replace H := Option.bind_eq_some_iff.mp H
  obtain ⟨t221, A70, H⟩ := H
  try dsimp only at H
  have A7 := Aside0.mk A70
  clear A70
  obtain ⟨ji8, hji8⟩ : ∃ j_ : Int, (wrap64 (a2 - 1)) = j_ := ⟨_, rfl⟩
  replace H : (if 0 ≤ (ji8) then (if (ji8) < (t221.length : Int) then (some (rdOf false t221 (ji8))) else (none)) else (none)) = some r := by first | (rw [hji8] at H; exact H) | (simp only [hji8] at H ⊢; exact H)
  (try rw [hji8] at A4)
  (try rw [hji8] at A5)
  (try rw [hji8] at A7)
  have hji8w : (IntKind.i64.wrap (a2 - 1)) = ji8 := (i64_w _).trans hji8
  by_cases c9 : 0 ≤ (ji8)
  ·rw [if_pos c9] at H
   have c9b0 : decide (0 ≤ (ji8)) = true := decide_eq_true c9
   clear c9
   by_cases c10 : (ji8) < (t221.length : Int)
   ·rw [if_pos c10] at H
    have c10b0 : decide ((ji8) < (t221.length : Int)) = true := decide_eq_true c10
    clear c10
    obtain rfl := Option.some.inj H
    go_enter Try.func67, Try.ntmps67
    go_wp2_with (first | ((with_reducible refine gate_dst (N := 4) rfl ?_); (try (refine gate_guard (by rfl) ?_; dsimp only)); refine box_event ?hg (N := 4) ?hd (cs := #[.slice A1_0 l1_0.length c1_0, .int .i64 a1_1, .int .i64 a1_2, .int .i64 a1_3, .slice A1_4 l1_4.length c1_4]) (t := 29) ?hr ?_; (case hd => rfl); (case hg => rfl); (case hr => first | (go_simp; done) | (go_simp; rfl)); intro gb215 hg w11 hbox hb; have BK215 := Aside0.mk (hbox); have GW215 := Aside0.mk ((by rw [hg]; exact (below_size z1) : w.heap.size ≤ gb215)); have GE215 := Aside0.mk ((by rw [hg]; exact (below_size z1) : w.heap.size ≤ gb215)); replace HB := Aside0.mk (below_step z1 hb); clear hb hbox hg; obtain ⟨hcz12_0, hcz12_1, hcz12_2, hcz12_3, hcz12_4, hfz12_0, hfz12_1, hfz12_2, hfz12_3, hfz12_4⟩ := cbf5 BK215) | ((with_reducible refine gate_callee (f := 37) rfl ?_); refine goesL_ (some 12) rfl rfl Try.func37 (by kernel_rfl) rfl #[.slice A0 l0.length c0, .agg #[.slice A1_0 l1_0.length c1_0, .int .i64 a1_1, .int .i64 a1_2, .int .i64 a1_3, .slice A1_4 l1_4.length c1_4]] rfl z2 ?_; (with_reducible refine (spec_l21Walk.calls k _ _ l0 _ _ l1_0 a1_1 a1_2 a1_3 _ _ l1_4 t216 t219 _ ?side1 ?side2 ?side3 ?side4 ?side5 ?side6 A4.out).mono ?_); (case side1 => repeat (first | exact (Kd.C_below HR0.out HB.out) | (with_reducible refine Kd.C_alloc ?_ _) | (with_reducible refine Kd.C_drewN ?_ _) | (with_reducible refine Kd.C_drew ?_))); (case side2 => exact HC0.out); (case side3 => repeat (first | exact (Kd.C_below HR1_0.out HB.out) | (with_reducible refine Kd.C_alloc ?_ _) | (with_reducible refine Kd.C_drewN ?_ _) | (with_reducible refine Kd.C_drew ?_))); (case side4 => exact HC1_0.out); (case side5 => repeat (first | exact (Kd.C_below HR1_4.out HB.out) | (with_reducible refine Kd.C_alloc ?_ _) | (with_reducible refine Kd.C_drewN ?_ _) | (with_reducible refine Kd.C_drew ?_))); (case side6 => exact HC1_4.out); rintro e w13 ⟨v217, rfl, ho0, hb⟩; refine ⟨_, rfl, ?_⟩; have HO218 := Aside0.mk (Kd.R_lower ho0 (below_size z20)); replace BK215 := Aside0.mk (blk_below (g := gb215) (o := .cells #[.slice A1_0 l1_0.length c1_0, .int .i64 a1_1, .int .i64 a1_2, .int .i64 a1_3, .slice A1_4 l1_4.length c1_4] 29 (0, 0)) (by (with_reducible repeat (first | refine blk_drewN ?_ _ | refine blk_drew ?_ | refine blk_alloc ?_ _)); exact BK215.out) hb); replace HB := Aside0.mk (below_step z20 hb); (try clear hb); (try clear hb2); (try clear hk); (try clear hi); (try clear ho0); obtain ⟨hcz14_0, hcz14_1, hcz14_2, hcz14_3, hcz14_4, hfz14_0, hfz14_1, hfz14_2, hfz14_3, hfz14_4⟩ := cbf5 BK215) | ((with_reducible refine gate_callee (f := 69) rfl ?_); refine goesL_ (some 19) rfl rfl Try.func69 (by kernel_rfl) rfl #[.int .i64 a2, .int .i64 1, .int .i64 (l1_0.length : Int)] rfl z2 ?_; (with_reducible refine (spec_l6In.calls a2 1 (l1_0.length : Int) true _ A5.out).mono ?_); rintro e w' ⟨rfl, ⟨nd, rfl⟩⟩; refine ⟨_, rfl, ?_⟩; obtain ⟨Ao15, co15, eo15⟩ := Kd.R_slice HO218.out; subst eo15) | (go_at_call 39; (with_reducible refine (spec_l21Starts.calls k (l1_0.length : Int) _ _ t216 t221 _ ?side1 ?side2 A7.out).mono ?_); (case side1 => repeat (first | exact (Kd.R_reads' HO218.out).2.2 | (with_reducible refine Kd.C_alloc ?_ _) | (with_reducible refine Kd.C_drewN ?_ _) | (with_reducible refine Kd.C_drew ?_))); (case side2 => exact (Kd.R_reads' HO218.out).2.1); rintro e w16 ⟨v222, rfl, ho0, hb⟩; have HO223 := Aside0.mk (Kd.R_lower ho0 (below_size z20)); replace HO218 := Aside0.mk (Kd.R_below (by (with_reducible repeat (first | apply Kd.R_alloc | apply Kd.R_drewN | apply Kd.R_drew)); exact HO218.out) hb); replace BK215 := Aside0.mk (blk_below (g := gb215) (o := .cells #[.slice A1_0 l1_0.length c1_0, .int .i64 a1_1, .int .i64 a1_2, .int .i64 a1_3, .slice A1_4 l1_4.length c1_4] 29 (0, 0)) (by (with_reducible repeat (first | refine blk_drewN ?_ _ | refine blk_drew ?_ | refine blk_alloc ?_ _)); exact BK215.out) hb); replace HB := Aside0.mk (below_step z20 hb); (try clear hb); (try clear hb2); (try clear hk); (try clear hi); (try clear ho0); obtain ⟨Ao17, co17, eo17⟩ := Kd.R_slice HO223.out; subst eo17; have p224 : 0 ≤ ((ji8) : Int) := of_decide_eq_true z3; have q224 : (ji8) < (t221.length : Int) := of_decide_eq_true z3; obtain ⟨ad224, e224, hx224_0⟩ := Kd.at_bool (Kd.R_reads' HO223.out).2.2 (ji8) p224 q224; cases e224; replace p224 := eq_true p224; replace q224 := eq_true q224))
    go_ret
    exact ⟨by first | rfl | (simp [errW_none, errW_some] <;> rfl) | (simp only [← hji8]; first | rfl | (simp [errW_none, errW_some] <;> rfl)) | (simp [*, errW_none, errW_some] <;> rfl), by repeat (first | (with_reducible first | exact HB.out | apply below_alloc | apply pw_below_drewN | apply below_drew1 | refine below_set ?_ GE215.out) | exact HB.out)⟩
   ·rw [if_neg c10] at H
    exact absurd H (by simp)
  ·rw [if_neg c9] at H
   exact absurd H (by simp)
 ·replace c6 := Bool.eq_false_iff.mpr c6
  subst c6
  rw [if_neg (show ¬ (false = true) by decide)] at H
  obtain rfl := Option.some.inj H
  go_enter Try.func67, Try.ntmps67
  go_wp2_with (first | ((with_reducible refine gate_dst (N := 4) rfl ?_); (try (refine gate_guard (by rfl) ?_; dsimp only)); refine box_event ?hg (N := 4) ?hd (cs := #[.slice A1_0 l1_0.length c1_0, .int .i64 a1_1, .int .i64 a1_2, .int .i64 a1_3, .slice A1_4 l1_4.length c1_4]) (t := 29) ?hr ?_; (case hd => rfl); (case hg => rfl); (case hr => first | (go_simp; done) | (go_simp; rfl)); intro gb215 hg w18 hbox hb; have BK215 := Aside0.mk (hbox); have GW215 := Aside0.mk ((by rw [hg]; exact (below_size z1) : w.heap.size ≤ gb215)); have GE215 := Aside0.mk ((by rw [hg]; exact (below_size z1) : w.heap.size ≤ gb215)); replace HB := Aside0.mk (below_step z1 hb); clear hb hbox hg; obtain ⟨hcz19_0, hcz19_1, hcz19_2, hcz19_3, hcz19_4, hfz19_0, hfz19_1, hfz19_2, hfz19_3, hfz19_4⟩ := cbf5 BK215) | ((with_reducible refine gate_callee (f := 37) rfl ?_); refine goesL_ (some 12) rfl rfl Try.func37 (by kernel_rfl) rfl #[.slice A0 l0.length c0, .agg #[.slice A1_0 l1_0.length c1_0, .int .i64 a1_1, .int .i64 a1_2, .int .i64 a1_3, .slice A1_4 l1_4.length c1_4]] rfl z2 ?_; (with_reducible refine (spec_l21Walk.calls k _ _ l0 _ _ l1_0 a1_1 a1_2 a1_3 _ _ l1_4 t216 t219 _ ?side1 ?side2 ?side3 ?side4 ?side5 ?side6 A4.out).mono ?_); (case side1 => repeat (first | exact (Kd.C_below HR0.out HB.out) | (with_reducible refine Kd.C_alloc ?_ _) | (with_reducible refine Kd.C_drewN ?_ _) | (with_reducible refine Kd.C_drew ?_))); (case side2 => exact HC0.out); (case side3 => repeat (first | exact (Kd.C_below HR1_0.out HB.out) | (with_reducible refine Kd.C_alloc ?_ _) | (with_reducible refine Kd.C_drewN ?_ _) | (with_reducible refine Kd.C_drew ?_))); (case side4 => exact HC1_0.out); (case side5 => repeat (first | exact (Kd.C_below HR1_4.out HB.out) | (with_reducible refine Kd.C_alloc ?_ _) | (with_reducible refine Kd.C_drewN ?_ _) | (with_reducible refine Kd.C_drew ?_))); (case side6 => exact HC1_4.out); rintro e w20 ⟨v217, rfl, ho0, hb⟩; refine ⟨_, rfl, ?_⟩; have HO218 := Aside0.mk (Kd.R_lower ho0 (below_size z20)); replace BK215 := Aside0.mk (blk_below (g := gb215) (o := .cells #[.slice A1_0 l1_0.length c1_0, .int .i64 a1_1, .int .i64 a1_2, .int .i64 a1_3, .slice A1_4 l1_4.length c1_4] 29 (0, 0)) (by (with_reducible repeat (first | refine blk_drewN ?_ _ | refine blk_drew ?_ | refine blk_alloc ?_ _)); exact BK215.out) hb); replace HB := Aside0.mk (below_step z20 hb); (try clear hb); (try clear hb2); (try clear hk); (try clear hi); (try clear ho0); obtain ⟨hcz21_0, hcz21_1, hcz21_2, hcz21_3, hcz21_4, hfz21_0, hfz21_1, hfz21_2, hfz21_3, hfz21_4⟩ := cbf5 BK215) | ((with_reducible refine gate_callee (f := 69) rfl ?_); refine goesL_ (some 19) rfl rfl Try.func69 (by kernel_rfl) rfl #[.int .i64 a2, .int .i64 1, .int .i64 (l1_0.length : Int)] rfl z2 ?_; (with_reducible refine (spec_l6In.calls a2 1 (l1_0.length : Int) false _ A5.out).mono ?_); rintro e w' ⟨rfl, ⟨nd, rfl⟩⟩; refine ⟨_, rfl, ?_⟩))
  go_ret
  exact ⟨by first | rfl | (simp [errW_none, errW_some] <;> rfl) | (simp [*, errW_none, errW_some] <;> rfl), by repeat (first | (with_reducible first | exact HB.out | apply below_alloc | apply pw_below_drewN | apply below_drew1 | refine below_set ?_ GE215.out) | exact HB.out)⟩
end Go.Proofs.Ytmniglgahodghaa.K
namespace Go.Proofs.Ytmniglgahodghaa.K
open Go.RowKit Go.Proofs.YtmniglgahodghaaW.PrintWords Go.Proofs.YtmniglgahodghaaW.PrintLast Go.Proofs.YtmniglgahodghaaW.PrintMore
attribute [local go_sem] max2_int min2_int max_two min_two max_three min_three max_four min_four
set_option linter.unusedVariables false
set_option linter.unusedSimpArgs false
def spec_l21Inside.f (k : Nat) (l0 : List (S69)) (l1_0 : List Int) (a1_1 : Int) (a1_2 : Int) (a1_3 : Int) (l1_4 : List Bool) (a2 : Int) (a3 : Int) : Option (Int × Bool) := (spec_l21Is.f k l0 l1_0 a1_1 a1_2 a1_3 l1_4 a2).bind fun t226 => (if t226 = true then (if 0 ≤ (wrap64 (a2 - 1)) then (if (wrap64 (a2 - 1)) < (l1_0.length : Int) then ((spec_l21Head.f (rd l1_0 (wrap64 (a2 - 1)))).bind fun t228 => ((spec_l21Size.f k l0 l1_0 (wrap64 (a2 - 1)) (l1_0.length : Int)).bind fun t229 => ((spec_l6In.f a3 0 (wrap64 ((wrap64 (t229 - t228)) - 1))).bind fun t230 => (some (wrap64 ((wrap64 ((wrap64 (a2 - 1)) + t228)) + a3), t230))))) else (none)) else (none)) else (some (0, false)))
set_option maxHeartbeats 8000000 in
set_option maxRecDepth 100000 in
theorem spec_l21Inside.calls (k : Nat) (A0 : Option Addr) (c0 : Nat) (l0 : List (S69)) (A1_0 : Option Addr) (c1_0 : Nat) (l1_0 : List Int) (a1_1 : Int) (a1_2 : Int) (a1_3 : Int) (A1_4 : Option Addr) (c1_4 : Nat) (l1_4 : List Bool) (a2 : Int) (a3 : Int) (r1 : Int) (r2 : Bool) (w : World) (hr0 : Kd.C k69 w A0 l0.length l0) (hc0 : l0.length ≤ c0) (hr1_0 : Kd.C (Kd.int .i64) w A1_0 l1_0.length l1_0) (hc1_0 : l1_0.length ≤ c1_0) (hr1_4 : Kd.C Kd.bool w A1_4 l1_4.length l1_4) (hc1_4 : l1_4.length ≤ c1_4) (h : spec_l21Inside.f k l0 l1_0 a1_1 a1_2 a1_3 l1_4 a2 a3 = some (r1, r2)) :
  Calls Try.prog 35 #[.slice A0 l0.length c0, .agg #[.slice A1_0 l1_0.length c1_0, .int .i64 a1_1, .int .i64 a1_2, .int .i64 a1_3, .slice A1_4 l1_4.length c1_4], .int .i64 a2, .int .i64 a3] w fun e w' => e = .returned (.tuple #[.int .i64 r1, .bool r2]) ∧ Below w.heap.size w w' := by
 have hu29 := Try.underlying29
 have HR0 := Aside0.mk hr0
 have HC0 := Aside0.mk hc0
 clear hr0 hc0
 have HR1_0 := Aside0.mk hr1_0
 have HC1_0 := Aside0.mk hc1_0
 clear hr1_0 hc1_0
 have HR1_4 := Aside0.mk hr1_4
 have HC1_4 := Aside0.mk hc1_4
 clear hr1_4 hc1_4
 have HB := Aside0.mk (Below.refl w.heap.size w)
 have H : ((spec_l21Is.f k l0 l1_0 a1_1 a1_2 a1_3 l1_4 a2).bind fun t226 => (if t226 = true then (if 0 ≤ (wrap64 (a2 - 1)) then (if (wrap64 (a2 - 1)) < (l1_0.length : Int) then ((spec_l21Head.f (rd l1_0 (wrap64 (a2 - 1)))).bind fun t228 => ((spec_l21Size.f k l0 l1_0 (wrap64 (a2 - 1)) (l1_0.length : Int)).bind fun t229 => ((spec_l6In.f a3 0 (wrap64 ((wrap64 (t229 - t228)) - 1))).bind fun t230 => (some (wrap64 ((wrap64 ((wrap64 (a2 - 1)) + t228)) + a3), t230))))) else (none)) else (none)) else (some (0, false)))) = some (r1, r2) := h
 clear h
 replace H := Option.bind_eq_some_iff.mp H
 obtain ⟨t226, A50, H⟩ := H
 try dsimp only at H
 have A5 := Aside0.mk A50
 clear A50
 by_cases c6 : t226 = true
 ·subst c6
  rw [if_pos rfl] at H
  obtain ⟨ji7, hji7⟩ : ∃ j_ : Int, (wrap64 (a2 - 1)) = j_ := ⟨_, rfl⟩
  replace H : (if 0 ≤ (ji7) then (if (ji7) < (l1_0.length : Int) then ((spec_l21Head.f (rd l1_0 (ji7))).bind fun t228 => ((spec_l21Size.f k l0 l1_0 (ji7) (l1_0.length : Int)).bind fun t229 => ((spec_l6In.f a3 0 (wrap64 ((wrap64 (t229 - t228)) - 1))).bind fun t230 => (some (wrap64 ((wrap64 ((ji7) + t228)) + a3), t230))))) else (none)) else (none)) = some (r1, r2) := by first | (rw [hji7] at H; exact H) | (simp only [hji7] at H ⊢; exact H)
  (try rw [hji7] at A5)
  have hji7w : (IntKind.i64.wrap (a2 - 1)) = ji7 := (i64_w _).trans hji7
  by_cases c8 : 0 ≤ (ji7)
  ·rw [if_pos c8] at H
   have c8b0 : decide (0 ≤ (ji7)) = true := decide_eq_true c8
   clear c8
   by_cases c9 : (ji7) < (l1_0.length : Int)
   ·rw [if_pos c9] at H
    have c9b0 : decide ((ji7) < (l1_0.length : Int)) = true := decide_eq_true c9
    clear c9
    replace H := Option.bind_eq_some_iff.mp H
    obtain ⟨t228, A100, H⟩ := H
    try dsimp only at H
    have A10 := Aside0.mk A100
    clear A100
    replace H := Option.bind_eq_some_iff.mp H
    obtain ⟨t229, A110, H⟩ := H
    try dsimp only at H
    have A11 := Aside0.mk A110
    clear A110
    replace H := Option.bind_eq_some_iff.mp H
    obtain ⟨t230, A120, H⟩ := H
    try dsimp only at H
    have A12 := Aside0.mk A120
    clear A120
    simp only [Option.some.injEq, Prod.mk.injEq] at H
    obtain ⟨rfl, rfl⟩ := H
    go_enter Try.func35, Try.ntmps35
    go_wp2_with (first | ((with_reducible refine gate_dst (N := 5) rfl ?_); refine box_event ?hg (N := 5) ?hd (cs := #[.slice A1_0 l1_0.length c1_0, .int .i64 a1_1, .int .i64 a1_2, .int .i64 a1_3, .slice A1_4 l1_4.length c1_4]) (t := 29) ?hr ?_; (case hd => rfl); (case hg => rfl); (case hr => first | (go_simp; done) | (go_simp; rfl)); intro gb225 hg w13 hbox hb; have BK225 := Aside0.mk (hbox); have GW225 := Aside0.mk ((by rw [hg]; exact (below_size z1) : w.heap.size ≤ gb225)); have GE225 := Aside0.mk ((by rw [hg]; exact (below_size z1) : w.heap.size ≤ gb225)); replace HB := Aside0.mk (below_step z1 hb); clear hb hbox hg; obtain ⟨hcz14_0, hcz14_1, hcz14_2, hcz14_3, hcz14_4, hfz14_0, hfz14_1, hfz14_2, hfz14_3, hfz14_4⟩ := cbf5 BK225) | ((with_reducible refine gate_callee (f := 67) rfl ?_); refine goesL_ (some 14) rfl rfl Try.func67 (by kernel_rfl) rfl #[.slice A0 l0.length c0, .agg #[.slice A1_0 l1_0.length c1_0, .int .i64 a1_1, .int .i64 a1_2, .int .i64 a1_3, .slice A1_4 l1_4.length c1_4], .int .i64 a2] rfl z2 ?_; (with_reducible refine (spec_l21Is.calls k _ _ l0 _ _ l1_0 a1_1 a1_2 a1_3 _ _ l1_4 a2 true _ ?side1 ?side2 ?side3 ?side4 ?side5 ?side6 A5.out).mono ?_); (case side1 => repeat (first | exact (Kd.C_below HR0.out HB.out) | (with_reducible refine Kd.C_alloc ?_ _) | (with_reducible refine Kd.C_drewN ?_ _) | (with_reducible refine Kd.C_drew ?_))); (case side2 => exact HC0.out); (case side3 => repeat (first | exact (Kd.C_below HR1_0.out HB.out) | (with_reducible refine Kd.C_alloc ?_ _) | (with_reducible refine Kd.C_drewN ?_ _) | (with_reducible refine Kd.C_drew ?_))); (case side4 => exact HC1_0.out); (case side5 => repeat (first | exact (Kd.C_below HR1_4.out HB.out) | (with_reducible refine Kd.C_alloc ?_ _) | (with_reducible refine Kd.C_drewN ?_ _) | (with_reducible refine Kd.C_drew ?_))); (case side6 => exact HC1_4.out); rintro e w15 ⟨rfl, hb⟩; refine ⟨_, rfl, ?_⟩; replace BK225 := Aside0.mk (blk_below (g := gb225) (o := .cells #[.slice A1_0 l1_0.length c1_0, .int .i64 a1_1, .int .i64 a1_2, .int .i64 a1_3, .slice A1_4 l1_4.length c1_4] 29 (0, 0)) (by (with_reducible repeat (first | refine blk_drewN ?_ _ | refine blk_drew ?_ | refine blk_alloc ?_ _)); exact BK225.out) hb); replace HB := Aside0.mk (below_step z26 hb); (try clear hb); (try clear hb2); (try clear hk); (try clear hi); obtain ⟨hcz16_0, hcz16_1, hcz16_2, hcz16_3, hcz16_4, hfz16_0, hfz16_1, hfz16_2, hfz16_3, hfz16_4⟩ := cbf5 BK225; have p227 : 0 ≤ ((ji7) : Int) := of_decide_eq_true z3; have q227 : (ji7) < (l1_0.length : Int) := of_decide_eq_true z3; obtain ⟨ad227, e227, hx227_0⟩ := Kd.at_int HR1_0.out (ji7) p227 q227; cases e227; replace hx227_0 := (HB.out.cell (World.block_lt_of_cell? w _ hx227_0)).trans hx227_0; replace p227 := eq_true p227; replace q227 := eq_true q227) | ((with_reducible refine gate_callee (f := 68) rfl ?_); refine goesL_ (some 22) rfl rfl Try.func68 (by kernel_rfl) rfl #[.int .i64 (rd l1_0 (ji7))] rfl (by (try simp only [List.map_toArray, List.map_cons, List.map_nil]); first | done | (simp only [hji7]; rfl) | rfl | (simp only [List.length_drop, List.length_take]; rfl)) ?_; (with_reducible refine (spec_l21Head.calls (rd l1_0 (ji7)) t228 _ A10.out).mono ?_); rintro e w' ⟨rfl, ⟨nd, rfl⟩⟩; refine ⟨_, rfl, ?_⟩) | ((with_reducible refine gate_callee (f := 70) rfl ?_); refine goesL_ (some 38) rfl rfl Try.func70 (by kernel_rfl) rfl #[.slice A0 l0.length c0, .slice (some ad227) l1_0.length c1_0, .int .i64 ji7, .int .i64 (l1_0.length : Int)] rfl (by (try simp only [List.map_toArray, List.map_cons, List.map_nil]); first | done | (simp only [hji7]; rfl) | rfl | (simp only [List.length_drop, List.length_take]; rfl)) ?_; (with_reducible refine (spec_l21Size.calls k _ _ l0 _ _ l1_0 ji7 (l1_0.length : Int) t229 _ ?side1 ?side2 ?side3 ?side4 A11.out).mono ?_); (case side1 => repeat (first | exact (Kd.C_below HR0.out z26) | (with_reducible refine Kd.C_alloc ?_ _) | (with_reducible refine Kd.C_drewN ?_ _) | (with_reducible refine Kd.C_drew ?_))); (case side2 => exact HC0.out); (case side3 => repeat (first | exact (Kd.C_below HR1_0.out z26) | (with_reducible refine Kd.C_alloc ?_ _) | (with_reducible refine Kd.C_drewN ?_ _) | (with_reducible refine Kd.C_drew ?_))); (case side4 => exact HC1_0.out); rintro e w17 ⟨rfl, hb⟩; refine ⟨_, rfl, ?_⟩; replace BK225 := Aside0.mk (blk_below (g := gb225) (o := .cells #[.slice (some ad227) l1_0.length c1_0, .int .i64 a1_1, .int .i64 a1_2, .int .i64 a1_3, .slice A1_4 l1_4.length c1_4] 29 (0, 0)) (by (with_reducible repeat (first | refine blk_drewN ?_ _ | refine blk_drew ?_ | refine blk_alloc ?_ _)); exact BK225.out) hb); replace HB := Aside0.mk (below_step z26 hb); (try clear hb); (try clear hb2); (try clear hk); (try clear hi)) | ((with_reducible refine gate_callee (f := 69) rfl ?_); refine goesL_ (some 42) rfl rfl Try.func69 (by kernel_rfl) rfl #[.int .i64 a3, .int .i64 0, .int .i64 (wrap64 ((wrap64 (t229 - t228)) - 1))] rfl z2 ?_; (with_reducible refine (spec_l6In.calls a3 0 (wrap64 ((wrap64 (t229 - t228)) - 1)) t230 _ A12.out).mono ?_); rintro e w' ⟨rfl, ⟨nd, rfl⟩⟩; refine ⟨_, rfl, ?_⟩))
    go_ret2
    exact ⟨by first | rfl | (simp [errW_none, errW_some] <;> rfl) | (simp only [← hji7]; first | rfl | (simp [errW_none, errW_some] <;> rfl)) | (simp [*, errW_none, errW_some] <;> rfl), by repeat (first | (with_reducible first | exact HB.out | apply below_alloc | apply pw_below_drewN | apply below_drew1 | refine below_set ?_ GE225.out) | exact HB.out)⟩
   ·rw [if_neg c9] at H
    exact absurd H (by simp)
  ·rw [if_neg c8] at H
   exact absurd H (by simp)
 ·replace c6 := Bool.eq_false_iff.mpr c6
  subst c6
  rw [if_neg (show ¬ (false = true) by decide)] at H
  simp only [Option.some.injEq, Prod.mk.injEq] at H
  obtain ⟨rfl, rfl⟩ := H
  go_enter Try.func35, Try.ntmps35
  go_wp2_with (first | ((with_reducible refine gate_dst (N := 5) rfl ?_); refine box_event ?hg (N := 5) ?hd (cs := #[.slice A1_0 l1_0.length c1_0, .int .i64 a1_1, .int .i64 a1_2, .int .i64 a1_3, .slice A1_4 l1_4.length c1_4]) (t := 29) ?hr ?_; (case hd => rfl); (case hg => rfl); (case hr => first | (go_simp; done) | (go_simp; rfl)); intro gb225 hg w18 hbox hb; have BK225 := Aside0.mk (hbox); have GW225 := Aside0.mk ((by rw [hg]; exact (below_size z1) : w.heap.size ≤ gb225)); have GE225 := Aside0.mk ((by rw [hg]; exact (below_size z1) : w.heap.size ≤ gb225)); replace HB := Aside0.mk (below_step z1 hb); clear hb hbox hg; obtain ⟨hcz19_0, hcz19_1, hcz19_2, hcz19_3, hcz19_4, hfz19_0, hfz19_1, hfz19_2, hfz19_3, hfz19_4⟩ := cbf5 BK225) | ((with_reducible refine gate_callee (f := 67) rfl ?_); refine goesL_ (some 14) rfl rfl Try.func67 (by kernel_rfl) rfl #[.slice A0 l0.length c0, .agg #[.slice A1_0 l1_0.length c1_0, .int .i64 a1_1, .int .i64 a1_2, .int .i64 a1_3, .slice A1_4 l1_4.length c1_4], .int .i64 a2] rfl z2 ?_; (with_reducible refine (spec_l21Is.calls k _ _ l0 _ _ l1_0 a1_1 a1_2 a1_3 _ _ l1_4 a2 false _ ?side1 ?side2 ?side3 ?side4 ?side5 ?side6 A5.out).mono ?_); (case side1 => repeat (first | exact (Kd.C_below HR0.out HB.out) | (with_reducible refine Kd.C_alloc ?_ _) | (with_reducible refine Kd.C_drewN ?_ _) | (with_reducible refine Kd.C_drew ?_))); (case side2 => exact HC0.out); (case side3 => repeat (first | exact (Kd.C_below HR1_0.out HB.out) | (with_reducible refine Kd.C_alloc ?_ _) | (with_reducible refine Kd.C_drewN ?_ _) | (with_reducible refine Kd.C_drew ?_))); (case side4 => exact HC1_0.out); (case side5 => repeat (first | exact (Kd.C_below HR1_4.out HB.out) | (with_reducible refine Kd.C_alloc ?_ _) | (with_reducible refine Kd.C_drewN ?_ _) | (with_reducible refine Kd.C_drew ?_))); (case side6 => exact HC1_4.out); rintro e w20 ⟨rfl, hb⟩; refine ⟨_, rfl, ?_⟩; replace BK225 := Aside0.mk (blk_below (g := gb225) (o := .cells #[.slice A1_0 l1_0.length c1_0, .int .i64 a1_1, .int .i64 a1_2, .int .i64 a1_3, .slice A1_4 l1_4.length c1_4] 29 (0, 0)) (by (with_reducible repeat (first | refine blk_drewN ?_ _ | refine blk_drew ?_ | refine blk_alloc ?_ _)); exact BK225.out) hb); replace HB := Aside0.mk (below_step z26 hb); (try clear hb); (try clear hb2); (try clear hk); (try clear hi)))
  go_ret2
  exact ⟨by first | rfl | (simp [errW_none, errW_some] <;> rfl) | (simp [*, errW_none, errW_some] <;> rfl), by repeat (first | (with_reducible first | exact HB.out | apply below_alloc | apply pw_below_drewN | apply below_drew1 | refine below_set ?_ GE225.out) | exact HB.out)⟩
end Go.Proofs.Ytmniglgahodghaa.K
namespace Go.Proofs.Ytmniglgahodghaa.K
open Go.RowKit Go.Proofs.YtmniglgahodghaaW.PrintWords Go.Proofs.YtmniglgahodghaaW.PrintLast Go.Proofs.YtmniglgahodghaaW.PrintMore
attribute [local go_sem] max2_int min2_int max_two min_two max_three min_three max_four min_four
set_option linter.unusedVariables false
set_option linter.unusedSimpArgs false
def spec_l21Put.f (l0_0 : List Int) (a0_1 : Int) (a0_2 : Int) (a0_3 : Int) (l0_4 : List Bool) (a1 : Int) (a2 : Int) (a3 : Bool) : Option (List Int × Int × Int × Int × List Bool) := if 0 ≤ a1 then (if a1 < (l0_0.length : Int) then ((some (l0_0.set (a1 : Int).toNat a2 : List Int)).bind fun y233 => (if a3 = true then (if a1 ≥ a0_1 then ((spec_l6In.f a2 1 a0_1).bind fun t234 => (if t234 = true then (if 0 ≤ (wrap64 (Int.tdiv (wrap64 (a1 - a0_1)) 4)) then (if (wrap64 (Int.tdiv (wrap64 (a1 - a0_1)) 4)) < (l0_4.length : Int) then (some (y233, a0_1, a0_2, a0_3, (l0_4.set ((wrap64 (Int.tdiv (wrap64 (a1 - a0_1)) 4)) : Int).toNat true))) else (none)) else (none)) else (some (y233, a0_1, a0_2, a0_3, l0_4)))) else (some (y233, a0_1, a0_2, a0_3, l0_4))) else (some (y233, a0_1, a0_2, a0_3, l0_4)))) else (none)) else (none)
set_option maxHeartbeats 8000000 in
set_option maxRecDepth 100000 in
theorem spec_l21Put.calls (P0_0_ : Nat → Prop) (u9000_ : Value) (l0_0 : List Int) (a0_1 : Int) (a0_2 : Int) (a0_3 : Int) (P0_4_ : Nat → Prop) (u9001_ : Value) (l0_4 : List Bool) (a1 : Int) (a2 : Int) (a3 : Bool) (r1 : List Int) (r2 : Int) (r3 : Int) (r4 : Int) (r5 : List Bool) (w0 w : World) (hB : Below w0.heap.size w0 w) (ho0_0 : Kd.R (Kd.int .i64) 3 w w0.heap.size P0_0_ u9000_ l0_0) (ho0_4 : Kd.R Kd.bool 4 w w0.heap.size P0_4_ u9001_ l0_4) (h : spec_l21Put.f l0_0 a0_1 a0_2 a0_3 l0_4 a1 a2 a3 = some (r1, r2, r3, r4, r5)) :
  Calls Try.prog 41 #[.agg #[u9000_, .int .i64 a0_1, .int .i64 a0_2, .int .i64 a0_3, u9001_], .int .i64 a1, .int .i64 a2, .bool a3] w fun e w' => ∃ v0_ v4_ : Value, e = .returned (.agg #[v0_, .int .i64 r2, .int .i64 r3, .int .i64 r4, v4_]) ∧ Kd.R (Kd.int .i64) 3 w' w0.heap.size (fun k_ => ((P0_0_ k_ ∨ P0_4_ k_) ∨ w.heap.size ≤ k_)) v0_ r1 ∧ Kd.R Kd.bool 4 w' w0.heap.size (fun k_ => ((P0_0_ k_ ∨ P0_4_ k_) ∨ w.heap.size ≤ k_)) v4_ r5 ∧ Below w0.heap.size w0 w' ∧ Kept w w' (fun k_ => P0_0_ k_ ∨ P0_4_ k_) := by
 unfold spec_l21Put.f at h
 split at h
 case isFalse => simp at h
 case isTrue h0 =>
 split at h
 case isFalse => simp at h
 case isTrue h1 =>
 rw [Option.bind_some] at h
 obtain ⟨gw, cw, hv, hbg, hlg, _⟩ := Kd.R_form ho0_0 (by omega)
 subst hv
 obtain ⟨AC, cc, hv⟩ := Kd.R_slice ho0_4
 subst hv
 have hPg : P0_0_ gw := ho0_0.1 gw (by simp [Value.ownBlock])
 have al := below_alloc (below_alloc (Below.refl w.heap.size w) (.cells #[.slice (some ⟨gw, 0, none⟩) l0_0.length cw, .int .i64 a0_1, .int .i64 a0_2, .int .i64 a0_3, .slice AC l0_4.length cc] 29 (0, 0))) (.cells #[.slice none 0 0, .int .i64 0, .int .i64 0, .int .i64 0, .slice none 0 0] 29 (0, 0))
 have BX := Aside0.mk (blk_alloc (blk_new w (.cells #[.slice (some ⟨gw, 0, none⟩) l0_0.length cw, .int .i64 a0_1, .int .i64 a0_2, .int .i64 a0_3, .slice AC l0_4.length cc] 29 (0, 0))) (.cells #[.slice none 0 0, .int .i64 0, .int .i64 0, .int .i64 0, .slice none 0 0] 29 (0, 0)))
 have BZ := Aside0.mk (alloc_two w (.cells #[.slice (some ⟨gw, 0, none⟩) l0_0.length cw, .int .i64 a0_1, .int .i64 a0_2, .int .i64 a0_3, .slice AC l0_4.length cc] 29 (0, 0)) (.cells #[.slice none 0 0, .int .i64 0, .int .i64 0, .int .i64 0, .slice none 0 0] 29 (0, 0)))
 have R0 := Aside0.mk (Kd.R_below ho0_0 al)
 have R4 := Aside0.mk (Kd.R_below ho0_4 al)
 have HK := Aside0.mk (Kept.of_below al (fun k_ => P0_0_ k_ ∨ P0_4_ k_))
 have HB := Aside0.mk (below_then hB hB.size al)
 have HH := Aside0.mk h
 have HL := Aside0.mk (show w0.heap.size ≤ gw ∧ gw < w.heap.size ∧ P0_0_ gw ∧ w0.heap.size ≤ w.heap.size from ⟨hbg, hlg, hPg, hB.size⟩)
 have H01 := Aside0.mk (show 0 ≤ a1 ∧ a1 < (l0_0.length : Int) from ⟨h0, h1⟩)
 clear h al hB
 go_enter Try.func41, Try.ntmps41
 go_upto_region 1 with fail
 (try simp only [Act.put, List.setIfInBounds_toArray, List.set_cons_zero, List.set_cons_succ])
 generalize ((w.alloc (.cells #[.slice (some ⟨gw, 0, none⟩) l0_0.length cw, .int .i64 a0_1, .int .i64 a0_2, .int .i64 a0_3, .slice AC l0_4.length cc] 29 (0, 0))).alloc (.cells #[.slice none 0 0, .int .i64 0, .int .i64 0, .int .i64 0, .slice none 0 0] 29 (0, 0))) = W1 at BX BZ R0 R4 HK HB ⊢
 have x0 := (blk_cell BX.out 0).trans rfl; have x1 := (blk_cell BX.out 1).trans rfl; have x2 := (blk_cell BX.out 2).trans rfl; have x3 := (blk_cell BX.out 3).trans rfl; have x4 := (blk_cell BX.out 4).trans rfl
 have p1 := eq_true h0
 have p2 := eq_true h1
 obtain ⟨xq, fq⟩ := Kd.R_cell (enc := Value.int .i64) (h1 := fun _ => rfl) 0 R0.out a1 h0 h1
 obtain ⟨R0n, hgr⟩ := Kd.R_putg (enc := Value.int .i64) (h1 := fun _ => rfl) R0.out a1 a2
 have R4n := Kd.R_over R4.out R0.out (by decide) (by simpa [Value.ownBlock] using hgr)
 have BXn := blk_far BX.out (show w.heap.size ≠ gw by omega) (p := ⟨gw, a1.toNat, none⟩) (.int .i64 a2)
 have BZn := blk_far BZ.out (show w.heap.size + 1 ≠ gw by omega) (p := ⟨gw, a1.toNat, none⟩) (.int .i64 a2)
 have HKn := HK.out.setCell (p := ⟨gw, a1.toNat, none⟩) (.inl (.inl hPg)) (.int .i64 a2)
 have HBn := HB.out.setCell (p := ⟨gw, a1.toNat, none⟩) hbg (.int .i64 a2)
 have PX := Aside0.mk BXn
 have PZ := Aside0.mk BZn
 have Q0 := Aside0.mk R0n
 have Q4 := Aside0.mk R4n
 have QK := Aside0.mk HKn
 have QB := Aside0.mk HBn
 clear R0n hgr R4n BXn BZn HKn HBn h0 h1 hbg hlg hPg ho0_0 ho0_4 BX BZ R0 R4 HK HB
 go_upto_region 2 with fail
 (try simp only [Act.put, List.setIfInBounds_toArray, List.set_cons_zero, List.set_cons_succ])
 clear x0 x1 x2 x3 x4 xq fq p1 p2
 generalize W1.setCell ⟨gw, a1.toNat, none⟩ (.int .i64 a2) = W2 at PX PZ Q0 Q4 QK QB ⊢
 have hh := HH.out
 clear HH
 by_cases c1 : a3 = true
 ·subst c1
  rw [if_pos rfl] at hh
  by_cases c2 : a1 ≥ a0_1
  ·rw [if_pos c2] at hh
   have d2 : decide (a1 ≥ a0_1) = true := decide_eq_true c2
   have d2' : decide (a0_1 ≤ a1) = true := d2
   obtain ⟨t, ht, hh⟩ := Option.bind_eq_some_iff.mp hh
   have HT := Aside0.mk ht
   clear ht
   cases t with
   | false =>
    rw [if_neg (by simp)] at hh
    simp only [Option.some.injEq, Prod.mk.injEq] at hh
    obtain ⟨rfl, rfl, rfl, rfl, rfl⟩ := hh
    have x0 := (blk_cell PX.out 0).trans rfl; have x1 := (blk_cell PX.out 1).trans rfl; have x2 := (blk_cell PX.out 2).trans rfl; have x3 := (blk_cell PX.out 3).trans rfl; have x4 := (blk_cell PX.out 4).trans rfl
    go_wp2_with fail
    (go_at_call 69; refine (spec_l6In.calls a2 1 a0_1 false _ HT.out).mono ?_; rintro e w3 ⟨rfl, hd_⟩; have hb := hd_.below; replace PX := Aside0.mk (blk_below PX.out hb); replace PZ := Aside0.mk (blk_below PZ.out hb); replace Q0 := Aside0.mk (Kd.R_below Q0.out hb); replace Q4 := Aside0.mk (Kd.R_below Q4.out hb); replace QK := Aside0.mk (QK.out.below hb); replace QB := Aside0.mk (below_then QB.out QB.out.size hb); clear hb hd_ x0 x1 x2 x3 x4)
    have x0 := (blk_cell PX.out 0).trans rfl; have x1 := (blk_cell PX.out 1).trans rfl; have x2 := (blk_cell PX.out 2).trans rfl; have x3 := (blk_cell PX.out 3).trans rfl; have x4 := (blk_cell PX.out 4).trans rfl
    have z0 := (blk_cell PZ.out 0).trans rfl; have z1 := (blk_cell PZ.out 1).trans rfl; have z2 := (blk_cell PZ.out 2).trans rfl; have z3 := (blk_cell PZ.out 3).trans rfl; have z4 := (blk_cell PZ.out 4).trans rfl
    have y0 := blk_frozen PZ.out 0; have y1 := blk_frozen PZ.out 1; have y2 := blk_frozen PZ.out 2; have y3 := blk_frozen PZ.out 3; have y4 := blk_frozen PZ.out 4
    go_wp2
    refine bodyPost_ret (results_cell_row rfl _ _ (w.heap.size + 1) 29 #[.slice (some ⟨gw, 0, none⟩) l0_0.length cw, .int .i64 a0_1, .int .i64 a0_2, .int .i64 a0_3, .slice AC l0_4.length cc] (0, 0) _ rfl (blk_box5 PZ.out) Try.underlying29 rfl (by kernel_rfl)) rfl ?_
    exact ⟨_, _, rfl, Kd.R_mono (R_box5t Q0.out PZ.out (by decide)) (fun k_ hk_ => .inl (.inl hk_)), Kd.R_mono (R_box5t Q4.out PZ.out (by decide)) (fun k_ hk_ => .inl (.inr hk_)), below_box5b QB.out (by have := HL.out; omega), kept_box5 QK.out (by omega)⟩
   | true =>
    rw [if_pos rfl] at hh
    split at hh
    case isFalse => simp at hh
    case isTrue h3 =>
    split at hh
    case isFalse => simp at hh
    case isTrue h4 =>
    obtain ⟨c, hc⟩ : ∃ c, c = wrap64 (Int.tdiv (wrap64 (a1 - a0_1)) 4) := ⟨_, rfl⟩
    rw [← hc] at hh h3 h4
    simp only [Option.some.injEq, Prod.mk.injEq] at hh
    obtain ⟨rfl, rfl, rfl, rfl, rfl⟩ := hh
    have q1 : IntKind.i64.wrap (Int.tdiv (wrap64 (a1 - a0_1)) 4) = c := (i64_w _).trans hc.symm
    have p3 := eq_true h3
    have p4 := eq_true h4
    obtain ⟨gc, c4, hv, hbg, hlg, _⟩ := Kd.R_form Q4.out (by omega)
    injection hv with e1 e2 e3
    subst e1 e3
    have hPc : P0_4_ gc := Q4.out.1 gc (by simp [Value.ownBlock])
    have x0 := (blk_cell PX.out 0).trans rfl; have x1 := (blk_cell PX.out 1).trans rfl; have x2 := (blk_cell PX.out 2).trans rfl; have x3 := (blk_cell PX.out 3).trans rfl; have x4 := (blk_cell PX.out 4).trans rfl
    go_wp2_with fail
    (go_at_call 69; refine (spec_l6In.calls a2 1 a0_1 true _ HT.out).mono ?_; rintro e w3 ⟨rfl, hd_⟩; have hb := hd_.below; replace PX := Aside0.mk (blk_below PX.out hb); replace PZ := Aside0.mk (blk_below PZ.out hb); replace Q0 := Aside0.mk (Kd.R_below Q0.out hb); replace Q4 := Aside0.mk (Kd.R_below Q4.out hb); replace QK := Aside0.mk (QK.out.below hb); replace QB := Aside0.mk (below_then QB.out QB.out.size hb); clear hb hd_ x0 x1 x2 x3 x4)
    obtain ⟨g_, cap_, hv_, _, hlc, _⟩ := Kd.R_form Q4.out (by omega)
    have x0 := (blk_cell PX.out 0).trans rfl; have x1 := (blk_cell PX.out 1).trans rfl; have x2 := (blk_cell PX.out 2).trans rfl; have x3 := (blk_cell PX.out 3).trans rfl; have x4 := (blk_cell PX.out 4).trans rfl
    obtain ⟨xq, fq⟩ := Kd.R_cell (enc := Value.bool) (h1 := fun _ => rfl) false Q4.out c h3 h4
    obtain ⟨R4n, hgr⟩ := Kd.R_putg (enc := Value.bool) (h1 := fun _ => rfl) Q4.out c true
    have R0n := Kd.R_over Q0.out Q4.out (by decide) (by simpa [Value.ownBlock] using hgr)
    have hg1 := types_ne PX.out Q4.out (by decide)
    have hg2 := types_ne PZ.out Q4.out (by decide)
    have UX := Aside0.mk (blk_far PX.out hg1 (p := ⟨gc, c.toNat, none⟩) (.bool true))
    have UZ := Aside0.mk (blk_far PZ.out hg2 (p := ⟨gc, c.toNat, none⟩) (.bool true))
    have UK := Aside0.mk (QK.out.setCell (p := ⟨gc, c.toNat, none⟩) (.inl (.inr hPc)) (.bool true))
    have UB := Aside0.mk (QB.out.setCell (p := ⟨gc, c.toNat, none⟩) hbg (.bool true))
    have U0 := Aside0.mk R0n
    have U4 := Aside0.mk R4n
    clear R0n R4n hgr hg1 hg2 hbg hlg hlc hPc e2 hc h3 h4 hv_ PX PZ Q0 Q4 QK QB
    go_upto_region 4 with fail
    (try simp only [Act.put, List.setIfInBounds_toArray, List.set_cons_zero, List.set_cons_succ])
    clear x0 x1 x2 x3 x4 xq fq p3 p4
    generalize w3.setCell ⟨gc, c.toNat, none⟩ (.bool true) = W4 at UX UZ U0 U4 UK UB ⊢
    have x0 := (blk_cell UX.out 0).trans rfl; have x1 := (blk_cell UX.out 1).trans rfl; have x2 := (blk_cell UX.out 2).trans rfl; have x3 := (blk_cell UX.out 3).trans rfl; have x4 := (blk_cell UX.out 4).trans rfl
    have z0 := (blk_cell UZ.out 0).trans rfl; have z1 := (blk_cell UZ.out 1).trans rfl; have z2 := (blk_cell UZ.out 2).trans rfl; have z3 := (blk_cell UZ.out 3).trans rfl; have z4 := (blk_cell UZ.out 4).trans rfl
    have y0 := blk_frozen UZ.out 0; have y1 := blk_frozen UZ.out 1; have y2 := blk_frozen UZ.out 2; have y3 := blk_frozen UZ.out 3; have y4 := blk_frozen UZ.out 4
    go_wp2
    refine bodyPost_ret (results_cell_row rfl _ _ (w.heap.size + 1) 29 #[.slice (some ⟨gw, 0, none⟩) l0_0.length cw, .int .i64 a0_1, .int .i64 a0_2, .int .i64 a0_3, .slice (some ⟨gc, 0, none⟩) l0_4.length cc] (0, 0) _ rfl (blk_box5 UZ.out) Try.underlying29 rfl (by kernel_rfl)) rfl ?_
    exact ⟨_, _, rfl, Kd.R_mono (R_box5t U0.out UZ.out (by decide)) (fun k_ hk_ => .inl (.inl hk_)), Kd.R_mono (R_box5t U4.out UZ.out (by decide)) (fun k_ hk_ => .inl (.inr hk_)), below_box5b UB.out (by have := HL.out; omega), kept_box5 UK.out (by omega)⟩
  ·rw [if_neg c2] at hh
   have d2 : decide (a1 ≥ a0_1) = false := decide_eq_false c2
   have d2' : decide (a0_1 ≤ a1) = false := d2
   simp only [Option.some.injEq, Prod.mk.injEq] at hh
   obtain ⟨rfl, rfl, rfl, rfl, rfl⟩ := hh
   have x0 := (blk_cell PX.out 0).trans rfl; have x1 := (blk_cell PX.out 1).trans rfl; have x2 := (blk_cell PX.out 2).trans rfl; have x3 := (blk_cell PX.out 3).trans rfl; have x4 := (blk_cell PX.out 4).trans rfl
   have z0 := (blk_cell PZ.out 0).trans rfl; have z1 := (blk_cell PZ.out 1).trans rfl; have z2 := (blk_cell PZ.out 2).trans rfl; have z3 := (blk_cell PZ.out 3).trans rfl; have z4 := (blk_cell PZ.out 4).trans rfl
   have y0 := blk_frozen PZ.out 0; have y1 := blk_frozen PZ.out 1; have y2 := blk_frozen PZ.out 2; have y3 := blk_frozen PZ.out 3; have y4 := blk_frozen PZ.out 4
   go_wp2
   refine bodyPost_ret (results_cell_row rfl _ _ (w.heap.size + 1) 29 #[.slice (some ⟨gw, 0, none⟩) l0_0.length cw, .int .i64 a0_1, .int .i64 a0_2, .int .i64 a0_3, .slice AC l0_4.length cc] (0, 0) _ rfl (blk_box5 PZ.out) Try.underlying29 rfl (by kernel_rfl)) rfl ?_
   exact ⟨_, _, rfl, Kd.R_mono (R_box5t Q0.out PZ.out (by decide)) (fun k_ hk_ => .inl (.inl hk_)), Kd.R_mono (R_box5t Q4.out PZ.out (by decide)) (fun k_ hk_ => .inl (.inr hk_)), below_box5b QB.out (by have := HL.out; omega), kept_box5 QK.out (by omega)⟩
 ·have c1' : a3 = false := by simpa using c1
  subst c1'
  rw [if_neg (by simp)] at hh
  simp only [Option.some.injEq, Prod.mk.injEq] at hh
  obtain ⟨rfl, rfl, rfl, rfl, rfl⟩ := hh
  have x0 := (blk_cell PX.out 0).trans rfl; have x1 := (blk_cell PX.out 1).trans rfl; have x2 := (blk_cell PX.out 2).trans rfl; have x3 := (blk_cell PX.out 3).trans rfl; have x4 := (blk_cell PX.out 4).trans rfl
  have z0 := (blk_cell PZ.out 0).trans rfl; have z1 := (blk_cell PZ.out 1).trans rfl; have z2 := (blk_cell PZ.out 2).trans rfl; have z3 := (blk_cell PZ.out 3).trans rfl; have z4 := (blk_cell PZ.out 4).trans rfl
  have y0 := blk_frozen PZ.out 0; have y1 := blk_frozen PZ.out 1; have y2 := blk_frozen PZ.out 2; have y3 := blk_frozen PZ.out 3; have y4 := blk_frozen PZ.out 4
  go_wp2
  refine bodyPost_ret (results_cell_row rfl _ _ (w.heap.size + 1) 29 #[.slice (some ⟨gw, 0, none⟩) l0_0.length cw, .int .i64 a0_1, .int .i64 a0_2, .int .i64 a0_3, .slice AC l0_4.length cc] (0, 0) _ rfl (blk_box5 PZ.out) Try.underlying29 rfl (by kernel_rfl)) rfl ?_
  exact ⟨_, _, rfl, Kd.R_mono (R_box5t Q0.out PZ.out (by decide)) (fun k_ hk_ => .inl (.inl hk_)), Kd.R_mono (R_box5t Q4.out PZ.out (by decide)) (fun k_ hk_ => .inl (.inr hk_)), below_box5b QB.out (by have := HL.out; omega), kept_box5 QK.out (by omega)⟩
end Go.Proofs.Ytmniglgahodghaa.K
