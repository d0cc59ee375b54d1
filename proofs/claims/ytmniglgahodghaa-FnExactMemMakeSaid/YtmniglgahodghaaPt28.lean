import Derived.Test.YtmniglgahodghaaPt24
import Derived.Test.YtmniglgahodghaaPt27
import Derived.Test.YtmniglgahodghaaPt25
import Derived.Test.YtmniglgahodghaaPt26
namespace Go.Proofs.Ytmniglgahodghaa.K
open Go.RowKit Go.Proofs.YtmniglgahodghaaW.PrintWords Go.Proofs.YtmniglgahodghaaW.PrintLast Go.Proofs.YtmniglgahodghaaW.PrintMore
attribute [local go_sem] max2_int min2_int max_two min_two max_three min_three max_four min_four
set_option linter.unusedVariables false
set_option linter.unusedSimpArgs false
mutual
def spec_l21Thing.l0 : Nat → List Bool → Int → List Bool → Int → List Int → Int → Int → Int → List Bool → Option (Bool)
 | 0, _, _, _, _, _, _, _, _, _ => none
 | k + 1, x2, x3, x9, x10, x250000, x250001, x250002, x250003, x250004 => if x10 < (x9.length : Int) then (if 0 ≤ (wrap64 (x3 + x10)) then (if (wrap64 (x3 + x10)) < (x250000.length : Int) then (if 0 ≤ x10 then (if rdOf false x9 x10 = true then ((spec_l21Lead.f x2 (rd x250000 (wrap64 (x3 + x10)))).bind fun t257 => (if t257 = true then (spec_l21Thing.j1 k x2 x3 x9 x10 (rd x250000 (wrap64 (x3 + x10))) false x250000 x250001 x250002 x250003 x250004) else (spec_l21Thing.j1 k x2 x3 x9 x10 (rd x250000 (wrap64 (x3 + x10))) true x250000 x250001 x250002 x250003 x250004))) else ((spec_l1Word.f (rd x250000 (wrap64 (x3 + x10)))).bind fun t260 => (spec_l21Thing.j1 k x2 x3 x9 x10 (rd x250000 (wrap64 (x3 + x10))) (!t260) x250000 x250001 x250002 x250003 x250004))) else (none)) else (none)) else (none)) else (some true)
def spec_l21Thing.j1 : Nat → List Bool → Int → List Bool → Int → Int → Bool → List Int → Int → Int → Int → List Bool → Option (Bool)
 | 0, _, _, _, _, _, _, _, _, _, _, _ => none
 | k + 1, x2, x3, x9, x10, x11, x57, x250000, x250001, x250002, x250003, x250004 => if x57 = true then (some false) else (if 0 ≤ x10 then (if x10 < (x9.length : Int) then (if rdOf false x9 x10 = true then (if x3 ≥ x250001 then ((spec_l6In.f x11 1 x250001).bind fun t262 => (if t262 = true then (if 0 ≤ (wrap64 (Int.tdiv (wrap64 ((wrap64 (x3 + x10)) - x250001)) 4)) then (if (wrap64 (Int.tdiv (wrap64 ((wrap64 (x3 + x10)) - x250001)) 4)) < (x250004.length : Int) then (if (rdOf false x250004 (wrap64 (Int.tdiv (wrap64 ((wrap64 (x3 + x10)) - x250001)) 4)) = true) then (spec_l21Thing.l0 k x2 x3 x9 (wrap64 (x10 + 1)) x250000 x250001 x250002 x250003 x250004) else (some false)) else (none)) else (none)) else (spec_l21Thing.l0 k x2 x3 x9 (wrap64 (x10 + 1)) x250000 x250001 x250002 x250003 x250004))) else (spec_l21Thing.l0 k x2 x3 x9 (wrap64 (x10 + 1)) x250000 x250001 x250002 x250003 x250004)) else (spec_l21Thing.l0 k x2 x3 x9 (wrap64 (x10 + 1)) x250000 x250001 x250002 x250003 x250004)) else (none)) else (none))
end
def spec_l21Thing.f (k : Nat) (l0 : List (S69)) (l1_0 : List Int) (a1_1 : Int) (a1_2 : Int) (a1_3 : Int) (l1_4 : List Bool) (l2 : List Bool) (a3 : Int) : Option (Bool) := (spec_l21Refs.f k l0 l1_0 a3).bind fun t250 => (if 0 ≤ a3 then (if a3 < (l1_0.length : Int) then ((spec_l21Head.f (rd l1_0 a3)).bind fun t254 => (spec_l21Thing.l0 k l2 a3 t250 t254 l1_0 a1_1 a1_2 a1_3 l1_4)) else (none)) else (none))
set_option maxHeartbeats 8000000 in
set_option maxRecDepth 100000 in
theorem spec_l21Thing.calls (k : Nat) (A0 : Option Addr) (c0 : Nat) (l0 : List (S69)) (A1_0 : Option Addr) (c1_0 : Nat) (l1_0 : List Int) (a1_1 : Int) (a1_2 : Int) (a1_3 : Int) (A1_4 : Option Addr) (c1_4 : Nat) (l1_4 : List Bool) (A2 : Option Addr) (c2 : Nat) (l2 : List Bool) (a3 : Int) (r : Bool) (w : World) (hr0 : Kd.C k69 w A0 l0.length l0) (hc0 : l0.length ≤ c0) (hr1_0 : Kd.C (Kd.int .i64) w A1_0 l1_0.length l1_0) (hc1_0 : l1_0.length ≤ c1_0) (hr1_4 : Kd.C Kd.bool w A1_4 l1_4.length l1_4) (hc1_4 : l1_4.length ≤ c1_4) (hr2 : Kd.C Kd.bool w A2 l2.length l2) (hc2 : l2.length ≤ c2) (h : spec_l21Thing.f k l0 l1_0 a1_1 a1_2 a1_3 l1_4 l2 a3 = some r) :
  Calls Try.prog 66 #[.slice A0 l0.length c0, .agg #[.slice A1_0 l1_0.length c1_0, .int .i64 a1_1, .int .i64 a1_2, .int .i64 a1_3, .slice A1_4 l1_4.length c1_4], .slice A2 l2.length c2, .int .i64 a3] w fun e w' => e = .returned (.bool r) ∧ Below w.heap.size w w' := by
 have hu29 := Try.underlying29
 have HR0 := Aside0.mk hr0
 have HC0 := Aside0.mk hc0
 clear hr0 hc0
 have HR1_0 := Aside0.mk hr1_0
 have HC1_0 := Aside0.mk hc1_0
 clear hr1_0 hc1_0
 have HR1_4 := Aside0.mk hr1_4
 have HC1_4 := Aside0.mk hc1_4
 clear hr1_4 hc1_4
 have HR2 := Aside0.mk hr2
 have HC2 := Aside0.mk hc2
 clear hr2 hc2
 have HB := Aside0.mk (Below.refl w.heap.size w)
 have H : ((spec_l21Refs.f k l0 l1_0 a3).bind fun t250 => (if 0 ≤ a3 then (if a3 < (l1_0.length : Int) then ((spec_l21Head.f (rd l1_0 a3)).bind fun t254 => (spec_l21Thing.l0 k l2 a3 t250 t254 l1_0 a1_1 a1_2 a1_3 l1_4)) else (none)) else (none))) = some r := h
 clear h
 replace H := Option.bind_eq_some_iff.mp H
 obtain ⟨t250, A50, H⟩ := H
 try dsimp only at H
 have A5 := Aside0.mk A50
 clear A50
 by_cases c6 : 0 ≤ a3
 ·rw [if_pos c6] at H
  have c6b0 : decide (0 ≤ a3) = true := decide_eq_true c6
  clear c6
  by_cases c7 : a3 < (l1_0.length : Int)
  ·rw [if_pos c7] at H
   have c7b0 : decide (a3 < (l1_0.length : Int)) = true := decide_eq_true c7
   clear c7
   replace H := Option.bind_eq_some_iff.mp H
   obtain ⟨t254, A80, H⟩ := H
   try dsimp only at H
   have A8 := Aside0.mk A80
   clear A80
   have H' := Aside0.mk H
   clear H
   go_enter Try.func66, Try.ntmps66
   go_wp2_with (first | ((with_reducible refine gate_dst (N := 5) rfl ?_); refine box_event ?hg (N := 5) ?hd (cs := #[.slice A1_0 l1_0.length c1_0, .int .i64 a1_1, .int .i64 a1_2, .int .i64 a1_3, .slice A1_4 l1_4.length c1_4]) (t := 29) ?hr ?_; (case hd => rfl); (case hg => rfl); (case hr => first | (go_simp; done) | (go_simp; rfl)); intro gb249 hg w9 hbox hb; have BK249 := Aside0.mk (hbox); have GW249 := Aside0.mk ((by rw [hg]; exact (below_size z1) : w.heap.size ≤ gb249)); have GE249 := Aside0.mk ((by rw [hg]; exact (below_size z1) : w.heap.size ≤ gb249)); replace HB := Aside0.mk (below_step z1 hb); clear hb hbox hg; obtain ⟨hcz10_0, hcz10_1, hcz10_2, hcz10_3, hcz10_4, hfz10_0, hfz10_1, hfz10_2, hfz10_3, hfz10_4⟩ := cbf5 BK249) | ((with_reducible refine gate_callee (f := 36) rfl ?_); refine goesL_ (some 16) rfl rfl Try.func36 (by kernel_rfl) rfl #[.slice A0 l0.length c0, .slice A1_0 l1_0.length c1_0, .int .i64 a3] rfl z2 ?_; (with_reducible refine (spec_l21Refs.calls k _ _ l0 _ _ l1_0 a3 t250 _ ?side1 ?side2 ?side3 ?side4 A5.out).mono ?_); (case side1 => repeat (first | exact (Kd.C_below HR0.out HB.out) | (with_reducible refine Kd.C_alloc ?_ _) | (with_reducible refine Kd.C_drewN ?_ _) | (with_reducible refine Kd.C_drew ?_))); (case side2 => exact HC0.out); (case side3 => repeat (first | exact (Kd.C_below HR1_0.out HB.out) | (with_reducible refine Kd.C_alloc ?_ _) | (with_reducible refine Kd.C_drewN ?_ _) | (with_reducible refine Kd.C_drew ?_))); (case side4 => exact HC1_0.out); rintro e w11 ⟨v251, rfl, ho0, hb⟩; refine ⟨_, rfl, ?_⟩; have HO252 := Aside0.mk (Kd.R_lower ho0 (below_size (by repeat (first | (with_reducible first | exact HB.out | apply below_alloc | apply pw_below_drewN | apply below_drew1 | refine below_set ?_ GE249.out) | exact HB.out)))); replace BK249 := Aside0.mk (blk_below (g := gb249) (o := .cells #[.slice A1_0 l1_0.length c1_0, .int .i64 a1_1, .int .i64 a1_2, .int .i64 a1_3, .slice A1_4 l1_4.length c1_4] 29 (0, 0)) (by (with_reducible repeat (first | refine blk_drewN ?_ _ | refine blk_drew ?_ | refine blk_alloc ?_ _)); exact BK249.out) hb); replace HB := Aside0.mk (below_step (by repeat (first | (with_reducible first | exact HB.out | apply below_alloc | apply pw_below_drewN | apply below_drew1 | refine below_set ?_ GE249.out) | exact HB.out)) hb); (try clear hb); (try clear hb2); (try clear hk); (try clear hi); (try clear ho0); obtain ⟨hcz12_0, hcz12_1, hcz12_2, hcz12_3, hcz12_4, hfz12_0, hfz12_1, hfz12_2, hfz12_3, hfz12_4⟩ := cbf5 BK249; have p253 : 0 ≤ (a3 : Int) := of_decide_eq_true z3; have q253 : a3 < (l1_0.length : Int) := of_decide_eq_true z3; obtain ⟨ad253, e253, hx253_0⟩ := Kd.at_int HR1_0.out a3 p253 q253; cases e253; replace hx253_0 := (HB.out.cell (World.block_lt_of_cell? w _ hx253_0)).trans hx253_0; replace p253 := eq_true p253; replace q253 := eq_true q253) | ((with_reducible refine gate_callee (f := 68) rfl ?_); refine goesL_ (some 22) rfl rfl Try.func68 (by kernel_rfl) rfl #[.int .i64 (rd l1_0 a3)] rfl z2 ?_; (with_reducible refine (spec_l21Head.calls (rd l1_0 a3) t254 _ A8.out).mono ?_); rintro e w' ⟨rfl, ⟨nd, rfl⟩⟩; refine ⟨_, rfl, ?_⟩))
   go_loopg [10] k (fun kq v10 w' => ∃ (x10_1 : Int), v10 = .int .i64 x10_1 ∧ Aside0 (spec_l21Thing.l0 kq l2 a3 t250 x10_1 l1_0 a1_1 a1_2 a1_3 l1_4 = some r) ∧ Aside0 (kq ≤ k) ∧ Aside0 (Kd.R Kd.bool 4 w' w.heap.size (fun _ => True) v251 t250) ∧ Aside0 (w'.heap[gb249]? = some (.cells #[(.slice (some ad253) l1_0.length c1_0), .int .i64 a1_1, .int .i64 a1_2, .int .i64 a1_3, (.slice A1_4 l1_4.length c1_4)] 29 (0, 0))) ∧ Aside0 (Below w.heap.size w w'))
   case atStart => exact ⟨(t254), z6, H', ⟨Nat.le_refl _⟩, ⟨by (with_reducible repeat (first | apply Kd.R_alloc | apply Kd.R_drewN | apply Kd.R_drew)); exact HO252.out⟩, ⟨by (with_reducible repeat (first | refine blk_drewN ?_ _ | refine blk_drew ?_ | refine blk_alloc ?_ _)); exact BK249.out⟩, ⟨by repeat (first | (with_reducible first | exact HB.out | apply below_alloc | apply pw_below_drewN | apply below_drew1 | refine below_set ?_ GE249.out) | exact HB.out)⟩⟩
   case round =>
    clear H'
    try clear c1
    try clear c2
    try clear p2
    try clear q2
    try clear hx2
    try clear c3
    try clear c6
    try clear c6b0
    try clear c7
    try clear c7b0
    try clear hcz10_0
    try clear hcz10_1
    try clear hcz10_2
    try clear hcz10_3
    try clear hcz10_4
    try clear hcz12_0
    try clear hcz12_1
    try clear hcz12_2
    try clear hcz12_3
    try clear hcz12_4
    try clear hfz10_0
    try clear hfz10_1
    try clear hfz10_2
    try clear hfz10_3
    try clear hfz10_4
    try clear hfz12_0
    try clear hfz12_1
    try clear hfz12_2
    try clear hfz12_3
    try clear hfz12_4
    try clear hx253_0
    try clear p253
    try clear q253
    obtain ⟨x10_1, rfl, HA, HK1, HO_9, BK249, HB⟩ := hrel
    cases gk with
    | zero => exact absurd HA.out (by simp [spec_l21Thing.l0])
    | succ k1 =>
     have H := HA.out
     clear HA
     simp only [spec_l21Thing.l0] at H
     by_cases c13 : x10_1 < (t250.length : Int)
     ·rw [if_pos c13] at H
      have c13b0 : decide (x10_1 < (t250.length : Int)) = true := decide_eq_true c13
      clear c13
      obtain ⟨ji14, hji14⟩ : ∃ j_ : Int, (wrap64 (a3 + x10_1)) = j_ := ⟨_, rfl⟩
      replace H : (if 0 ≤ (ji14) then (if (ji14) < (l1_0.length : Int) then (if 0 ≤ x10_1 then (if rdOf false t250 x10_1 = true then ((spec_l21Lead.f l2 (rd l1_0 (ji14))).bind fun t257 => (if t257 = true then (spec_l21Thing.j1 k1 l2 a3 t250 x10_1 (rd l1_0 (ji14)) false l1_0 a1_1 a1_2 a1_3 l1_4) else (spec_l21Thing.j1 k1 l2 a3 t250 x10_1 (rd l1_0 (ji14)) true l1_0 a1_1 a1_2 a1_3 l1_4))) else ((spec_l1Word.f (rd l1_0 (ji14))).bind fun t260 => (spec_l21Thing.j1 k1 l2 a3 t250 x10_1 (rd l1_0 (ji14)) (!t260) l1_0 a1_1 a1_2 a1_3 l1_4))) else (none)) else (none)) else (none)) = some r := by first | (rw [hji14] at H; exact H) | (simp only [hji14] at H ⊢; exact H)
      have hji14w : (IntKind.i64.wrap (a3 + x10_1)) = ji14 := (i64_w _).trans hji14
      by_cases c15 : 0 ≤ (ji14)
      ·rw [if_pos c15] at H
       have c15b0 : decide (0 ≤ (ji14)) = true := decide_eq_true c15
       clear c15
       by_cases c16 : (ji14) < (l1_0.length : Int)
       ·rw [if_pos c16] at H
        have c16b0 : decide ((ji14) < (l1_0.length : Int)) = true := decide_eq_true c16
        clear c16
        have HC17 := Aside0.mk H
        clear H
        obtain ⟨Ao18, co18, eo18⟩ := Kd.R_slice HO_9.out
        subst eo18
        obtain ⟨hcz19_0, hcz19_1, hcz19_2, hcz19_3, hcz19_4, hfz19_0, hfz19_1, hfz19_2, hfz19_3, hfz19_4⟩ := cbf5 BK249
        have p255 : 0 ≤ ((ji14) : Int) := of_decide_eq_true z3
        have q255 : (ji14) < (l1_0.length : Int) := of_decide_eq_true z3
        obtain ⟨ad255, e255, hx255_0⟩ := Kd.at_int HR1_0.out (ji14) p255 q255
        obtain rfl : ad253 = ad255 := (by injection e255)
        replace hx255_0 := (HB.out.cell (World.block_lt_of_cell? w _ hx255_0)).trans hx255_0
        replace p255 := eq_true p255
        replace q255 := eq_true q255
        go_upto_region 6 with (fail)
        go_cut [57] (fun v57 wc => ∃ (kq : Nat) (x57_16 : Bool), v57 = .bool x57_16 ∧ Aside0 (spec_l21Thing.j1 kq l2 a3 t250 x10_1 (rd l1_0 (ji14)) x57_16 l1_0 a1_1 a1_2 a1_3 l1_4 = some r) ∧ Aside0 (kq ≤ k1) ∧ Aside0 (Kd.R Kd.bool 4 wc w.heap.size (fun _ => True) (.slice Ao18 t250.length co18) t250) ∧ Aside0 (wc.heap[gb249]? = some (.cells #[(.slice (some ad253) l1_0.length c1_0), .int .i64 a1_1, .int .i64 a1_2, .int .i64 a1_3, (.slice A1_4 l1_4.length c1_4)] 29 (0, 0))) ∧ Aside0 (Below w.heap.size w wc))
        case first =>
         have H := HC17.out
         clear HC17
         by_cases c20 : 0 ≤ x10_1
         ·rw [if_pos c20] at H
          have c20b0 : decide (0 ≤ x10_1) = true := decide_eq_true c20
          clear c20
          (first | rw [c20b0] | (simp only [i64_w, i32_w]; rw [c20b0]) | skip)
          obtain ⟨bq21, hbq21⟩ : ∃ b_ : Bool, b_ = (rdOf false t250 x10_1) := ⟨_, rfl⟩
          replace H : (if bq21 = true then ((spec_l21Lead.f l2 (rd l1_0 (ji14))).bind fun t257 => (if t257 = true then (spec_l21Thing.j1 k1 l2 a3 t250 x10_1 (rd l1_0 (ji14)) false l1_0 a1_1 a1_2 a1_3 l1_4) else (spec_l21Thing.j1 k1 l2 a3 t250 x10_1 (rd l1_0 (ji14)) true l1_0 a1_1 a1_2 a1_3 l1_4))) else ((spec_l1Word.f (rd l1_0 (ji14))).bind fun t260 => (spec_l21Thing.j1 k1 l2 a3 t250 x10_1 (rd l1_0 (ji14)) (!t260) l1_0 a1_1 a1_2 a1_3 l1_4))) = some r := by rw [← hbq21] at H; exact H
          have Nbq21 := Aside0.mk hbq21
          clear hbq21
          by_cases c22 : bq21 = true
          ·subst c22
           rw [if_pos rfl] at H
           replace H := Option.bind_eq_some_iff.mp H
           obtain ⟨t257, A230, H⟩ := H
           try dsimp only at H
           have A23 := Aside0.mk A230
           clear A230
           by_cases c24 : t257 = true
           ·subst c24
            rw [if_pos rfl] at H
            have H' := Aside0.mk H
            clear H
            have p256 : 0 ≤ (x10_1 : Int) := of_decide_eq_true z3
            have q256 : x10_1 < (t250.length : Int) := of_decide_eq_true z3
            obtain ⟨ad256, e256, hx256_0⟩ := Kd.at_bool (Kd.R_reads' HO_9.out).2.2 x10_1 p256 q256
            (try rw [← Nbq21.out] at hx256_0)
            cases e256
            replace p256 := eq_true p256
            replace q256 := eq_true q256
            go_wp2_with (first | (go_at_call 38; (with_reducible refine (spec_l21Lead.calls _ _ l2 (rd l1_0 (ji14)) true _ ?side1 ?side2 A23.out).mono ?_); (case side1 => repeat (first | exact (Kd.C_below HR2.out HB.out) | (with_reducible refine Kd.C_alloc ?_ _) | (with_reducible refine Kd.C_drewN ?_ _) | (with_reducible refine Kd.C_drew ?_))); (case side2 => exact HC2.out); rintro e w' ⟨rfl, ⟨nd, rfl⟩⟩; have p258 : 0 ≤ (x10_1 : Int) := of_decide_eq_true z3; have q258 : x10_1 < (t250.length : Int) := of_decide_eq_true z3; obtain ⟨ad258, e258, hx258_0⟩ := Kd.at_bool (Kd.R_reads' HO_9.out).2.2 x10_1 p258 q258; (try rw [← Nbq21.out] at hx258_0); obtain rfl : ad256 = ad258 := (by injection e258); replace p258 := eq_true p258; replace q258 := eq_true q258))
            go_meet
            case rel => exact ⟨_, (false), z6, H', ⟨by have := HK1.out; first | omega | exact Nat.le_refl _⟩, ⟨by (with_reducible repeat (first | apply Kd.R_alloc | apply Kd.R_drewN | apply Kd.R_drew)); exact HO_9.out⟩, ⟨by (with_reducible repeat (first | refine blk_drewN ?_ _ | refine blk_drew ?_ | refine blk_alloc ?_ _)); exact BK249.out⟩, ⟨by repeat (first | (with_reducible first | exact HB.out | apply below_alloc | apply pw_below_drewN | apply below_drew1 | refine below_set ?_ GE249.out) | exact HB.out)⟩⟩
           ·replace c24 := Bool.eq_false_iff.mpr c24
            subst c24
            rw [if_neg (show ¬ (false = true) by decide)] at H
            have H' := Aside0.mk H
            clear H
            have p256 : 0 ≤ (x10_1 : Int) := of_decide_eq_true z3
            have q256 : x10_1 < (t250.length : Int) := of_decide_eq_true z3
            obtain ⟨ad256, e256, hx256_0⟩ := Kd.at_bool (Kd.R_reads' HO_9.out).2.2 x10_1 p256 q256
            (try rw [← Nbq21.out] at hx256_0)
            cases e256
            replace p256 := eq_true p256
            replace q256 := eq_true q256
            go_wp2_with (first | (go_at_call 38; (with_reducible refine (spec_l21Lead.calls _ _ l2 (rd l1_0 (ji14)) false _ ?side1 ?side2 A23.out).mono ?_); (case side1 => repeat (first | exact (Kd.C_below HR2.out HB.out) | (with_reducible refine Kd.C_alloc ?_ _) | (with_reducible refine Kd.C_drewN ?_ _) | (with_reducible refine Kd.C_drew ?_))); (case side2 => exact HC2.out); rintro e w' ⟨rfl, ⟨nd, rfl⟩⟩))
            go_meet
            case rel => exact ⟨_, (true), z6, H', ⟨by have := HK1.out; first | omega | exact Nat.le_refl _⟩, ⟨by (with_reducible repeat (first | apply Kd.R_alloc | apply Kd.R_drewN | apply Kd.R_drew)); exact HO_9.out⟩, ⟨by (with_reducible repeat (first | refine blk_drewN ?_ _ | refine blk_drew ?_ | refine blk_alloc ?_ _)); exact BK249.out⟩, ⟨by repeat (first | (with_reducible first | exact HB.out | apply below_alloc | apply pw_below_drewN | apply below_drew1 | refine below_set ?_ GE249.out) | exact HB.out)⟩⟩
          ·replace c22 := Bool.eq_false_iff.mpr c22
           subst c22
           rw [if_neg (show ¬ (false = true) by decide)] at H
           replace H := Option.bind_eq_some_iff.mp H
           obtain ⟨t260, A250, H⟩ := H
           try dsimp only at H
           have A25 := Aside0.mk A250
           clear A250
           have H' := Aside0.mk H
           clear H
           have p256 : 0 ≤ (x10_1 : Int) := of_decide_eq_true z3
           have q256 : x10_1 < (t250.length : Int) := of_decide_eq_true z3
           obtain ⟨ad256, e256, hx256_0⟩ := Kd.at_bool (Kd.R_reads' HO_9.out).2.2 x10_1 p256 q256
           (try rw [← Nbq21.out] at hx256_0)
           cases e256
           replace p256 := eq_true p256
           replace q256 := eq_true q256
           have p259 : 0 ≤ (x10_1 : Int) := of_decide_eq_true z3
           have q259 : x10_1 < (t250.length : Int) := of_decide_eq_true z3
           obtain ⟨ad259, e259, hx259_0⟩ := Kd.at_bool (Kd.R_reads' HO_9.out).2.2 x10_1 p259 q259
           (try rw [← Nbq21.out] at hx259_0)
           obtain rfl : ad256 = ad259 := (by injection e259)
           replace p259 := eq_true p259
           replace q259 := eq_true q259
           go_wp2_with (first | (go_at_call 40; (with_reducible refine (spec_l1Word.calls (rd l1_0 (ji14)) t260 _ A25.out).mono ?_); rintro e w' ⟨rfl, ⟨nd, rfl⟩⟩))
           go_meet
           case rel => exact ⟨_, (!t260), z6, H', ⟨by have := HK1.out; first | omega | exact Nat.le_refl _⟩, ⟨by (with_reducible repeat (first | apply Kd.R_alloc | apply Kd.R_drewN | apply Kd.R_drew)); exact HO_9.out⟩, ⟨by (with_reducible repeat (first | refine blk_drewN ?_ _ | refine blk_drew ?_ | refine blk_alloc ?_ _)); exact BK249.out⟩, ⟨by repeat (first | (with_reducible first | exact HB.out | apply below_alloc | apply pw_below_drewN | apply below_drew1 | refine below_set ?_ GE249.out) | exact HB.out)⟩⟩
         ·rw [if_neg c20] at H
          exact absurd H (by simp)
        case rest =>
         clear HC17
         try clear c1
         try clear c2
         try clear p2
         try clear q2
         try clear hx2
         try clear c3
         try clear c6
         try clear c6b0
         try clear p6
         try clear c7
         try clear c7b0
         try clear c13
         try clear c13b0
         try clear c15
         try clear c15b0
         try clear c16
         try clear c16b0
         try clear c20
         try clear c20b0
         try clear q21
         try clear c22
         try clear c24
         try clear p25
         try clear q25
         try clear hx25
         try clear hcz10_0
         try clear hcz10_1
         try clear hcz10_2
         try clear hcz10_3
         try clear hcz10_4
         try clear hcz12_0
         try clear hcz12_1
         try clear hcz12_2
         try clear hcz12_3
         try clear hcz12_4
         try clear hcz19_0
         try clear hcz19_1
         try clear hcz19_2
         try clear hcz19_3
         try clear hcz19_4
         try clear hfz10_0
         try clear hfz10_1
         try clear hfz10_2
         try clear hfz10_3
         try clear hfz10_4
         try clear hfz12_0
         try clear hfz12_1
         try clear hfz12_2
         try clear hfz12_3
         try clear hfz12_4
         try clear hfz19_0
         try clear hfz19_1
         try clear hfz19_2
         try clear hfz19_3
         try clear hfz19_4
         try clear hx253_0
         try clear hx255_0
         try clear hx256_0
         try clear hx258_0
         try clear hx259_0
         try clear p2
         try clear p253
         try clear p255
         try clear p256
         try clear p258
         try clear p259
         try clear q2
         try clear q253
         try clear q255
         try clear q256
         try clear q258
         try clear q259
         obtain ⟨kq, x57_16, rfl, HA, HJ16, HO_9, BK249, HB⟩ := hcut
         cases kq with
         | zero => exact absurd HA.out (by simp [spec_l21Thing.j1])
         | succ kj16 =>
          have H := HA.out
          clear HA
          simp only [spec_l21Thing.j1] at H
          by_cases c26 : x57_16 = true
          ·subst c26
           rw [if_pos rfl] at H
           obtain rfl := Option.some.inj H
           go_wp2
           go_ret
           exact ⟨by first | rfl | (simp [errW_none, errW_some] <;> rfl) | (simp only [← hji14]; first | rfl | (simp [errW_none, errW_some] <;> rfl)) | (simp [*, errW_none, errW_some] <;> rfl), by repeat (first | (with_reducible first | exact HB.out | apply below_alloc | apply pw_below_drewN | apply below_drew1 | refine below_set ?_ GE249.out) | exact HB.out)⟩
          ·replace c26 := Bool.eq_false_iff.mpr c26
           subst c26
           rw [if_neg (show ¬ (false = true) by decide)] at H
           by_cases c27 : 0 ≤ x10_1
           ·rw [if_pos c27] at H
            have c27b0 : decide (0 ≤ x10_1) = true := decide_eq_true c27
            clear c27
            by_cases c28 : x10_1 < (t250.length : Int)
            ·rw [if_pos c28] at H
             have c28b0 : decide (x10_1 < (t250.length : Int)) = true := decide_eq_true c28
             clear c28
             obtain ⟨bq29, hbq29⟩ : ∃ b_ : Bool, b_ = (rdOf false t250 x10_1) := ⟨_, rfl⟩
             replace H : (if bq29 = true then (if a3 ≥ a1_1 then ((spec_l6In.f (rd l1_0 (ji14)) 1 a1_1).bind fun t262 => (if t262 = true then (if 0 ≤ (wrap64 (Int.tdiv (wrap64 ((wrap64 (a3 + x10_1)) - a1_1)) 4)) then (if (wrap64 (Int.tdiv (wrap64 ((wrap64 (a3 + x10_1)) - a1_1)) 4)) < (l1_4.length : Int) then (if (rdOf false l1_4 (wrap64 (Int.tdiv (wrap64 ((wrap64 (a3 + x10_1)) - a1_1)) 4)) = true) then (spec_l21Thing.l0 kj16 l2 a3 t250 (wrap64 (x10_1 + 1)) l1_0 a1_1 a1_2 a1_3 l1_4) else (some false)) else (none)) else (none)) else (spec_l21Thing.l0 kj16 l2 a3 t250 (wrap64 (x10_1 + 1)) l1_0 a1_1 a1_2 a1_3 l1_4))) else (spec_l21Thing.l0 kj16 l2 a3 t250 (wrap64 (x10_1 + 1)) l1_0 a1_1 a1_2 a1_3 l1_4)) else (spec_l21Thing.l0 kj16 l2 a3 t250 (wrap64 (x10_1 + 1)) l1_0 a1_1 a1_2 a1_3 l1_4)) = some r := by rw [← hbq29] at H; exact H
             have Nbq29 := Aside0.mk hbq29
             clear hbq29
             by_cases c30 : bq29 = true
             ·subst c30
              rw [if_pos rfl] at H
              by_cases c31 : a3 ≥ a1_1
              ·rw [if_pos c31] at H
               have c31b0 : decide (a1_1 ≤ a3) = true := decide_eq_true c31
               clear c31
               replace H := Option.bind_eq_some_iff.mp H
               obtain ⟨t262, A320, H⟩ := H
               try dsimp only at H
               have A32 := Aside0.mk A320
               clear A320
               by_cases c33 : t262 = true
               ·subst c33
                rw [if_pos rfl] at H
                obtain ⟨ji34, hji34⟩ : ∃ j_ : Int, (wrap64 (Int.tdiv (wrap64 ((wrap64 (a3 + x10_1)) - a1_1)) 4)) = j_ := ⟨_, rfl⟩
                replace H : (if 0 ≤ (ji34) then (if (ji34) < (l1_4.length : Int) then (if (rdOf false l1_4 (ji34) = true) then (spec_l21Thing.l0 kj16 l2 a3 t250 (wrap64 (x10_1 + 1)) l1_0 a1_1 a1_2 a1_3 l1_4) else (some false)) else (none)) else (none)) = some r := by first | (rw [hji34] at H; exact H) | (simp only [hji34] at H ⊢; exact H)
                (try rw [hji34] at A32)
                have hji34w : (IntKind.i64.wrap (Int.tdiv (wrap64 ((wrap64 (a3 + x10_1)) - a1_1)) 4)) = ji34 := (i64_w _).trans hji34
                (try rw [hji14] at hji34w)
                by_cases c35 : 0 ≤ (ji34)
                ·rw [if_pos c35] at H
                 have c35b0 : decide (0 ≤ (ji34)) = true := decide_eq_true c35
                 clear c35
                 by_cases c36 : (ji34) < (l1_4.length : Int)
                 ·rw [if_pos c36] at H
                  have c36b0 : decide ((ji34) < (l1_4.length : Int)) = true := decide_eq_true c36
                  clear c36
                  obtain ⟨bq37, hbq37⟩ : ∃ b_ : Bool, b_ = (rdOf false l1_4 (ji34)) := ⟨_, rfl⟩
                  replace H : (if (bq37 = true) then (spec_l21Thing.l0 kj16 l2 a3 t250 (wrap64 (x10_1 + 1)) l1_0 a1_1 a1_2 a1_3 l1_4) else (some false)) = some r := by rw [← hbq37] at H; exact H
                  have Nbq37 := Aside0.mk hbq37
                  clear hbq37
                  by_cases c38 : (bq37 = true)
                  ·subst c38
                   rw [if_pos rfl] at H
                   have H' := Aside0.mk H
                   clear H
                   have p261 : 0 ≤ (x10_1 : Int) := of_decide_eq_true z3
                   have q261 : x10_1 < (t250.length : Int) := of_decide_eq_true z3
                   obtain ⟨ad261, e261, hx261_0⟩ := Kd.at_bool (Kd.R_reads' HO_9.out).2.2 x10_1 p261 q261
                   (try rw [← Nbq29.out] at hx261_0)
                   (try rw [← Nbq37.out] at hx261_0)
                   cases e261
                   replace p261 := eq_true p261
                   replace q261 := eq_true q261
                   obtain ⟨hcz39_0, hcz39_1, hcz39_2, hcz39_3, hcz39_4, hfz39_0, hfz39_1, hfz39_2, hfz39_3, hfz39_4⟩ := cbf5 BK249
                   go_wp2_with (first | (go_at_call 69; (with_reducible refine (spec_l6In.calls (rd l1_0 (ji14)) 1 a1_1 true _ A32.out).mono ?_); rintro e w' ⟨rfl, ⟨nd, rfl⟩⟩; have p263 : 0 ≤ ((ji34) : Int) := of_decide_eq_true z3; have q263 : (ji34) < (l1_4.length : Int) := of_decide_eq_true z3; obtain ⟨ad263, e263, hx263_0⟩ := Kd.at_bool HR1_4.out (ji34) p263 q263; (try rw [← Nbq29.out] at hx263_0); (try rw [← Nbq37.out] at hx263_0); cases e263; replace hx263_0 := (HB.out.cell (World.block_lt_of_cell? w _ hx263_0)).trans hx263_0; replace p263 := eq_true p263; replace q263 := eq_true q263))
                   go_roundg kj16
                   case measure => have := HK1.out; have := HJ16.out; omega
                   case rel => exact ⟨(wrap64 (x10_1 + 1)), z6, H', ⟨by have := HK1.out; have := HJ16.out; omega⟩, ⟨by (with_reducible repeat (first | apply Kd.R_alloc | apply Kd.R_drewN | apply Kd.R_drew)); exact HO_9.out⟩, ⟨by (with_reducible repeat (first | refine blk_drewN ?_ _ | refine blk_drew ?_ | refine blk_alloc ?_ _)); exact BK249.out⟩, ⟨by repeat (first | (with_reducible first | exact HB.out | apply below_alloc | apply pw_below_drewN | apply below_drew1 | refine below_set ?_ GE249.out) | exact HB.out)⟩⟩
                  ·replace c38 := Bool.eq_false_iff.mpr c38
                   subst c38
                   rw [if_neg (show ¬ (false = true) by decide)] at H
                   obtain rfl := Option.some.inj H
                   have p261 : 0 ≤ (x10_1 : Int) := of_decide_eq_true z3
                   have q261 : x10_1 < (t250.length : Int) := of_decide_eq_true z3
                   obtain ⟨ad261, e261, hx261_0⟩ := Kd.at_bool (Kd.R_reads' HO_9.out).2.2 x10_1 p261 q261
                   (try rw [← Nbq29.out] at hx261_0)
                   (try rw [← Nbq37.out] at hx261_0)
                   cases e261
                   replace p261 := eq_true p261
                   replace q261 := eq_true q261
                   obtain ⟨hcz40_0, hcz40_1, hcz40_2, hcz40_3, hcz40_4, hfz40_0, hfz40_1, hfz40_2, hfz40_3, hfz40_4⟩ := cbf5 BK249
                   go_wp2_with (first | (go_at_call 69; (with_reducible refine (spec_l6In.calls (rd l1_0 (ji14)) 1 a1_1 true _ A32.out).mono ?_); rintro e w' ⟨rfl, ⟨nd, rfl⟩⟩; have p263 : 0 ≤ ((ji34) : Int) := of_decide_eq_true z3; have q263 : (ji34) < (l1_4.length : Int) := of_decide_eq_true z3; obtain ⟨ad263, e263, hx263_0⟩ := Kd.at_bool HR1_4.out (ji34) p263 q263; (try rw [← Nbq29.out] at hx263_0); (try rw [← Nbq37.out] at hx263_0); cases e263; replace hx263_0 := (HB.out.cell (World.block_lt_of_cell? w _ hx263_0)).trans hx263_0; replace p263 := eq_true p263; replace q263 := eq_true q263))
                   go_ret
                   exact ⟨by first | rfl | (simp [errW_none, errW_some] <;> rfl) | (simp only [← hji14, ← hji34]; first | rfl | (simp [errW_none, errW_some] <;> rfl)) | (simp [*, errW_none, errW_some] <;> rfl), by repeat (first | (with_reducible first | exact HB.out | apply below_alloc | apply pw_below_drewN | apply below_drew1 | refine below_set ?_ GE249.out) | exact HB.out)⟩
                 ·rw [if_neg c36] at H
                  exact absurd H (by simp)
                ·rw [if_neg c35] at H
                 exact absurd H (by simp)
               ·replace c33 := Bool.eq_false_iff.mpr c33
                subst c33
                rw [if_neg (show ¬ (false = true) by decide)] at H
                have H' := Aside0.mk H
                clear H
                have p261 : 0 ≤ (x10_1 : Int) := of_decide_eq_true z3
                have q261 : x10_1 < (t250.length : Int) := of_decide_eq_true z3
                obtain ⟨ad261, e261, hx261_0⟩ := Kd.at_bool (Kd.R_reads' HO_9.out).2.2 x10_1 p261 q261
                (try rw [← Nbq29.out] at hx261_0)
                cases e261
                replace p261 := eq_true p261
                replace q261 := eq_true q261
                obtain ⟨hcz41_0, hcz41_1, hcz41_2, hcz41_3, hcz41_4, hfz41_0, hfz41_1, hfz41_2, hfz41_3, hfz41_4⟩ := cbf5 BK249
                go_wp2_with (first | (go_at_call 69; (with_reducible refine (spec_l6In.calls (rd l1_0 (ji14)) 1 a1_1 false _ A32.out).mono ?_); rintro e w' ⟨rfl, ⟨nd, rfl⟩⟩))
                go_roundg kj16
                case measure => have := HK1.out; have := HJ16.out; omega
                case rel => exact ⟨(wrap64 (x10_1 + 1)), z6, H', ⟨by have := HK1.out; have := HJ16.out; omega⟩, ⟨by (with_reducible repeat (first | apply Kd.R_alloc | apply Kd.R_drewN | apply Kd.R_drew)); exact HO_9.out⟩, ⟨by (with_reducible repeat (first | refine blk_drewN ?_ _ | refine blk_drew ?_ | refine blk_alloc ?_ _)); exact BK249.out⟩, ⟨by repeat (first | (with_reducible first | exact HB.out | apply below_alloc | apply pw_below_drewN | apply below_drew1 | refine below_set ?_ GE249.out) | exact HB.out)⟩⟩
              ·rw [if_neg c31] at H
               have c31b0 : decide (a1_1 ≤ a3) = false := decide_eq_false c31
               clear c31
               have H' := Aside0.mk H
               clear H
               have p261 : 0 ≤ (x10_1 : Int) := of_decide_eq_true z3
               have q261 : x10_1 < (t250.length : Int) := of_decide_eq_true z3
               obtain ⟨ad261, e261, hx261_0⟩ := Kd.at_bool (Kd.R_reads' HO_9.out).2.2 x10_1 p261 q261
               (try rw [← Nbq29.out] at hx261_0)
               cases e261
               replace p261 := eq_true p261
               replace q261 := eq_true q261
               obtain ⟨hcz42_0, hcz42_1, hcz42_2, hcz42_3, hcz42_4, hfz42_0, hfz42_1, hfz42_2, hfz42_3, hfz42_4⟩ := cbf5 BK249
               go_wp2
               go_roundg kj16
               case measure => have := HK1.out; have := HJ16.out; omega
               case rel => exact ⟨(wrap64 (x10_1 + 1)), z6, H', ⟨by have := HK1.out; have := HJ16.out; omega⟩, ⟨by (with_reducible repeat (first | apply Kd.R_alloc | apply Kd.R_drewN | apply Kd.R_drew)); exact HO_9.out⟩, ⟨by (with_reducible repeat (first | refine blk_drewN ?_ _ | refine blk_drew ?_ | refine blk_alloc ?_ _)); exact BK249.out⟩, ⟨by repeat (first | (with_reducible first | exact HB.out | apply below_alloc | apply pw_below_drewN | apply below_drew1 | refine below_set ?_ GE249.out) | exact HB.out)⟩⟩
             ·replace c30 := Bool.eq_false_iff.mpr c30
              subst c30
              rw [if_neg (show ¬ (false = true) by decide)] at H
              have H' := Aside0.mk H
              clear H
              have p261 : 0 ≤ (x10_1 : Int) := of_decide_eq_true z3
              have q261 : x10_1 < (t250.length : Int) := of_decide_eq_true z3
              obtain ⟨ad261, e261, hx261_0⟩ := Kd.at_bool (Kd.R_reads' HO_9.out).2.2 x10_1 p261 q261
              (try rw [← Nbq29.out] at hx261_0)
              cases e261
              replace p261 := eq_true p261
              replace q261 := eq_true q261
              go_wp2
              go_roundg kj16
              case measure => have := HK1.out; have := HJ16.out; omega
              case rel => exact ⟨(wrap64 (x10_1 + 1)), z6, H', ⟨by have := HK1.out; have := HJ16.out; omega⟩, ⟨by (with_reducible repeat (first | apply Kd.R_alloc | apply Kd.R_drewN | apply Kd.R_drew)); exact HO_9.out⟩, ⟨by (with_reducible repeat (first | refine blk_drewN ?_ _ | refine blk_drew ?_ | refine blk_alloc ?_ _)); exact BK249.out⟩, ⟨by repeat (first | (with_reducible first | exact HB.out | apply below_alloc | apply pw_below_drewN | apply below_drew1 | refine below_set ?_ GE249.out) | exact HB.out)⟩⟩
            ·rw [if_neg c28] at H
             exact absurd H (by simp)
           ·rw [if_neg c27] at H
            exact absurd H (by simp)
       ·rw [if_neg c16] at H
        exact absurd H (by simp)
      ·rw [if_neg c15] at H
       exact absurd H (by simp)
     ·rw [if_neg c13] at H
      have c13b0 : decide (x10_1 < (t250.length : Int)) = false := decide_eq_false c13
      clear c13
      obtain rfl := Option.some.inj H
      obtain ⟨Ao43, co43, eo43⟩ := Kd.R_slice HO_9.out
      subst eo43
      go_wp2
      go_ret
      exact ⟨by first | rfl | (simp [errW_none, errW_some] <;> rfl) | (simp [*, errW_none, errW_some] <;> rfl), by repeat (first | (with_reducible first | exact HB.out | apply below_alloc | apply pw_below_drewN | apply below_drew1 | refine below_set ?_ GE249.out) | exact HB.out)⟩
  ·rw [if_neg c7] at H
   exact absurd H (by simp)
 ·rw [if_neg c6] at H
  exact absurd H (by simp)
end Go.Proofs.Ytmniglgahodghaa.K
namespace Go.Proofs.Ytmniglgahodghaa.K
open Go.RowKit Go.Proofs.YtmniglgahodghaaW.PrintWords Go.Proofs.YtmniglgahodghaaW.PrintLast Go.Proofs.YtmniglgahodghaaW.PrintMore
attribute [local go_sem] max2_int min2_int max_two min_two max_three min_three max_four min_four
set_option linter.unusedVariables false
set_option linter.unusedSimpArgs false
def spec_MemOk.l0 : Nat → List (S69) → List Int → List Bool → Int → List Int → Int → Int → Int → List Bool → Option (Bool)
  | 0, _, _, _, _, _, _, _, _, _ => none
  | k + 1, x0, x5, x7, x8, x265000, x265001, x265002, x265003, x265004 => if x8 < (x5.length : Int) then (if 0 ≤ x8 then ((spec_l21Thing.f k x0 x265000 x265001 x265002 x265003 x265004 x7 (rd x5 x8)).bind fun t274 => (if t274 = true then (spec_MemOk.l0 k x0 x5 x7 (wrap64 (x8 + 1)) x265000 x265001 x265002 x265003 x265004) else (some false))) else (none)) else (some true)
def spec_MemOk.f (k : Nat) (l0 : List (S69)) (l1_0 : List Int) (a1_1 : Int) (a1_2 : Int) (a1_3 : Int) (l1_4 : List Bool) : Option (Bool) := (spec_l21Bounds.f k l0 l1_0 a1_1 a1_2 a1_3 l1_4).bind fun t265 => (if t265 = true then ((spec_l21Walk.f k l0 l1_0 a1_1 a1_2 a1_3 l1_4).bind fun bt266 => (if bt266.2 = true then ((spec_l21Starts.f k (l1_0.length : Int) bt266.1).bind fun t270 => (spec_MemOk.l0 k l0 bt266.1 t270 0 l1_0 a1_1 a1_2 a1_3 l1_4)) else (some false))) else (some false))
def spec_MemOk.T10 : Bool × List (List Nat × List Nat) := (true, [([], []), ([], []), ([], []), ([], []), ([], []), ([3, 4], [3, 4]), ([5], [5]), ([0, 1, 2, 6], [0, 1, 2, 6]), ([7], [7])])
def spec_MemOk.B10 : List Nat := [0, 0, 0, 0, 0, 24, 56, 127, 255]
theorem spec_MemOk.tab10 : rtab .any (opsOf Try.f34 10) = spec_MemOk.T10 := by kernel_rfl
theorem spec_MemOk.bits10 : waitsOk spec_MemOk.T10.2 spec_MemOk.B10 = true := by kernel_rfl
set_option maxHeartbeats 8000000 in
set_option maxRecDepth 100000 in
theorem spec_MemOk.calls (k : Nat) (A0 : Option Addr) (c0 : Nat) (l0 : List (S69)) (A1_0 : Option Addr) (c1_0 : Nat) (l1_0 : List Int) (a1_1 : Int) (a1_2 : Int) (a1_3 : Int) (A1_4 : Option Addr) (c1_4 : Nat) (l1_4 : List Bool) (r : Bool) (w : World) (hr0 : Kd.C k69 w A0 l0.length l0) (hc0 : l0.length ≤ c0) (hr1_0 : Kd.C (Kd.int .i64) w A1_0 l1_0.length l1_0) (hc1_0 : l1_0.length ≤ c1_0) (hr1_4 : Kd.C Kd.bool w A1_4 l1_4.length l1_4) (hc1_4 : l1_4.length ≤ c1_4) (h : spec_MemOk.f k l0 l1_0 a1_1 a1_2 a1_3 l1_4 = some r) :
  Calls Try.prog 34 #[.slice A0 l0.length c0, .agg #[.slice A1_0 l1_0.length c1_0, .int .i64 a1_1, .int .i64 a1_2, .int .i64 a1_3, .slice A1_4 l1_4.length c1_4]] w fun e w' => e = .returned (.bool r) ∧ Below w.heap.size w w' := by
 have hu29 := Try.underlying29
 have HR0 := Aside0.mk hr0
 have HC0 := Aside0.mk hc0
 clear hr0 hc0
 have HR1_0 := Aside0.mk hr1_0
 have HC1_0 := Aside0.mk hc1_0
 clear hr1_0 hc1_0
 have HR1_4 := Aside0.mk hr1_4
 have HC1_4 := Aside0.mk hc1_4
 clear hr1_4 hc1_4
 have HB := Aside0.mk (Below.refl w.heap.size w)
 have H : ((spec_l21Bounds.f k l0 l1_0 a1_1 a1_2 a1_3 l1_4).bind fun t265 => (if t265 = true then ((spec_l21Walk.f k l0 l1_0 a1_1 a1_2 a1_3 l1_4).bind fun bt266 => (if bt266.2 = true then ((spec_l21Starts.f k (l1_0.length : Int) bt266.1).bind fun t270 => (spec_MemOk.l0 k l0 bt266.1 t270 0 l1_0 a1_1 a1_2 a1_3 l1_4)) else (some false))) else (some false))) = some r := h
 clear h
 replace H := Option.bind_eq_some_iff.mp H
 obtain ⟨t265, A30, H⟩ := H
 try dsimp only at H
 have A3 := Aside0.mk A30
 clear A30
 by_cases c4 : t265 = true
 ·subst c4
  rw [if_pos rfl] at H
  replace H := Option.bind_eq_some_iff.mp H
  obtain ⟨⟨t266, t269⟩, A50, H⟩ := H
  try dsimp only at H
  have A5 := Aside0.mk A50
  clear A50
  by_cases c6 : t269 = true
  ·subst c6
   rw [if_pos rfl] at H
   replace H := Option.bind_eq_some_iff.mp H
   obtain ⟨t270, A70, H⟩ := H
   try dsimp only at H
   have A7 := Aside0.mk A70
   clear A70
   have H' := Aside0.mk H
   clear H
   go_enter Try.func34, Try.ntmps34
   go_wp2_with (first | ((with_reducible refine gate_dst (N := 3) rfl ?_); refine box_event ?hg (N := 3) ?hd (cs := #[.slice A1_0 l1_0.length c1_0, .int .i64 a1_1, .int .i64 a1_2, .int .i64 a1_3, .slice A1_4 l1_4.length c1_4]) (t := 29) ?hr ?_; (case hd => rfl); (case hg => rfl); (case hr => first | (go_simp; done) | (go_simp; rfl)); intro gb264 hg w8 hbox hb; have BK264 := Aside0.mk (hbox); have GW264 := Aside0.mk ((by rw [hg]; exact (below_size z1) : w.heap.size ≤ gb264)); have GE264 := Aside0.mk ((by rw [hg]; exact (below_size z1) : w.heap.size ≤ gb264)); replace HB := Aside0.mk (below_step z1 hb); clear hb hbox hg; obtain ⟨hcz9_0, hcz9_1, hcz9_2, hcz9_3, hcz9_4, hfz9_0, hfz9_1, hfz9_2, hfz9_3, hfz9_4⟩ := cbf5 BK264) | ((with_reducible refine gate_callee (f := 65) rfl ?_); refine goesL_ (some 11) rfl rfl Try.func65 (by kernel_rfl) rfl #[.slice A0 l0.length c0, .agg #[.slice A1_0 l1_0.length c1_0, .int .i64 a1_1, .int .i64 a1_2, .int .i64 a1_3, .slice A1_4 l1_4.length c1_4]] rfl z2 ?_; (with_reducible refine (spec_l21Bounds.calls k _ _ l0 _ _ l1_0 a1_1 a1_2 a1_3 _ _ l1_4 true _ ?side1 ?side2 ?side3 ?side4 ?side5 ?side6 A3.out).mono ?_); (case side1 => repeat (first | exact (Kd.C_below HR0.out HB.out) | (with_reducible refine Kd.C_alloc ?_ _) | (with_reducible refine Kd.C_drewN ?_ _) | (with_reducible refine Kd.C_drew ?_))); (case side2 => exact HC0.out); (case side3 => repeat (first | exact (Kd.C_below HR1_0.out HB.out) | (with_reducible refine Kd.C_alloc ?_ _) | (with_reducible refine Kd.C_drewN ?_ _) | (with_reducible refine Kd.C_drew ?_))); (case side4 => exact HC1_0.out); (case side5 => repeat (first | exact (Kd.C_below HR1_4.out HB.out) | (with_reducible refine Kd.C_alloc ?_ _) | (with_reducible refine Kd.C_drewN ?_ _) | (with_reducible refine Kd.C_drew ?_))); (case side6 => exact HC1_4.out); rintro e w10 ⟨rfl, hb⟩; refine ⟨_, rfl, ?_⟩; replace BK264 := Aside0.mk (blk_below (g := gb264) (o := .cells #[.slice A1_0 l1_0.length c1_0, .int .i64 a1_1, .int .i64 a1_2, .int .i64 a1_3, .slice A1_4 l1_4.length c1_4] 29 (0, 0)) z27 hb); replace HB := Aside0.mk (below_step z12 hb); (try clear hb); (try clear hb2); (try clear hk); (try clear hi); obtain ⟨hcz11_0, hcz11_1, hcz11_2, hcz11_3, hcz11_4, hfz11_0, hfz11_1, hfz11_2, hfz11_3, hfz11_4⟩ := cbf5 BK264) | ((with_reducible refine gate_callee (f := 37) rfl ?_); refine goesL_ (some 16) rfl rfl Try.func37 (by kernel_rfl) rfl #[.slice A0 l0.length c0, .agg #[.slice A1_0 l1_0.length c1_0, .int .i64 a1_1, .int .i64 a1_2, .int .i64 a1_3, .slice A1_4 l1_4.length c1_4]] rfl z2 ?_; (with_reducible refine (spec_l21Walk.calls k _ _ l0 _ _ l1_0 a1_1 a1_2 a1_3 _ _ l1_4 t266 true _ ?side1 ?side2 ?side3 ?side4 ?side5 ?side6 A5.out).mono ?_); (case side1 => repeat (first | exact (Kd.C_below HR0.out HB.out) | (with_reducible refine Kd.C_alloc ?_ _) | (with_reducible refine Kd.C_drewN ?_ _) | (with_reducible refine Kd.C_drew ?_))); (case side2 => exact HC0.out); (case side3 => repeat (first | exact (Kd.C_below HR1_0.out HB.out) | (with_reducible refine Kd.C_alloc ?_ _) | (with_reducible refine Kd.C_drewN ?_ _) | (with_reducible refine Kd.C_drew ?_))); (case side4 => exact HC1_0.out); (case side5 => repeat (first | exact (Kd.C_below HR1_4.out HB.out) | (with_reducible refine Kd.C_alloc ?_ _) | (with_reducible refine Kd.C_drewN ?_ _) | (with_reducible refine Kd.C_drew ?_))); (case side6 => exact HC1_4.out); rintro e w12 ⟨v267, rfl, ho0, hb⟩; refine ⟨_, rfl, ?_⟩; have HO268 := Aside0.mk (Kd.R_lower ho0 (below_size z12)); replace BK264 := Aside0.mk (blk_below (g := gb264) (o := .cells #[.slice A1_0 l1_0.length c1_0, .int .i64 a1_1, .int .i64 a1_2, .int .i64 a1_3, .slice A1_4 l1_4.length c1_4] 29 (0, 0)) z27 hb); replace HB := Aside0.mk (below_step z12 hb); (try clear hb); (try clear hb2); (try clear hk); (try clear hi); (try clear ho0); obtain ⟨hcz13_0, hcz13_1, hcz13_2, hcz13_3, hcz13_4, hfz13_0, hfz13_1, hfz13_2, hfz13_3, hfz13_4⟩ := cbf5 BK264; obtain ⟨Ao14, co14, eo14⟩ := Kd.R_slice HO268.out; subst eo14) | ((with_reducible refine gate_callee (f := 39) rfl ?_); refine goesL_ (some 25) rfl rfl Try.func39 (by kernel_rfl) rfl #[.int .i64 (l1_0.length : Int), .slice Ao14 t266.length co14] rfl z2 ?_; (with_reducible refine (spec_l21Starts.calls k (l1_0.length : Int) _ _ t266 t270 _ ?side1 ?side2 A7.out).mono ?_); (case side1 => repeat (first | exact (Kd.R_reads' HO268.out).2.2 | (with_reducible refine Kd.C_alloc ?_ _) | (with_reducible refine Kd.C_drewN ?_ _) | (with_reducible refine Kd.C_drew ?_))); (case side2 => exact (Kd.R_reads' HO268.out).2.1); rintro e w15 ⟨v271, rfl, ho0, hb⟩; refine ⟨_, rfl, ?_⟩; have HO272 := Aside0.mk (Kd.R_lower ho0 (below_size z12)); replace HO268 := Aside0.mk (Kd.R_below (by (with_reducible repeat (first | apply Kd.R_alloc | apply Kd.R_drewN | apply Kd.R_drew)); exact HO268.out) hb); replace BK264 := Aside0.mk (blk_below (g := gb264) (o := .cells #[.slice A1_0 l1_0.length c1_0, .int .i64 a1_1, .int .i64 a1_2, .int .i64 a1_3, .slice A1_4 l1_4.length c1_4] 29 (0, 0)) z27 hb); replace HB := Aside0.mk (below_step z12 hb); (try clear hb); (try clear hb2); (try clear hk); (try clear hi); (try clear ho0)))
   go_loopg [8] k (fun kq v8 w' => ∃ (x8_1 : Int), v8 = .int .i64 x8_1 ∧ Aside0 (spec_MemOk.l0 kq l0 t266 t270 x8_1 l1_0 a1_1 a1_2 a1_3 l1_4 = some r) ∧ Aside0 (kq ≤ k) ∧ Aside0 (Kd.R (Kd.int .i64) 3 w' w.heap.size (fun _ => True) (.slice Ao14 t266.length co14) t266) ∧ Aside0 (Kd.R Kd.bool 4 w' w.heap.size (fun _ => True) v271 t270) ∧ Aside0 (w'.heap[gb264]? = some (.cells #[(.slice A1_0 l1_0.length c1_0), .int .i64 a1_1, .int .i64 a1_2, .int .i64 a1_3, (.slice A1_4 l1_4.length c1_4)] 29 (0, 0))) ∧ Aside0 (Below w.heap.size w w'))
   case atStart => exact ⟨(0), z6, H', ⟨Nat.le_refl _⟩, ⟨by (with_reducible repeat (first | apply Kd.R_alloc | apply Kd.R_drewN | apply Kd.R_drew)); exact HO268.out⟩, ⟨by (with_reducible repeat (first | apply Kd.R_alloc | apply Kd.R_drewN | apply Kd.R_drew)); exact HO272.out⟩, ⟨by (with_reducible repeat (first | refine blk_drewN ?_ _ | refine blk_drew ?_ | refine blk_alloc ?_ _)); exact BK264.out⟩, ⟨by repeat (first | (with_reducible first | exact HB.out | apply below_alloc | apply pw_below_drewN | apply below_drew1 | refine below_set ?_ GE264.out) | exact HB.out)⟩⟩
   case round =>
    clear H'
    try clear c1
    try clear p2
    try clear c3
    try clear c4
    try clear c6
    try clear hcz11_0
    try clear hcz11_1
    try clear hcz11_2
    try clear hcz11_3
    try clear hcz11_4
    try clear hcz13_0
    try clear hcz13_1
    try clear hcz13_2
    try clear hcz13_3
    try clear hcz13_4
    try clear hcz9_0
    try clear hcz9_1
    try clear hcz9_2
    try clear hcz9_3
    try clear hcz9_4
    try clear hfz11_0
    try clear hfz11_1
    try clear hfz11_2
    try clear hfz11_3
    try clear hfz11_4
    try clear hfz13_0
    try clear hfz13_1
    try clear hfz13_2
    try clear hfz13_3
    try clear hfz13_4
    try clear hfz9_0
    try clear hfz9_1
    try clear hfz9_2
    try clear hfz9_3
    try clear hfz9_4
    obtain ⟨x8_1, rfl, HA, HK1, HO_5, HO_7, BK264, HB⟩ := hrel
    cases gk with
    | zero => exact absurd HA.out (by simp [spec_MemOk.l0])
    | succ k1 =>
     have H := HA.out
     clear HA
     simp only [spec_MemOk.l0] at H
     by_cases c16 : x8_1 < (t266.length : Int)
     ·rw [if_pos c16] at H
      have c16b0 : decide (x8_1 < (t266.length : Int)) = true := decide_eq_true c16
      clear c16
      by_cases c17 : 0 ≤ x8_1
      ·rw [if_pos c17] at H
       have c17b0 : decide (0 ≤ x8_1) = true := decide_eq_true c17
       clear c17
       replace H := Option.bind_eq_some_iff.mp H
       obtain ⟨t274, A180, H⟩ := H
       try dsimp only at H
       have A18 := Aside0.mk A180
       clear A180
       by_cases c19 : t274 = true
       ·subst c19
        rw [if_pos rfl] at H
        have H' := Aside0.mk H
        clear H
        try go_wp2
        have n0_ := Aside0.mk (Kd.R_drew HO_5.out)
        have n1_ := Aside0.mk (Kd.R_drew HO_7.out)
        have n2_ := Aside0.mk (blk_drew BK264.out)
        have n3_ := Aside0.mk (below_drew1 HB.out)
        clear HO_5
        clear HO_7
        clear BK264
        clear HB
        have HO_5 := n0_
        have HO_7 := n1_
        have BK264 := n2_
        have HB := n3_
        clear n0_ n1_ n2_ n3_
        have p273 : 0 ≤ (x8_1 : Int) := of_decide_eq_true z3
        have q273 : x8_1 < (t266.length : Int) := of_decide_eq_true z3
        obtain ⟨ad273, e273, hx273_0⟩ := Kd.at_int (Kd.R_reads' HO_5.out).2.2 x8_1 p273 q273
        cases e273
        replace p273 := eq_true p273
        replace q273 := eq_true q273
        obtain ⟨Ao21, co21, eo21⟩ := Kd.R_slice HO_7.out
        (first | subst eo21 | (injection eo21 with f1_ f2_ f3_; have f4_ := f1_.symm; have f5_ := f3_.symm; clear f1_ f2_ f3_; subst f4_; subst f5_))
        refine start_ (n := 9) (S := fun w' => w'.cell? ⟨gb264, 0, none⟩ = some (.slice A1_0 l1_0.length c1_0) ∧ w'.cell? ⟨gb264, 1, none⟩ = some (.int .i64 a1_1) ∧ w'.cell? ⟨gb264, 2, none⟩ = some (.int .i64 a1_2) ∧ w'.cell? ⟨gb264, 3, none⟩ = some (.int .i64 a1_3) ∧ w'.cell? ⟨gb264, 4, none⟩ = some (.slice A1_4 l1_4.length c1_4) ∧ w'.cell? (ad273.add (x8_1).toNat) = some (.int .i64 (rd t266 x8_1))) (ds := []) #[false, false, false, false, false, false, false, false, false] (by kernel_rfl) rfl rfl ⟨(blk_cell BK264.out 0).trans rfl, (blk_cell BK264.out 1).trans rfl, (blk_cell BK264.out 2).trans rfl, (blk_cell BK264.out 3).trans rfl, (blk_cell BK264.out 4).trans rfl, hx273_0⟩ (fun hHeld => ?_); refine with_tabW spec_MemOk.tab10 spec_MemOk.bits10 (fun HT_ HW_ => ?_)
        generalize wr.drew = w20 at HO_5 HO_7 BK264 HB hx273_0 hHeld ⊢
        refine pS 0 32 #[true, false, false, false, false, false, false, false, false] ?_ (hc := (any_of HT_.out (by kernel_rfl)))
        refine pS 2 34 #[true, false, true, false, false, false, false, false, false] ?_ (hc := (any_of HT_.out (by kernel_rfl)))
        refine pS 3 35 #[true, false, true, true, false, false, false, false, false] ?_ (hc := (any_of HT_.out (by kernel_rfl)))
        refine pS 4 36 #[true, false, true, true, true, false, false, false, false] ?_ (hc := (any_of HT_.out (by kernel_rfl)))
        refine pS 5 37 #[true, false, true, true, true, true, false, false, false] ?_ (hc := (any_of HT_.out (by kernel_rfl)))
        refine tS 1 33 #[true, true, true, true, true, true, false, false, false] rfl rfl (take_ofW HT_.out HW_.out (by kernel_rfl)) hHeld z4 ?_
        refine tS 6 38 #[true, true, true, true, true, true, true, false, false] rfl rfl (take_ofW HT_.out HW_.out (by kernel_rfl)) hHeld z4 ?_
        refine one_ (i := 7) (N := some 39) #[true, true, true, true, true, true, true, true, false] rfl rfl (one_of HT_.out (by kernel_rfl)) (by decide) (fun K hK => ?_)
        refine goes_ Try.func66 (by kernel_rfl) rfl #[.slice A0 l0.length c0, .agg #[.slice A1_0 l1_0.length c1_0, .int .i64 a1_1, .int .i64 a1_2, .int .i64 a1_3, .slice A1_4 l1_4.length c1_4], .slice Ao21 t270.length co21, .int .i64 (rd t266 x8_1)] (by rfl) rfl rfl z2 ?_
        with_reducible refine (spec_l21Thing.calls k1 _ _ l0 _ _ l1_0 a1_1 a1_2 a1_3 _ _ l1_4 _ _ t270 (rd t266 x8_1) true _ ?side1 ?side2 ?side3 ?side4 ?side5 ?side6 ?side7 ?side8 A18.out).mono ?_
        (case side1 => repeat (first | exact (Kd.C_below HR0.out HB.out) | (with_reducible refine Kd.C_alloc ?_ _) | (with_reducible refine Kd.C_drewN ?_ _) | (with_reducible refine Kd.C_drew ?_)))
        (case side2 => exact HC0.out)
        (case side3 => repeat (first | exact (Kd.C_below HR1_0.out HB.out) | (with_reducible refine Kd.C_alloc ?_ _) | (with_reducible refine Kd.C_drewN ?_ _) | (with_reducible refine Kd.C_drew ?_)))
        (case side4 => exact HC1_0.out)
        (case side5 => repeat (first | exact (Kd.C_below HR1_4.out HB.out) | (with_reducible refine Kd.C_alloc ?_ _) | (with_reducible refine Kd.C_drewN ?_ _) | (with_reducible refine Kd.C_drew ?_)))
        (case side6 => exact HC1_4.out)
        (case side7 => repeat (first | exact (Kd.R_reads' HO_7.out).2.2 | (with_reducible refine Kd.C_alloc ?_ _) | (with_reducible refine Kd.C_drewN ?_ _) | (with_reducible refine Kd.C_drew ?_)))
        (case side8 => exact (Kd.R_reads' HO_7.out).2.1)
        rintro e w22 ⟨rfl, hb⟩
        have HS5_ := (hb.cell (World.block_lt_of_cell? _ _ (hHeld.2.2.2.2.2))).trans (hHeld.2.2.2.2.2)
        refine ⟨_, rfl, ?_⟩
        have n0_ := Aside0.mk (Kd.R_below (by (with_reducible repeat (first | apply Kd.R_alloc | apply Kd.R_drewN | apply Kd.R_drew)); exact HO_5.out) hb)
        have n1_ := Aside0.mk (Kd.R_below (by (with_reducible repeat (first | apply Kd.R_alloc | apply Kd.R_drewN | apply Kd.R_drew)); exact HO_7.out) hb)
        have n2_ := Aside0.mk (blk_below (g := gb264) (o := .cells #[.slice A1_0 l1_0.length c1_0, .int .i64 a1_1, .int .i64 a1_2, .int .i64 a1_3, .slice A1_4 l1_4.length c1_4] 29 (0, 0)) z27 hb)
        have n3_ := Aside0.mk (below_step z12 hb)
        clear HO_5
        clear HO_7
        clear BK264
        clear HB
        have HO_5 := n0_
        have HO_7 := n1_
        have BK264 := n2_
        have HB := n3_
        clear n0_ n1_ n2_ n3_
        (try clear hb)
        (try clear hb2)
        (try clear hk)
        (try clear hi)
        refine hK.out _ _ ⟨(blk_cell BK264.out 0).trans rfl, (blk_cell BK264.out 1).trans rfl, (blk_cell BK264.out 2).trans rfl, (blk_cell BK264.out 3).trans rfl, (blk_cell BK264.out 4).trans rfl, HS5_⟩ (fun hHeld => ?_)
        clear hK K
        refine norm_ (a' := ?_) ?_ ?_
        rotate_left
        ·show Act.put _ (some 39) _ = _
         simp only [Act.put, lA1, lA2, lA3, i64_w, i32_w]
         rfl
        refine pS 8 40 #[true, true, true, true, true, true, true, true, true] ?_ (hc := (any_of HT_.out (by kernel_rfl)))
        refine done_ (done_of HT_.out (by kernel_rfl)) ?_
        try go_wp2
        go_roundg k1
        case measure => have := HK1.out; omega
        case rel => exact ⟨(wrap64 (x8_1 + 1)), z6, H', ⟨by have := HK1.out; omega⟩, ⟨by (with_reducible repeat (first | apply Kd.R_alloc | apply Kd.R_drewN | apply Kd.R_drew)); exact HO_5.out⟩, ⟨by (with_reducible repeat (first | apply Kd.R_alloc | apply Kd.R_drewN | apply Kd.R_drew)); exact HO_7.out⟩, ⟨by (with_reducible repeat (first | refine blk_drewN ?_ _ | refine blk_drew ?_ | refine blk_alloc ?_ _)); exact BK264.out⟩, ⟨by repeat (first | (with_reducible first | exact HB.out | apply below_alloc | apply pw_below_drewN | apply below_drew1 | refine below_set ?_ GE264.out) | exact HB.out)⟩⟩
       ·replace c19 := Bool.eq_false_iff.mpr c19
        subst c19
        rw [if_neg (show ¬ (false = true) by decide)] at H
        obtain rfl := Option.some.inj H
        try go_wp2
        have n0_ := Aside0.mk (Kd.R_drew HO_5.out)
        have n1_ := Aside0.mk (Kd.R_drew HO_7.out)
        have n2_ := Aside0.mk (blk_drew BK264.out)
        have n3_ := Aside0.mk (below_drew1 HB.out)
        clear HO_5
        clear HO_7
        clear BK264
        clear HB
        have HO_5 := n0_
        have HO_7 := n1_
        have BK264 := n2_
        have HB := n3_
        clear n0_ n1_ n2_ n3_
        have p273 : 0 ≤ (x8_1 : Int) := of_decide_eq_true z3
        have q273 : x8_1 < (t266.length : Int) := of_decide_eq_true z3
        obtain ⟨ad273, e273, hx273_0⟩ := Kd.at_int (Kd.R_reads' HO_5.out).2.2 x8_1 p273 q273
        cases e273
        replace p273 := eq_true p273
        replace q273 := eq_true q273
        obtain ⟨Ao24, co24, eo24⟩ := Kd.R_slice HO_7.out
        (first | subst eo24 | (injection eo24 with f1_ f2_ f3_; have f4_ := f1_.symm; have f5_ := f3_.symm; clear f1_ f2_ f3_; subst f4_; subst f5_))
        refine start_ (n := 9) (S := fun w' => w'.cell? ⟨gb264, 0, none⟩ = some (.slice A1_0 l1_0.length c1_0) ∧ w'.cell? ⟨gb264, 1, none⟩ = some (.int .i64 a1_1) ∧ w'.cell? ⟨gb264, 2, none⟩ = some (.int .i64 a1_2) ∧ w'.cell? ⟨gb264, 3, none⟩ = some (.int .i64 a1_3) ∧ w'.cell? ⟨gb264, 4, none⟩ = some (.slice A1_4 l1_4.length c1_4) ∧ w'.cell? (ad273.add (x8_1).toNat) = some (.int .i64 (rd t266 x8_1))) (ds := []) #[false, false, false, false, false, false, false, false, false] (by kernel_rfl) rfl rfl ⟨(blk_cell BK264.out 0).trans rfl, (blk_cell BK264.out 1).trans rfl, (blk_cell BK264.out 2).trans rfl, (blk_cell BK264.out 3).trans rfl, (blk_cell BK264.out 4).trans rfl, hx273_0⟩ (fun hHeld => ?_); refine with_tabW spec_MemOk.tab10 spec_MemOk.bits10 (fun HT_ HW_ => ?_)
        generalize wr.drew = w23 at HO_5 HO_7 BK264 HB hx273_0 hHeld ⊢
        refine pS 0 32 #[true, false, false, false, false, false, false, false, false] ?_ (hc := (any_of HT_.out (by kernel_rfl)))
        refine pS 2 34 #[true, false, true, false, false, false, false, false, false] ?_ (hc := (any_of HT_.out (by kernel_rfl)))
        refine pS 3 35 #[true, false, true, true, false, false, false, false, false] ?_ (hc := (any_of HT_.out (by kernel_rfl)))
        refine pS 4 36 #[true, false, true, true, true, false, false, false, false] ?_ (hc := (any_of HT_.out (by kernel_rfl)))
        refine pS 5 37 #[true, false, true, true, true, true, false, false, false] ?_ (hc := (any_of HT_.out (by kernel_rfl)))
        refine tS 1 33 #[true, true, true, true, true, true, false, false, false] rfl rfl (take_ofW HT_.out HW_.out (by kernel_rfl)) hHeld z4 ?_
        refine tS 6 38 #[true, true, true, true, true, true, true, false, false] rfl rfl (take_ofW HT_.out HW_.out (by kernel_rfl)) hHeld z4 ?_
        refine one_ (i := 7) (N := some 39) #[true, true, true, true, true, true, true, true, false] rfl rfl (one_of HT_.out (by kernel_rfl)) (by decide) (fun K hK => ?_)
        refine goes_ Try.func66 (by kernel_rfl) rfl #[.slice A0 l0.length c0, .agg #[.slice A1_0 l1_0.length c1_0, .int .i64 a1_1, .int .i64 a1_2, .int .i64 a1_3, .slice A1_4 l1_4.length c1_4], .slice Ao24 t270.length co24, .int .i64 (rd t266 x8_1)] (by rfl) rfl rfl z2 ?_
        with_reducible refine (spec_l21Thing.calls k1 _ _ l0 _ _ l1_0 a1_1 a1_2 a1_3 _ _ l1_4 _ _ t270 (rd t266 x8_1) false _ ?side1 ?side2 ?side3 ?side4 ?side5 ?side6 ?side7 ?side8 A18.out).mono ?_
        (case side1 => repeat (first | exact (Kd.C_below HR0.out HB.out) | (with_reducible refine Kd.C_alloc ?_ _) | (with_reducible refine Kd.C_drewN ?_ _) | (with_reducible refine Kd.C_drew ?_)))
        (case side2 => exact HC0.out)
        (case side3 => repeat (first | exact (Kd.C_below HR1_0.out HB.out) | (with_reducible refine Kd.C_alloc ?_ _) | (with_reducible refine Kd.C_drewN ?_ _) | (with_reducible refine Kd.C_drew ?_)))
        (case side4 => exact HC1_0.out)
        (case side5 => repeat (first | exact (Kd.C_below HR1_4.out HB.out) | (with_reducible refine Kd.C_alloc ?_ _) | (with_reducible refine Kd.C_drewN ?_ _) | (with_reducible refine Kd.C_drew ?_)))
        (case side6 => exact HC1_4.out)
        (case side7 => repeat (first | exact (Kd.R_reads' HO_7.out).2.2 | (with_reducible refine Kd.C_alloc ?_ _) | (with_reducible refine Kd.C_drewN ?_ _) | (with_reducible refine Kd.C_drew ?_)))
        (case side8 => exact (Kd.R_reads' HO_7.out).2.1)
        rintro e w25 ⟨rfl, hb⟩
        have HS5_ := (hb.cell (World.block_lt_of_cell? _ _ (hHeld.2.2.2.2.2))).trans (hHeld.2.2.2.2.2)
        refine ⟨_, rfl, ?_⟩
        have n0_ := Aside0.mk (Kd.R_below (by (with_reducible repeat (first | apply Kd.R_alloc | apply Kd.R_drewN | apply Kd.R_drew)); exact HO_5.out) hb)
        have n1_ := Aside0.mk (Kd.R_below (by (with_reducible repeat (first | apply Kd.R_alloc | apply Kd.R_drewN | apply Kd.R_drew)); exact HO_7.out) hb)
        have n2_ := Aside0.mk (blk_below (g := gb264) (o := .cells #[.slice A1_0 l1_0.length c1_0, .int .i64 a1_1, .int .i64 a1_2, .int .i64 a1_3, .slice A1_4 l1_4.length c1_4] 29 (0, 0)) z27 hb)
        have n3_ := Aside0.mk (below_step z12 hb)
        clear HO_5
        clear HO_7
        clear BK264
        clear HB
        have HO_5 := n0_
        have HO_7 := n1_
        have BK264 := n2_
        have HB := n3_
        clear n0_ n1_ n2_ n3_
        (try clear hb)
        (try clear hb2)
        (try clear hk)
        (try clear hi)
        refine hK.out _ _ ⟨(blk_cell BK264.out 0).trans rfl, (blk_cell BK264.out 1).trans rfl, (blk_cell BK264.out 2).trans rfl, (blk_cell BK264.out 3).trans rfl, (blk_cell BK264.out 4).trans rfl, HS5_⟩ (fun hHeld => ?_)
        clear hK K
        refine norm_ (a' := ?_) ?_ ?_
        rotate_left
        ·show Act.put _ (some 39) _ = _
         simp only [Act.put, lA1, lA2, lA3, i64_w, i32_w]
         rfl
        refine pS 8 40 #[true, true, true, true, true, true, true, true, true] ?_ (hc := (any_of HT_.out (by kernel_rfl)))
        refine done_ (done_of HT_.out (by kernel_rfl)) ?_
        try go_wp2
        go_ret
        exact ⟨by first | rfl | (simp [errW_none, errW_some] <;> rfl) | (simp [*, errW_none, errW_some] <;> rfl), by repeat (first | (with_reducible first | exact HB.out | apply below_alloc | apply pw_below_drewN | apply below_drew1 | refine below_set ?_ GE264.out) | exact HB.out)⟩
      ·rw [if_neg c17] at H
       exact absurd H (by simp)
     ·rw [if_neg c16] at H
      have c16b0 : decide (x8_1 < (t266.length : Int)) = false := decide_eq_false c16
      clear c16
      obtain rfl := Option.some.inj H
      go_wp2
      go_ret
      exact ⟨by first | rfl | (simp [errW_none, errW_some] <;> rfl) | (simp [*, errW_none, errW_some] <;> rfl), by repeat (first | (with_reducible first | exact HB.out | apply below_alloc | apply pw_below_drewN | apply below_drew1 | refine below_set ?_ GE264.out) | exact HB.out)⟩
  ·replace c6 := Bool.eq_false_iff.mpr c6
   subst c6
   rw [if_neg (show ¬ (false = true) by decide)] at H
   obtain rfl := Option.some.inj H
   go_enter Try.func34, Try.ntmps34
   go_wp2_with (first | ((with_reducible refine gate_dst (N := 3) rfl ?_); refine box_event ?hg (N := 3) ?hd (cs := #[.slice A1_0 l1_0.length c1_0, .int .i64 a1_1, .int .i64 a1_2, .int .i64 a1_3, .slice A1_4 l1_4.length c1_4]) (t := 29) ?hr ?_; (case hd => rfl); (case hg => rfl); (case hr => first | (go_simp; done) | (go_simp; rfl)); intro gb264 hg w26 hbox hb; have BK264 := Aside0.mk (hbox); have GW264 := Aside0.mk ((by rw [hg]; exact (below_size z1) : w.heap.size ≤ gb264)); have GE264 := Aside0.mk ((by rw [hg]; exact (below_size z1) : w.heap.size ≤ gb264)); replace HB := Aside0.mk (below_step z1 hb); clear hb hbox hg; obtain ⟨hcz27_0, hcz27_1, hcz27_2, hcz27_3, hcz27_4, hfz27_0, hfz27_1, hfz27_2, hfz27_3, hfz27_4⟩ := cbf5 BK264) | ((with_reducible refine gate_callee (f := 65) rfl ?_); refine goesL_ (some 11) rfl rfl Try.func65 (by kernel_rfl) rfl #[.slice A0 l0.length c0, .agg #[.slice A1_0 l1_0.length c1_0, .int .i64 a1_1, .int .i64 a1_2, .int .i64 a1_3, .slice A1_4 l1_4.length c1_4]] rfl z2 ?_; (with_reducible refine (spec_l21Bounds.calls k _ _ l0 _ _ l1_0 a1_1 a1_2 a1_3 _ _ l1_4 true _ ?side1 ?side2 ?side3 ?side4 ?side5 ?side6 A3.out).mono ?_); (case side1 => repeat (first | exact (Kd.C_below HR0.out HB.out) | (with_reducible refine Kd.C_alloc ?_ _) | (with_reducible refine Kd.C_drewN ?_ _) | (with_reducible refine Kd.C_drew ?_))); (case side2 => exact HC0.out); (case side3 => repeat (first | exact (Kd.C_below HR1_0.out HB.out) | (with_reducible refine Kd.C_alloc ?_ _) | (with_reducible refine Kd.C_drewN ?_ _) | (with_reducible refine Kd.C_drew ?_))); (case side4 => exact HC1_0.out); (case side5 => repeat (first | exact (Kd.C_below HR1_4.out HB.out) | (with_reducible refine Kd.C_alloc ?_ _) | (with_reducible refine Kd.C_drewN ?_ _) | (with_reducible refine Kd.C_drew ?_))); (case side6 => exact HC1_4.out); rintro e w28 ⟨rfl, hb⟩; refine ⟨_, rfl, ?_⟩; replace BK264 := Aside0.mk (blk_below (g := gb264) (o := .cells #[.slice A1_0 l1_0.length c1_0, .int .i64 a1_1, .int .i64 a1_2, .int .i64 a1_3, .slice A1_4 l1_4.length c1_4] 29 (0, 0)) z27 hb); replace HB := Aside0.mk (below_step z12 hb); (try clear hb); (try clear hb2); (try clear hk); (try clear hi); obtain ⟨hcz29_0, hcz29_1, hcz29_2, hcz29_3, hcz29_4, hfz29_0, hfz29_1, hfz29_2, hfz29_3, hfz29_4⟩ := cbf5 BK264) | ((with_reducible refine gate_callee (f := 37) rfl ?_); refine goesL_ (some 16) rfl rfl Try.func37 (by kernel_rfl) rfl #[.slice A0 l0.length c0, .agg #[.slice A1_0 l1_0.length c1_0, .int .i64 a1_1, .int .i64 a1_2, .int .i64 a1_3, .slice A1_4 l1_4.length c1_4]] rfl z2 ?_; (with_reducible refine (spec_l21Walk.calls k _ _ l0 _ _ l1_0 a1_1 a1_2 a1_3 _ _ l1_4 t266 false _ ?side1 ?side2 ?side3 ?side4 ?side5 ?side6 A5.out).mono ?_); (case side1 => repeat (first | exact (Kd.C_below HR0.out HB.out) | (with_reducible refine Kd.C_alloc ?_ _) | (with_reducible refine Kd.C_drewN ?_ _) | (with_reducible refine Kd.C_drew ?_))); (case side2 => exact HC0.out); (case side3 => repeat (first | exact (Kd.C_below HR1_0.out HB.out) | (with_reducible refine Kd.C_alloc ?_ _) | (with_reducible refine Kd.C_drewN ?_ _) | (with_reducible refine Kd.C_drew ?_))); (case side4 => exact HC1_0.out); (case side5 => repeat (first | exact (Kd.C_below HR1_4.out HB.out) | (with_reducible refine Kd.C_alloc ?_ _) | (with_reducible refine Kd.C_drewN ?_ _) | (with_reducible refine Kd.C_drew ?_))); (case side6 => exact HC1_4.out); rintro e w30 ⟨v267, rfl, ho0, hb⟩; refine ⟨_, rfl, ?_⟩; have HO268 := Aside0.mk (Kd.R_lower ho0 (below_size z12)); replace BK264 := Aside0.mk (blk_below (g := gb264) (o := .cells #[.slice A1_0 l1_0.length c1_0, .int .i64 a1_1, .int .i64 a1_2, .int .i64 a1_3, .slice A1_4 l1_4.length c1_4] 29 (0, 0)) z27 hb); replace HB := Aside0.mk (below_step z12 hb); (try clear hb); (try clear hb2); (try clear hk); (try clear hi); (try clear ho0)))
   go_ret
   exact ⟨by first | rfl | (simp [errW_none, errW_some] <;> rfl) | (simp [*, errW_none, errW_some] <;> rfl), by repeat (first | (with_reducible first | exact HB.out | apply below_alloc | apply pw_below_drewN | apply below_drew1 | refine below_set ?_ GE264.out) | exact HB.out)⟩
 ·replace c4 := Bool.eq_false_iff.mpr c4
  subst c4
  rw [if_neg (show ¬ (false = true) by decide)] at H
  obtain rfl := Option.some.inj H
  go_enter Try.func34, Try.ntmps34
  go_wp2_with (first | ((with_reducible refine gate_dst (N := 3) rfl ?_); refine box_event ?hg (N := 3) ?hd (cs := #[.slice A1_0 l1_0.length c1_0, .int .i64 a1_1, .int .i64 a1_2, .int .i64 a1_3, .slice A1_4 l1_4.length c1_4]) (t := 29) ?hr ?_; (case hd => rfl); (case hg => rfl); (case hr => first | (go_simp; done) | (go_simp; rfl)); intro gb264 hg w31 hbox hb; have BK264 := Aside0.mk (hbox); have GW264 := Aside0.mk ((by rw [hg]; exact (below_size z1) : w.heap.size ≤ gb264)); have GE264 := Aside0.mk ((by rw [hg]; exact (below_size z1) : w.heap.size ≤ gb264)); replace HB := Aside0.mk (below_step z1 hb); clear hb hbox hg; obtain ⟨hcz32_0, hcz32_1, hcz32_2, hcz32_3, hcz32_4, hfz32_0, hfz32_1, hfz32_2, hfz32_3, hfz32_4⟩ := cbf5 BK264) | ((with_reducible refine gate_callee (f := 65) rfl ?_); refine goesL_ (some 11) rfl rfl Try.func65 (by kernel_rfl) rfl #[.slice A0 l0.length c0, .agg #[.slice A1_0 l1_0.length c1_0, .int .i64 a1_1, .int .i64 a1_2, .int .i64 a1_3, .slice A1_4 l1_4.length c1_4]] rfl z2 ?_; (with_reducible refine (spec_l21Bounds.calls k _ _ l0 _ _ l1_0 a1_1 a1_2 a1_3 _ _ l1_4 false _ ?side1 ?side2 ?side3 ?side4 ?side5 ?side6 A3.out).mono ?_); (case side1 => repeat (first | exact (Kd.C_below HR0.out HB.out) | (with_reducible refine Kd.C_alloc ?_ _) | (with_reducible refine Kd.C_drewN ?_ _) | (with_reducible refine Kd.C_drew ?_))); (case side2 => exact HC0.out); (case side3 => repeat (first | exact (Kd.C_below HR1_0.out HB.out) | (with_reducible refine Kd.C_alloc ?_ _) | (with_reducible refine Kd.C_drewN ?_ _) | (with_reducible refine Kd.C_drew ?_))); (case side4 => exact HC1_0.out); (case side5 => repeat (first | exact (Kd.C_below HR1_4.out HB.out) | (with_reducible refine Kd.C_alloc ?_ _) | (with_reducible refine Kd.C_drewN ?_ _) | (with_reducible refine Kd.C_drew ?_))); (case side6 => exact HC1_4.out); rintro e w33 ⟨rfl, hb⟩; refine ⟨_, rfl, ?_⟩; replace BK264 := Aside0.mk (blk_below (g := gb264) (o := .cells #[.slice A1_0 l1_0.length c1_0, .int .i64 a1_1, .int .i64 a1_2, .int .i64 a1_3, .slice A1_4 l1_4.length c1_4] 29 (0, 0)) z27 hb); replace HB := Aside0.mk (below_step z12 hb); (try clear hb); (try clear hb2); (try clear hk); (try clear hi)))
  go_ret
  exact ⟨by first | rfl | (simp [errW_none, errW_some] <;> rfl) | (simp [*, errW_none, errW_some] <;> rfl), by repeat (first | (with_reducible first | exact HB.out | apply below_alloc | apply pw_below_drewN | apply below_drew1 | refine below_set ?_ GE264.out) | exact HB.out)⟩
end Go.Proofs.Ytmniglgahodghaa.K
namespace Go.Proofs.Ytmniglgahodghaa.K
open Go.RowKit Go.Proofs.YtmniglgahodghaaW.PrintWords Go.Proofs.YtmniglgahodghaaW.PrintLast Go.Proofs.YtmniglgahodghaaW.PrintMore
attribute [local go_sem] max2_int min2_int max_two min_two max_three min_three max_four min_four
set_option linter.unusedVariables false
set_option linter.unusedSimpArgs false
def spec_l21Copy.f (l0_0 : List Int) (a0_1 : Int) (a0_2 : Int) (a0_3 : Int) (l0_4 : List Bool) : Option (List Int × Int × Int × Int × List Bool) := (some (([] : List Int) : List Int)).bind fun y278 => (if y278.length + l0_0.length < 17592186044416 then ((some (([] : List Bool) : List Bool)).bind fun y284 => (if y284.length + l0_4.length < 140737488355328 then (some ((y278 ++ l0_0), a0_1, a0_2, a0_3, (y284 ++ l0_4))) else (none))) else (none))
set_option maxHeartbeats 8000000 in
set_option maxRecDepth 100000 in
theorem spec_l21Copy.calls (A0_0 : Option Addr) (c0_0 : Nat) (l0_0 : List Int) (a0_1 : Int) (a0_2 : Int) (a0_3 : Int) (A0_4 : Option Addr) (c0_4 : Nat) (l0_4 : List Bool) (r1 : List Int) (r2 : Int) (r3 : Int) (r4 : Int) (r5 : List Bool) (w : World) (hr0_0 : Kd.C (Kd.int .i64) w A0_0 l0_0.length l0_0) (hc0_0 : l0_0.length ≤ c0_0) (hr0_4 : Kd.C Kd.bool w A0_4 l0_4.length l0_4) (hc0_4 : l0_4.length ≤ c0_4) (h : spec_l21Copy.f l0_0 a0_1 a0_2 a0_3 l0_4 = some (r1, r2, r3, r4, r5)) :
  Calls Try.prog 42 #[.agg #[.slice A0_0 l0_0.length c0_0, .int .i64 a0_1, .int .i64 a0_2, .int .i64 a0_3, .slice A0_4 l0_4.length c0_4]] w fun e w' => ∃ v0_ v4_ : Value, e = .returned (.agg #[v0_, .int .i64 r2, .int .i64 r3, .int .i64 r4, v4_]) ∧ Kd.R (Kd.int .i64) 3 w' w.heap.size (fun _ => True) v0_ r1 ∧ Kd.R Kd.bool 4 w' w.heap.size (fun _ => True) v4_ r5 ∧ Below w.heap.size w w' := by
 have hu29 := Try.underlying29
 have HR0_0 := Aside0.mk hr0_0
 have HC0_0 := Aside0.mk hc0_0
 clear hr0_0 hc0_0
 have HR0_4 := Aside0.mk hr0_4
 have HC0_4 := Aside0.mk hc0_4
 clear hr0_4 hc0_4
 have HB := Aside0.mk (Below.refl w.heap.size w)
 have H : ((some (([] : List Int) : List Int)).bind fun y278 => (if y278.length + l0_0.length < 17592186044416 then ((some (([] : List Bool) : List Bool)).bind fun y284 => (if y284.length + l0_4.length < 140737488355328 then (some ((y278 ++ l0_0), a0_1, a0_2, a0_3, (y284 ++ l0_4))) else (none))) else (none))) = some (r1, r2, r3, r4, r5) := h
 clear h
 obtain ⟨y278, hy278⟩ : ∃ y_ : List Int, y_ = (([] : List Int)) := ⟨_, rfl⟩
 replace H : (if y278.length + l0_0.length < 17592186044416 then ((some (([] : List Bool) : List Bool)).bind fun y284 => (if y284.length + l0_4.length < 140737488355328 then (some ((y278 ++ l0_0), a0_1, a0_2, a0_3, (y284 ++ l0_4))) else (none))) else (none)) = some (r1, r2, r3, r4, r5) := by first | (rw [hy278]; with_reducible exact H) | (have H2_ := (Option.bind_some _ _).symm.trans H; rw [hy278]; with_reducible exact H2_) | (have H2_ := (Option.bind_some _ _).symm.trans H; with_reducible exact H2_) | with_reducible exact H | (rw [hy278]; exact H) | exact H
 have Ny278 := Aside0.mk hy278
 clear hy278
 by_cases c2 : y278.length + l0_0.length < 17592186044416
 ·rw [if_pos c2] at H
  have LMc2 := Aside0.mk c2
  clear c2
  obtain ⟨y281, hy281⟩ : ∃ y_ : List Int, y_ = (y278 ++ l0_0) := ⟨_, rfl⟩
  replace H : ((some (([] : List Bool) : List Bool)).bind fun y284 => (if y284.length + l0_4.length < 140737488355328 then (some (y281, a0_1, a0_2, a0_3, (y284 ++ l0_4))) else (none))) = some (r1, r2, r3, r4, r5) := by first | (rw [hy281]; with_reducible exact H) | (have H2_ := (Option.bind_some _ _).symm.trans H; rw [hy281]; with_reducible exact H2_) | (have H2_ := (Option.bind_some _ _).symm.trans H; with_reducible exact H2_) | with_reducible exact H | (rw [hy281]; exact H) | exact H
  have Ny281 := Aside0.mk hy281
  clear hy281
  obtain ⟨y284, hy284⟩ : ∃ y_ : List Bool, y_ = (([] : List Bool)) := ⟨_, rfl⟩
  replace H : (if y284.length + l0_4.length < 140737488355328 then (some (y281, a0_1, a0_2, a0_3, (y284 ++ l0_4))) else (none)) = some (r1, r2, r3, r4, r5) := by first | (rw [hy284]; with_reducible exact H) | (have H2_ := (Option.bind_some _ _).symm.trans H; rw [hy284]; with_reducible exact H2_) | (have H2_ := (Option.bind_some _ _).symm.trans H; with_reducible exact H2_) | with_reducible exact H | (rw [hy284]; exact H) | exact H
  have Ny284 := Aside0.mk hy284
  clear hy284
  by_cases c3 : y284.length + l0_4.length < 140737488355328
  ·rw [if_pos c3] at H
   have LMc3 := Aside0.mk c3
   clear c3
   obtain ⟨y287, hy287⟩ : ∃ y_ : List Bool, y_ = (y284 ++ l0_4) := ⟨_, rfl⟩
   replace H : (some (y281, a0_1, a0_2, a0_3, y287)) = some (r1, r2, r3, r4, r5) := by first | (rw [hy287]; with_reducible exact H) | (have H2_ := (Option.bind_some _ _).symm.trans H; rw [hy287]; with_reducible exact H2_) | (have H2_ := (Option.bind_some _ _).symm.trans H; with_reducible exact H2_) | with_reducible exact H | (rw [hy287]; exact H) | exact H
   have Ny287 := Aside0.mk hy287
   clear hy287
   simp only [Option.some.injEq, Prod.mk.injEq] at H
   obtain ⟨rfl, rfl, rfl, rfl, rfl⟩ := H
   go_enter Try.func42, Try.ntmps42
   go_wp2_with (first | ((with_reducible refine gate_dst (N := 1) rfl ?_); refine box_event ?hg (N := 1) ?hd (cs := #[.slice A0_0 l0_0.length c0_0, .int .i64 a0_1, .int .i64 a0_2, .int .i64 a0_3, .slice A0_4 l0_4.length c0_4]) (t := 29) ?hr ?_; (case hd => rfl); (case hg => rfl); (case hr => first | (go_simp; done) | (go_simp; rfl)); intro gb275 hg w4 hbox hb; have BK275 := Aside0.mk (hbox); have GW275 := Aside0.mk ((by rw [hg]; exact (below_size z1) : w.heap.size ≤ gb275)); have GE275 := Aside0.mk ((by rw [hg]; exact (below_size z1) : w.heap.size ≤ gb275)); replace HB := Aside0.mk (below_step z1 hb); clear hb hbox hg) | ((with_reducible refine gate_dst (N := 2) rfl ?_); refine box_event ?hg (N := 2) ?hd (cs := #[.slice none 0 0, .int .i64 0, .int .i64 0, .int .i64 0, .slice none 0 0]) (t := 29) ?hr ?_; (case hd => rfl); (case hg => rfl); (case hr => first | (go_simp; done) | (go_simp; rfl)); intro gb276 hg w5 hbox hb; have BK276 := Aside0.mk (hbox); have GW276 := Aside0.mk ((by rw [hg]; exact (below_size (by repeat (first | (with_reducible first | exact HB.out | apply below_alloc | apply pw_below_drewN | apply below_drew1 | refine below_set ?_ GE275.out) | exact HB.out))) : w.heap.size ≤ gb276)); have GE276 := Aside0.mk ((by rw [hg]; exact (below_size (by repeat (first | (with_reducible first | exact HB.out | apply below_alloc | apply pw_below_drewN | apply below_drew1 | refine below_set ?_ GE275.out) | exact HB.out))) : w.heap.size ≤ gb276)); have NB275_276 := Aside0.mk ((by rw [hg]; exact Nat.ne_of_lt (blk_lt (g := gb275) (o := .cells #[.slice A0_0 l0_0.length c0_0, .int .i64 a0_1, .int .i64 a0_2, .int .i64 a0_3, .slice A0_4 l0_4.length c0_4] 29 (0, 0)) z26) : gb275 ≠ gb276)); have NB276_275 := Aside0.mk ((by rw [hg]; exact Nat.ne_of_gt (blk_lt (g := gb275) (o := .cells #[.slice A0_0 l0_0.length c0_0, .int .i64 a0_1, .int .i64 a0_2, .int .i64 a0_3, .slice A0_4 l0_4.length c0_4] 29 (0, 0)) z26) : gb276 ≠ gb275)); replace BK275 := Aside0.mk (blk_below (g := gb275) (o := .cells #[.slice A0_0 l0_0.length c0_0, .int .i64 a0_1, .int .i64 a0_2, .int .i64 a0_3, .slice A0_4 l0_4.length c0_4] 29 (0, 0)) z26 hb); replace HB := Aside0.mk (below_step (by repeat (first | (with_reducible first | exact HB.out | apply below_alloc | apply pw_below_drewN | apply below_drew1 | refine below_set ?_ GE275.out) | exact HB.out)) hb); clear hb hbox hg; have hnb6 := NB275_276.out; have hnc6 := NB276_275.out; obtain ⟨hcz7_0, hcz7_1, hcz7_2, hcz7_3, hcz7_4, hfz7_0, hfz7_1, hfz7_2, hfz7_3, hfz7_4⟩ := cbf5 BK275) | ((with_reducible refine gate_dst (N := 3) rfl ?_); refine box_event ?hg (N := 3) ?hd (cs := #[.slice none 0 0, .int .i64 0, .int .i64 0, .int .i64 0, .slice none 0 0]) (t := 29) ?hr ?_; (case hd => rfl); (case hg => rfl); (case hr => first | (go_simp; done) | (go_simp; rfl)); intro gb277 hg w8 hbox hb; have BK277 := Aside0.mk (hbox); have GW277 := Aside0.mk ((by rw [hg]; exact (below_size z50) : w.heap.size ≤ gb277)); have GE277 := Aside0.mk ((by rw [hg]; exact (below_size z50) : w.heap.size ≤ gb277)); have NB275_277 := Aside0.mk ((by rw [hg]; exact Nat.ne_of_lt (blk_lt (g := gb275) (o := .cells #[.slice A0_0 l0_0.length c0_0, .int .i64 a0_1, .int .i64 a0_2, .int .i64 a0_3, .slice A0_4 l0_4.length c0_4] 29 (0, 0)) z26) : gb275 ≠ gb277)); have NB277_275 := Aside0.mk ((by rw [hg]; exact Nat.ne_of_gt (blk_lt (g := gb275) (o := .cells #[.slice A0_0 l0_0.length c0_0, .int .i64 a0_1, .int .i64 a0_2, .int .i64 a0_3, .slice A0_4 l0_4.length c0_4] 29 (0, 0)) z26) : gb277 ≠ gb275)); have NB276_277 := Aside0.mk ((by rw [hg]; exact Nat.ne_of_lt (blk_lt (g := gb276) (o := .cells #[.slice none 0 0, .int .i64 0, .int .i64 0, .int .i64 0, .slice none 0 0] 29 (0, 0)) z44) : gb276 ≠ gb277)); have NB277_276 := Aside0.mk ((by rw [hg]; exact Nat.ne_of_gt (blk_lt (g := gb276) (o := .cells #[.slice none 0 0, .int .i64 0, .int .i64 0, .int .i64 0, .slice none 0 0] 29 (0, 0)) z44) : gb277 ≠ gb276)); replace BK275 := Aside0.mk (blk_below (g := gb275) (o := .cells #[.slice A0_0 l0_0.length c0_0, .int .i64 a0_1, .int .i64 a0_2, .int .i64 a0_3, .slice A0_4 l0_4.length c0_4] 29 (0, 0)) z26 hb); replace BK276 := Aside0.mk (blk_below (g := gb276) (o := .cells #[.slice none 0 0, .int .i64 0, .int .i64 0, .int .i64 0, .slice none 0 0] 29 (0, 0)) z44 hb); replace HB := Aside0.mk (below_step z50 hb); clear hb hbox hg; have hnb9 := NB277_275.out; have hnc9 := NB275_277.out; have hnb10 := NB277_276.out; have hnc10 := NB276_277.out; obtain ⟨hcz11_0, hcz11_1, hcz11_2, hcz11_3, hcz11_4, hfz11_0, hfz11_1, hfz11_2, hfz11_3, hfz11_4⟩ := cbf5 BK277) | ((with_reducible refine gate_dst (N := 5) rfl ?_); refine Kd.R_lit (Kd.int .i64) _ 3 ?hg (N := 5) ?hd (xs := ([] : List Int)) (inner := []) (ok := fun _ => True) (okp := fun _ => True) ?hr ?hp (fun _ hk => hk) trivial (Below.refl _ _) (Nat.le_refl _) (by simp) ?_; (case hd => rfl); (case hg => rfl); (case hr => first | (go_simp; done) | (go_simp; rfl)); (case hp => exact (Reps.none _ _)); intro v279 w12 ho13 hb hg_ hnew_; clear hg_ hnew_; (first | rw [← Ny278.out] at ho13 | (simp only [Int.reduceToNat] at ho13; rw [← Ny278.out] at ho13)); have HO280 := Aside0.mk (Kd.R_lower ho13 (below_size z13)); replace BK275 := Aside0.mk (blk_below (g := gb275) (o := .cells #[.slice A0_0 l0_0.length c0_0, .int .i64 a0_1, .int .i64 a0_2, .int .i64 a0_3, .slice A0_4 l0_4.length c0_4] 29 (0, 0)) (by (with_reducible repeat (first | refine blk_drewN ?_ _ | refine blk_drew ?_ | refine blk_alloc ?_ _)); refine blk_far ?_ NB275_277.out _; (with_reducible repeat (first | refine blk_drewN ?_ _ | refine blk_drew ?_ | refine blk_alloc ?_ _)); refine blk_far ?_ NB275_277.out _; (with_reducible repeat (first | refine blk_drewN ?_ _ | refine blk_drew ?_ | refine blk_alloc ?_ _)); refine blk_far ?_ NB275_277.out _; (with_reducible repeat (first | refine blk_drewN ?_ _ | refine blk_drew ?_ | refine blk_alloc ?_ _)); refine blk_far ?_ NB275_277.out _; (with_reducible repeat (first | refine blk_drewN ?_ _ | refine blk_drew ?_ | refine blk_alloc ?_ _)); refine blk_far ?_ NB275_277.out _; (with_reducible repeat (first | refine blk_drewN ?_ _ | refine blk_drew ?_ | refine blk_alloc ?_ _)); exact BK275.out) hb); replace BK276 := Aside0.mk (blk_below (g := gb276) (o := .cells #[.slice none 0 0, .int .i64 0, .int .i64 0, .int .i64 0, .slice none 0 0] 29 (0, 0)) (by (with_reducible repeat (first | refine blk_drewN ?_ _ | refine blk_drew ?_ | refine blk_alloc ?_ _)); refine blk_far ?_ NB276_277.out _; (with_reducible repeat (first | refine blk_drewN ?_ _ | refine blk_drew ?_ | refine blk_alloc ?_ _)); refine blk_far ?_ NB276_277.out _; (with_reducible repeat (first | refine blk_drewN ?_ _ | refine blk_drew ?_ | refine blk_alloc ?_ _)); refine blk_far ?_ NB276_277.out _; (with_reducible repeat (first | refine blk_drewN ?_ _ | refine blk_drew ?_ | refine blk_alloc ?_ _)); refine blk_far ?_ NB276_277.out _; (with_reducible repeat (first | refine blk_drewN ?_ _ | refine blk_drew ?_ | refine blk_alloc ?_ _)); refine blk_far ?_ NB276_277.out _; (with_reducible repeat (first | refine blk_drewN ?_ _ | refine blk_drew ?_ | refine blk_alloc ?_ _)); exact BK276.out) hb); replace BK277 := Aside0.mk (blk_below (g := gb277) (o := .cells #[.slice A0_0 l0_0.length c0_0, .int .i64 a0_1, .int .i64 a0_2, .int .i64 a0_3, .slice A0_4 l0_4.length c0_4] 29 (0, 0)) (by (with_reducible repeat (first | refine blk_drewN ?_ _ | refine blk_drew ?_ | refine blk_alloc ?_ _)); refine blk_put (cs := #[.slice A0_0 l0_0.length c0_0, .int .i64 a0_1, .int .i64 a0_2, .int .i64 a0_3, .slice none 0 0]) ?_ 4 _ rfl; (with_reducible repeat (first | refine blk_drewN ?_ _ | refine blk_drew ?_ | refine blk_alloc ?_ _)); refine blk_put (cs := #[.slice A0_0 l0_0.length c0_0, .int .i64 a0_1, .int .i64 a0_2, .int .i64 0, .slice none 0 0]) ?_ 3 _ rfl; (with_reducible repeat (first | refine blk_drewN ?_ _ | refine blk_drew ?_ | refine blk_alloc ?_ _)); refine blk_put (cs := #[.slice A0_0 l0_0.length c0_0, .int .i64 a0_1, .int .i64 0, .int .i64 0, .slice none 0 0]) ?_ 2 _ rfl; (with_reducible repeat (first | refine blk_drewN ?_ _ | refine blk_drew ?_ | refine blk_alloc ?_ _)); refine blk_put (cs := #[.slice A0_0 l0_0.length c0_0, .int .i64 0, .int .i64 0, .int .i64 0, .slice none 0 0]) ?_ 1 _ rfl; (with_reducible repeat (first | refine blk_drewN ?_ _ | refine blk_drew ?_ | refine blk_alloc ?_ _)); refine blk_put (cs := #[.slice none 0 0, .int .i64 0, .int .i64 0, .int .i64 0, .slice none 0 0]) ?_ 0 _ rfl; (with_reducible repeat (first | refine blk_drewN ?_ _ | refine blk_drew ?_ | refine blk_alloc ?_ _)); exact BK277.out) hb); replace HB := Aside0.mk (below_step z13 hb); clear hb ho13; obtain ⟨hcz14_0, hcz14_1, hcz14_2, hcz14_3, hcz14_4, hfz14_0, hfz14_1, hfz14_2, hfz14_3, hfz14_4⟩ := cbf5 BK275) | ((with_reducible refine gate_builtin (b := .append) (xs := #[.tmp 5, .tmp 7]) rfl ?_); at_builtin; refine Kd.R_append_rows (Kd.int .i64) (w0 := w) w.heap.size rfl (.tmp 5) (.tmp 7) 23 3 (.int .i64 0) 8 rfl Try.underlying23 info3 rfl (by decide) (by omega) v279 y278 l0_0 _ _ _ (fun _ => True) (fun _ => False) rfl rfl ?aO ?aR (fun _ _ h => h) (fun _ h => h.elim) ?aF ?aB ?aS ?aL ?_; (case aR => repeat (first | exact (Kd.C_below HR0_0.out HB.out) | (with_reducible refine Kd.C_alloc ?_ _) | (with_reducible refine Kd.C_drewN ?_ _) | (with_reducible refine Kd.C_drew ?_))); (case aB => exact z13); (case aF => exact (fun _ _ => trivial)); (case aO => exact (by (with_reducible repeat (first | apply Kd.R_alloc | apply Kd.R_drewN | apply Kd.R_drew)); exact HO280.out)); (case aS => exact (below_size z13)); (case aL => have := LMc2.out; omega); intro v282 w15 ho hb hg hat; rw [← Ny281.out] at ho; have n0_ := Aside0.mk (blk_grown (g := gb275) (o := .cells #[.slice A0_0 l0_0.length c0_0, .int .i64 a0_1, .int .i64 a0_2, .int .i64 a0_3, .slice A0_4 l0_4.length c0_4] 29 (0, 0)) z26 hg (Kd.R_ne HO280.out BK275.out (by decide))); have n1_ := Aside0.mk (blk_grown (g := gb276) (o := .cells #[.slice none 0 0, .int .i64 0, .int .i64 0, .int .i64 0, .slice none 0 0] 29 (0, 0)) z44 hg (Kd.R_ne HO280.out BK276.out (by decide))); have n2_ := Aside0.mk (blk_grown (g := gb277) (o := .cells #[.slice A0_0 l0_0.length c0_0, .int .i64 a0_1, .int .i64 a0_2, .int .i64 a0_3, .slice A0_4 l0_4.length c0_4] 29 (0, 0)) (by (with_reducible repeat (first | refine blk_drewN ?_ _ | refine blk_drew ?_ | refine blk_alloc ?_ _)); exact BK277.out) hg (Kd.R_ne HO280.out BK277.out (by decide))); have n3_ := Aside0.mk (hb); have n4_ := Aside0.mk (ho); clear BK275; clear BK276; clear BK277; clear HB; clear HO280; have BK275 := n0_; have BK276 := n1_; have BK277 := n2_; have HB := n3_; have HO283 := n4_; clear n0_ n1_ n2_ n3_ n4_; clear ho hb hg hat; obtain ⟨Ao16, co16, eo16⟩ := Kd.R_slice HO283.out; subst eo16; obtain ⟨hcz17_0, hcz17_1, hcz17_2, hcz17_3, hcz17_4, hfz17_0, hfz17_1, hfz17_2, hfz17_3, hfz17_4⟩ := cbf5 BK277) | ((with_reducible refine gate_dst (N := 10) rfl ?_); refine Kd.R_lit Kd.bool _ 4 ?hg (N := 10) ?hd (xs := ([] : List Bool)) (inner := []) (ok := fun _ => True) (okp := fun _ => True) ?hr ?hp (fun _ hk => hk) trivial (Below.refl _ _) (Nat.le_refl _) (by simp) ?_; (case hd => rfl); (case hg => rfl); (case hr => first | (go_simp; done) | (go_simp; rfl)); (case hp => exact (Reps.none _ _)); intro v285 w18 ho19 hb hg_ hnew_; clear hg_ hnew_; (first | rw [← Ny284.out] at ho19 | (simp only [Int.reduceToNat] at ho19; rw [← Ny284.out] at ho19)); have HO286 := Aside0.mk (Kd.R_lower ho19 (below_size z13)); replace HO283 := Aside0.mk (Kd.R_below (by (with_reducible repeat (first | apply Kd.R_alloc | apply Kd.R_drewN | apply Kd.R_drew)); exact (Kd.R_mono (Kd.R_far (p := ⟨gb277, 0, none⟩) (Kd.R_types HO283.out BK277.out (by decide)) (fun _ hk => hk.2) (.slice Ao16 y281.length co16)) (fun _ h_ => h_.1))) hb); replace BK275 := Aside0.mk (blk_below (g := gb275) (o := .cells #[.slice A0_0 l0_0.length c0_0, .int .i64 a0_1, .int .i64 a0_2, .int .i64 a0_3, .slice A0_4 l0_4.length c0_4] 29 (0, 0)) (by (with_reducible repeat (first | refine blk_drewN ?_ _ | refine blk_drew ?_ | refine blk_alloc ?_ _)); refine blk_far ?_ NB275_277.out _; (with_reducible repeat (first | refine blk_drewN ?_ _ | refine blk_drew ?_ | refine blk_alloc ?_ _)); exact BK275.out) hb); replace BK276 := Aside0.mk (blk_below (g := gb276) (o := .cells #[.slice none 0 0, .int .i64 0, .int .i64 0, .int .i64 0, .slice none 0 0] 29 (0, 0)) (by (with_reducible repeat (first | refine blk_drewN ?_ _ | refine blk_drew ?_ | refine blk_alloc ?_ _)); refine blk_far ?_ NB276_277.out _; (with_reducible repeat (first | refine blk_drewN ?_ _ | refine blk_drew ?_ | refine blk_alloc ?_ _)); exact BK276.out) hb); replace BK277 := Aside0.mk (blk_below (g := gb277) (o := .cells #[.slice Ao16 y281.length co16, .int .i64 a0_1, .int .i64 a0_2, .int .i64 a0_3, .slice A0_4 l0_4.length c0_4] 29 (0, 0)) (by (with_reducible repeat (first | refine blk_drewN ?_ _ | refine blk_drew ?_ | refine blk_alloc ?_ _)); refine blk_put (cs := #[.slice A0_0 l0_0.length c0_0, .int .i64 a0_1, .int .i64 a0_2, .int .i64 a0_3, .slice A0_4 l0_4.length c0_4]) ?_ 0 _ rfl; (with_reducible repeat (first | refine blk_drewN ?_ _ | refine blk_drew ?_ | refine blk_alloc ?_ _)); exact BK277.out) hb); replace HB := Aside0.mk (below_step z13 hb); clear hb ho19; obtain ⟨hcz20_0, hcz20_1, hcz20_2, hcz20_3, hcz20_4, hfz20_0, hfz20_1, hfz20_2, hfz20_3, hfz20_4⟩ := cbf5 BK275) | ((with_reducible refine gate_builtin (b := .append) (xs := #[.tmp 10, .tmp 12]) rfl ?_); at_builtin; refine Kd.R_append_rows Kd.bool (w0 := w) w.heap.size rfl (.tmp 10) (.tmp 12) 24 4 (.bool false) 1 rfl Try.underlying24 info4 rfl (by decide) (by omega) v285 y284 l0_4 _ _ _ (fun _ => True) (fun _ => False) rfl rfl ?aO ?aR (fun _ _ h => h) (fun _ h => h.elim) ?aF ?aB ?aS ?aL ?_; (case aR => repeat (first | exact (Kd.C_below HR0_4.out HB.out) | (with_reducible refine Kd.C_alloc ?_ _) | (with_reducible refine Kd.C_drewN ?_ _) | (with_reducible refine Kd.C_drew ?_))); (case aB => exact z13); (case aF => exact (fun _ _ => trivial)); (case aO => exact (by (with_reducible repeat (first | apply Kd.R_alloc | apply Kd.R_drewN | apply Kd.R_drew)); exact HO286.out)); (case aS => exact (below_size z13)); (case aL => have := LMc3.out; omega); intro v288 w21 ho hb hg hat; rw [← Ny287.out] at ho; have n0_ := Aside0.mk (blk_grown (g := gb275) (o := .cells #[.slice A0_0 l0_0.length c0_0, .int .i64 a0_1, .int .i64 a0_2, .int .i64 a0_3, .slice A0_4 l0_4.length c0_4] 29 (0, 0)) z26 hg (Kd.R_ne HO286.out BK275.out (by decide))); have n1_ := Aside0.mk (blk_grown (g := gb276) (o := .cells #[.slice none 0 0, .int .i64 0, .int .i64 0, .int .i64 0, .slice none 0 0] 29 (0, 0)) z44 hg (Kd.R_ne HO286.out BK276.out (by decide))); have n2_ := Aside0.mk (blk_grown (g := gb277) (o := .cells #[.slice Ao16 y281.length co16, .int .i64 a0_1, .int .i64 a0_2, .int .i64 a0_3, .slice A0_4 l0_4.length c0_4] 29 (0, 0)) (by (with_reducible repeat (first | refine blk_drewN ?_ _ | refine blk_drew ?_ | refine blk_alloc ?_ _)); exact BK277.out) hg (Kd.R_ne HO286.out BK277.out (by decide))); have n3_ := Aside0.mk (Kd.R_over' (by (with_reducible repeat (first | apply Kd.R_alloc | apply Kd.R_drewN | apply Kd.R_drew)); exact HO283.out) (Kd.R_typed (by (with_reducible repeat (first | apply Kd.R_alloc | apply Kd.R_drewN | apply Kd.R_drew)); exact HO286.out)) (by decide) hg); have n4_ := Aside0.mk (hb); have n5_ := Aside0.mk (ho); clear BK275; clear BK276; clear BK277; clear HO283; clear HB; clear HO286; have BK275 := n0_; have BK276 := n1_; have BK277 := n2_; have HO283 := n3_; have HB := n4_; have HO289 := n5_; clear n0_ n1_ n2_ n3_ n4_ n5_; clear ho hb hg hat; obtain ⟨Ao22, co22, eo22⟩ := Kd.R_slice HO289.out; subst eo22; obtain ⟨hcz23_0, hcz23_1, hcz23_2, hcz23_3, hcz23_4, hfz23_0, hfz23_1, hfz23_2, hfz23_3, hfz23_4⟩ := cbf5 BK277; obtain ⟨hcz24_0, hcz24_1, hcz24_2, hcz24_3, hcz24_4, hfz24_0, hfz24_1, hfz24_2, hfz24_3, hfz24_4⟩ := cbf5 BK276))
   refine bodyPost_ret (results_cell_row rfl _ _ gb276 29 #[.slice Ao16 y281.length co16, .int .i64 a0_1, .int .i64 a0_2, .int .i64 a0_3, .slice Ao22 y287.length co22] (0, 0) _ rfl (by (with_reducible repeat (first | refine blk_drewN ?_ _ | refine blk_drew ?_ | refine blk_alloc ?_ _)); refine blk_put (cs := #[.slice Ao16 y281.length co16, .int .i64 a0_1, .int .i64 a0_2, .int .i64 a0_3, .slice none 0 0]) ?_ 4 _ rfl; (with_reducible repeat (first | refine blk_drewN ?_ _ | refine blk_drew ?_ | refine blk_alloc ?_ _)); refine blk_put (cs := #[.slice Ao16 y281.length co16, .int .i64 a0_1, .int .i64 a0_2, .int .i64 0, .slice none 0 0]) ?_ 3 _ rfl; (with_reducible repeat (first | refine blk_drewN ?_ _ | refine blk_drew ?_ | refine blk_alloc ?_ _)); refine blk_put (cs := #[.slice Ao16 y281.length co16, .int .i64 a0_1, .int .i64 0, .int .i64 0, .slice none 0 0]) ?_ 2 _ rfl; (with_reducible repeat (first | refine blk_drewN ?_ _ | refine blk_drew ?_ | refine blk_alloc ?_ _)); refine blk_put (cs := #[.slice Ao16 y281.length co16, .int .i64 0, .int .i64 0, .int .i64 0, .slice none 0 0]) ?_ 1 _ rfl; (with_reducible repeat (first | refine blk_drewN ?_ _ | refine blk_drew ?_ | refine blk_alloc ?_ _)); refine blk_put (cs := #[.slice none 0 0, .int .i64 0, .int .i64 0, .int .i64 0, .slice none 0 0]) ?_ 0 _ rfl; (with_reducible repeat (first | refine blk_drewN ?_ _ | refine blk_drew ?_ | refine blk_alloc ?_ _)); refine blk_far ?_ NB276_277.out _; (with_reducible repeat (first | refine blk_drewN ?_ _ | refine blk_drew ?_ | refine blk_alloc ?_ _)); exact BK276.out) Try.underlying29 rfl (by kernel_rfl)) rfl ?_
   exact ⟨_, _, by first | rfl | (simp [errW_none, errW_some] <;> rfl) | (simp [*, errW_none, errW_some] <;> rfl), by (with_reducible repeat (first | apply Kd.R_alloc | apply Kd.R_drewN | apply Kd.R_drew)); exact Kd.R_mono (Kd.R_far (p := ⟨gb276, 4, none⟩) (Kd.R_far (p := ⟨gb276, 3, none⟩) (Kd.R_far (p := ⟨gb276, 2, none⟩) (Kd.R_far (p := ⟨gb276, 1, none⟩) (Kd.R_far (p := ⟨gb276, 0, none⟩) (Kd.R_far (p := ⟨gb277, 4, none⟩) (Kd.R_types (Kd.R_types HO283.out BK277.out (by decide)) BK276.out (by decide)) (fun _ hk => hk.1.2) (.slice Ao22 y287.length co22)) (fun _ hk => hk.2) (.slice Ao16 y281.length co16)) (fun _ hk => hk.2) (.int .i64 a0_1)) (fun _ hk => hk.2) (.int .i64 a0_2)) (fun _ hk => hk.2) (.int .i64 a0_3)) (fun _ hk => hk.2) (.slice Ao22 y287.length co22)) (fun _ hk => trivial), by (with_reducible repeat (first | apply Kd.R_alloc | apply Kd.R_drewN | apply Kd.R_drew)); exact Kd.R_mono (Kd.R_far (p := ⟨gb276, 4, none⟩) (Kd.R_far (p := ⟨gb276, 3, none⟩) (Kd.R_far (p := ⟨gb276, 2, none⟩) (Kd.R_far (p := ⟨gb276, 1, none⟩) (Kd.R_far (p := ⟨gb276, 0, none⟩) (Kd.R_far (p := ⟨gb277, 4, none⟩) (Kd.R_types (Kd.R_types HO289.out BK277.out (by decide)) BK276.out (by decide)) (fun _ hk => hk.1.2) (.slice Ao22 y287.length co22)) (fun _ hk => hk.2) (.slice Ao16 y281.length co16)) (fun _ hk => hk.2) (.int .i64 a0_1)) (fun _ hk => hk.2) (.int .i64 a0_2)) (fun _ hk => hk.2) (.int .i64 a0_3)) (fun _ hk => hk.2) (.slice Ao22 y287.length co22)) (fun _ hk => trivial), by repeat (first | (with_reducible first | exact HB.out | apply below_alloc | apply pw_below_drewN | apply below_drew1 | refine below_set ?_ GE275.out | refine below_set ?_ GE276.out | refine below_set ?_ GE277.out) | exact HB.out)⟩
  ·rw [if_neg c3] at H
   exact absurd H (by simp)
 ·rw [if_neg c2] at H
  exact absurd H (by simp)
end Go.Proofs.Ytmniglgahodghaa.K
namespace Go.Proofs.Ytmniglgahodghaa.K
open Go.RowKit Go.Proofs.YtmniglgahodghaaW.PrintWords Go.Proofs.YtmniglgahodghaaW.PrintLast Go.Proofs.YtmniglgahodghaaW.PrintMore
attribute [local go_sem] max2_int min2_int max_two min_two max_three min_three max_four min_four
set_option linter.unusedVariables false
set_option linter.unusedSimpArgs false
def spec_l21Want.f (k : Nat) (l0 : List (S69)) (a1 : Int) (a2 : Int) : Option (Int) := (spec_l6In.f a1 0 (wrap64 ((l0.length : Int) - 1))).bind fun t290 => (if t290 = true then ((spec_l2Fields.f k l0 a1).bind fun t291 => (some (wrap64 (1 + (t291.length : Int))))) else (if a1 = (-1) then ((spec_l6In.f a2 0 6).bind fun t294 => (if t294 = true then (some (wrap64 (2 + a2))) else (some 0))) else (if a1 = (-2) then ((spec_l6In.f a2 0 6).bind fun t295 => (if t295 = true then (some (wrap64 (2 + a2))) else (some 0))) else (some 0))))
set_option maxHeartbeats 8000000 in
set_option maxRecDepth 100000 in
theorem spec_l21Want.calls (k : Nat) (A0 : Option Addr) (c0 : Nat) (l0 : List (S69)) (a1 : Int) (a2 : Int) (r : Int) (w : World) (hr0 : Kd.C k69 w A0 l0.length l0) (hc0 : l0.length ≤ c0) (h : spec_l21Want.f k l0 a1 a2 = some r) :
  Calls Try.prog 57 #[.slice A0 l0.length c0, .int .i64 a1, .int .i64 a2] w fun e w' => e = .returned (.int .i64 r) ∧ Below w.heap.size w w' := by
 have HR0 := Aside0.mk hr0
 have HC0 := Aside0.mk hc0
 clear hr0 hc0
 have HB := Aside0.mk (Below.refl w.heap.size w)
 have H : ((spec_l6In.f a1 0 (wrap64 ((l0.length : Int) - 1))).bind fun t290 => (if t290 = true then ((spec_l2Fields.f k l0 a1).bind fun t291 => (some (wrap64 (1 + (t291.length : Int))))) else (if a1 = (-1) then ((spec_l6In.f a2 0 6).bind fun t294 => (if t294 = true then (some (wrap64 (2 + a2))) else (some 0))) else (if a1 = (-2) then ((spec_l6In.f a2 0 6).bind fun t295 => (if t295 = true then (some (wrap64 (2 + a2))) else (some 0))) else (some 0))))) = some r := h
 clear h
 replace H := Option.bind_eq_some_iff.mp H
 obtain ⟨t290, A40, H⟩ := H
 try dsimp only at H
 have A4 := Aside0.mk A40
 clear A40
 by_cases c5 : t290 = true
 ·subst c5
  rw [if_pos rfl] at H
  replace H := Option.bind_eq_some_iff.mp H
  obtain ⟨t291, A60, H⟩ := H
  try dsimp only at H
  have A6 := Aside0.mk A60
  clear A60
  obtain rfl := Option.some.inj H
  go_enter Try.func57, Try.ntmps57
  go_wp2_with (first | ((with_reducible refine gate_callee (f := 69) rfl ?_); refine goesL_ (some 12) rfl rfl Try.func69 (by kernel_rfl) rfl #[.int .i64 a1, .int .i64 0, .int .i64 (wrap64 ((l0.length : Int) - 1))] rfl z2 ?_; (with_reducible refine (spec_l6In.calls a1 0 (wrap64 ((l0.length : Int) - 1)) true _ A4.out).mono ?_); rintro e w' ⟨rfl, ⟨nd, rfl⟩⟩; refine ⟨_, rfl, ?_⟩) | ((with_reducible refine gate_callee (f := 71) rfl ?_); refine goesL_ (some 15) rfl rfl Try.func71 (by kernel_rfl) rfl #[.slice A0 l0.length c0, .int .i64 a1] rfl z2 ?_; (with_reducible refine (spec_l2Fields.calls k _ _ l0 a1 t291 _ ?side1 ?side2 A6.out).mono ?_); (case side1 => repeat (first | exact HR0.out | (with_reducible refine Kd.C_alloc ?_ _) | (with_reducible refine Kd.C_drewN ?_ _) | (with_reducible refine Kd.C_drew ?_))); (case side2 => exact HC0.out); rintro e w7 ⟨v292, rfl, ho0, hb⟩; refine ⟨_, rfl, ?_⟩; have HO293 := Aside0.mk (Kd.R_lower ho0 (below_size z1)); replace HB := Aside0.mk (below_step z1 hb); (try clear hb); (try clear hb2); (try clear hk); (try clear hi); (try clear ho0); obtain ⟨Ao8, co8, eo8⟩ := Kd.R_slice HO293.out; subst eo8))
  go_ret
  exact ⟨by first | rfl | (simp [errW_none, errW_some] <;> rfl) | (simp [*, errW_none, errW_some] <;> rfl), by repeat (first | (with_reducible first | exact HB.out | apply below_alloc | apply pw_below_drewN | apply below_drew1) | exact HB.out)⟩
 ·replace c5 := Bool.eq_false_iff.mpr c5
  subst c5
  rw [if_neg (show ¬ (false = true) by decide)] at H
  by_cases c9 : a1 = (-1)
  ·rw [if_pos c9] at H
   have c9b0 : (a1 == (-1)) = true := beq_iff_eq.mpr c9
   have c9b1 : (a1 != (-1)) = false := bne_eq_false_iff_eq.mpr c9
   clear c9
   replace H := Option.bind_eq_some_iff.mp H
   obtain ⟨t294, A100, H⟩ := H
   try dsimp only at H
   have A10 := Aside0.mk A100
   clear A100
   by_cases c11 : t294 = true
   ·subst c11
    rw [if_pos rfl] at H
    obtain rfl := Option.some.inj H
    go_enter Try.func57, Try.ntmps57
    go_wp2_with (first | ((with_reducible refine gate_callee (f := 69) rfl ?_); refine goesL_ (some 12) rfl rfl Try.func69 (by kernel_rfl) rfl #[.int .i64 a1, .int .i64 0, .int .i64 (wrap64 ((l0.length : Int) - 1))] rfl z2 ?_; (with_reducible refine (spec_l6In.calls a1 0 (wrap64 ((l0.length : Int) - 1)) false _ A4.out).mono ?_); rintro e w' ⟨rfl, ⟨nd, rfl⟩⟩; refine ⟨_, rfl, ?_⟩) | (go_at_call 69; (with_reducible refine (spec_l6In.calls a2 0 6 true _ A10.out).mono ?_); rintro e w' ⟨rfl, ⟨nd, rfl⟩⟩))
    go_ret
    exact ⟨by first | rfl | (simp [errW_none, errW_some] <;> rfl) | (simp [*, errW_none, errW_some] <;> rfl), by repeat (first | (with_reducible first | exact HB.out | apply below_alloc | apply pw_below_drewN | apply below_drew1) | exact HB.out)⟩
   ·replace c11 := Bool.eq_false_iff.mpr c11
    subst c11
    rw [if_neg (show ¬ (false = true) by decide)] at H
    obtain rfl := Option.some.inj H
    go_enter Try.func57, Try.ntmps57
    go_wp2_with (first | ((with_reducible refine gate_callee (f := 69) rfl ?_); refine goesL_ (some 12) rfl rfl Try.func69 (by kernel_rfl) rfl #[.int .i64 a1, .int .i64 0, .int .i64 (wrap64 ((l0.length : Int) - 1))] rfl z2 ?_; (with_reducible refine (spec_l6In.calls a1 0 (wrap64 ((l0.length : Int) - 1)) false _ A4.out).mono ?_); rintro e w' ⟨rfl, ⟨nd, rfl⟩⟩; refine ⟨_, rfl, ?_⟩) | (go_at_call 69; (with_reducible refine (spec_l6In.calls a2 0 6 false _ A10.out).mono ?_); rintro e w' ⟨rfl, ⟨nd, rfl⟩⟩))
    go_ret
    exact ⟨by first | rfl | (simp [errW_none, errW_some] <;> rfl) | (simp [*, errW_none, errW_some] <;> rfl), by repeat (first | (with_reducible first | exact HB.out | apply below_alloc | apply pw_below_drewN | apply below_drew1) | exact HB.out)⟩
  ·rw [if_neg c9] at H
   have c9b0 : (a1 == (-1)) = false := beq_eq_false_iff_ne.mpr c9
   have c9b1 : (a1 != (-1)) = true := bne_iff_ne.mpr c9
   by_cases c12 : a1 = (-2)
   ·rw [if_pos c12] at H
    have c12b0 : (a1 == (-2)) = true := beq_iff_eq.mpr c12
    have c12b1 : (a1 != (-2)) = false := bne_eq_false_iff_eq.mpr c12
    clear c12
    replace H := Option.bind_eq_some_iff.mp H
    obtain ⟨t295, A130, H⟩ := H
    try dsimp only at H
    have A13 := Aside0.mk A130
    clear A130
    by_cases c14 : t295 = true
    ·subst c14
     rw [if_pos rfl] at H
     obtain rfl := Option.some.inj H
     go_enter Try.func57, Try.ntmps57
     go_wp2_with (first | ((with_reducible refine gate_callee (f := 69) rfl ?_); refine goesL_ (some 12) rfl rfl Try.func69 (by kernel_rfl) rfl #[.int .i64 a1, .int .i64 0, .int .i64 (wrap64 ((l0.length : Int) - 1))] rfl z2 ?_; (with_reducible refine (spec_l6In.calls a1 0 (wrap64 ((l0.length : Int) - 1)) false _ A4.out).mono ?_); rintro e w' ⟨rfl, ⟨nd, rfl⟩⟩; refine ⟨_, rfl, ?_⟩) | (go_at_call 69; (with_reducible refine (spec_l6In.calls a2 0 6 true _ A13.out).mono ?_); rintro e w' ⟨rfl, ⟨nd, rfl⟩⟩))
     go_ret
     exact ⟨by first | rfl | (simp [errW_none, errW_some] <;> rfl) | (simp [*, errW_none, errW_some] <;> rfl), by repeat (first | (with_reducible first | exact HB.out | apply below_alloc | apply pw_below_drewN | apply below_drew1) | exact HB.out)⟩
    ·replace c14 := Bool.eq_false_iff.mpr c14
     subst c14
     rw [if_neg (show ¬ (false = true) by decide)] at H
     obtain rfl := Option.some.inj H
     go_enter Try.func57, Try.ntmps57
     go_wp2_with (first | ((with_reducible refine gate_callee (f := 69) rfl ?_); refine goesL_ (some 12) rfl rfl Try.func69 (by kernel_rfl) rfl #[.int .i64 a1, .int .i64 0, .int .i64 (wrap64 ((l0.length : Int) - 1))] rfl z2 ?_; (with_reducible refine (spec_l6In.calls a1 0 (wrap64 ((l0.length : Int) - 1)) false _ A4.out).mono ?_); rintro e w' ⟨rfl, ⟨nd, rfl⟩⟩; refine ⟨_, rfl, ?_⟩) | (go_at_call 69; (with_reducible refine (spec_l6In.calls a2 0 6 false _ A13.out).mono ?_); rintro e w' ⟨rfl, ⟨nd, rfl⟩⟩))
     go_ret
     exact ⟨by first | rfl | (simp [errW_none, errW_some] <;> rfl) | (simp [*, errW_none, errW_some] <;> rfl), by repeat (first | (with_reducible first | exact HB.out | apply below_alloc | apply pw_below_drewN | apply below_drew1) | exact HB.out)⟩
   ·rw [if_neg c12] at H
    have c12b0 : (a1 == (-2)) = false := beq_eq_false_iff_ne.mpr c12
    have c12b1 : (a1 != (-2)) = true := bne_iff_ne.mpr c12
    obtain rfl := Option.some.inj H
    go_enter Try.func57, Try.ntmps57
    go_wp2_with (first | ((with_reducible refine gate_callee (f := 69) rfl ?_); refine goesL_ (some 12) rfl rfl Try.func69 (by kernel_rfl) rfl #[.int .i64 a1, .int .i64 0, .int .i64 (wrap64 ((l0.length : Int) - 1))] rfl z2 ?_; (with_reducible refine (spec_l6In.calls a1 0 (wrap64 ((l0.length : Int) - 1)) false _ A4.out).mono ?_); rintro e w' ⟨rfl, ⟨nd, rfl⟩⟩; refine ⟨_, rfl, ?_⟩))
    go_ret
    exact ⟨by first | rfl | (simp [errW_none, errW_some] <;> rfl) | (simp [*, errW_none, errW_some] <;> rfl), by repeat (first | (with_reducible first | exact HB.out | apply below_alloc | apply pw_below_drewN | apply below_drew1) | exact HB.out)⟩
end Go.Proofs.Ytmniglgahodghaa.K
