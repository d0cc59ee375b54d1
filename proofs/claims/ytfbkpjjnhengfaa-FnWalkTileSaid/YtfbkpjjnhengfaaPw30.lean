import Derived.Test.YtfbkpjjnhengfaaPw24
import Derived.Test.YtfbkpjjnhengfaaPw27
import Derived.Test.YtfbkpjjnhengfaaPw29
import Derived.Test.YtfbkpjjnhengfaaPw28
import Derived.Test.YtfbkpjjnhengfaaPw26
namespace Go.Proofs.Ytfbkpjjnhengfaa.K
open Go.RowKit Go.Proofs.YtfbkpjjnhengfaaW.PrintWords Go.Proofs.YtfbkpjjnhengfaaW.PrintLast Go.Proofs.YtfbkpjjnhengfaaW.PrintMore
attribute [local go_sem] max2_int min2_int max_two min_two max_three min_three max_four min_four
set_option linter.unusedVariables false
set_option linter.unusedSimpArgs false
def spec_l21Lead.f (l0 : List Bool) (a1 : Int) : Option (Bool) := if a1 = 0 then (some true) else ((spec_l6In.f a1 1 (l0.length : Int)).bind fun t307 => (if t307 = true then (if 0 ≤ (wrap64 (a1 - 1)) then (if (wrap64 (a1 - 1)) < (l0.length : Int) then (some (rdOf false l0 (wrap64 (a1 - 1)))) else (none)) else (none)) else (some false)))
set_option maxHeartbeats 8000000 in
set_option maxRecDepth 100000 in
theorem spec_l21Lead.calls (A0 : Option Addr) (c0 : Nat) (l0 : List Bool) (a1 : Int) (r : Bool) (w : World) (hr0 : Kd.C Kd.bool w A0 l0.length l0) (hc0 : l0.length ≤ c0) (h : spec_l21Lead.f l0 a1 = some r) :
  Calls Try.prog 45 #[.slice A0 l0.length c0, .int .i64 a1] w fun e w' => e = .returned (.bool r) ∧ Drawn0 w w' := by
 have HR0 := Aside0.mk hr0
 have HC0 := Aside0.mk hc0
 clear hr0 hc0
 have H : (if a1 = 0 then (some true) else ((spec_l6In.f a1 1 (l0.length : Int)).bind fun t307 => (if t307 = true then (if 0 ≤ (wrap64 (a1 - 1)) then (if (wrap64 (a1 - 1)) < (l0.length : Int) then (some (rdOf false l0 (wrap64 (a1 - 1)))) else (none)) else (none)) else (some false)))) = some r := h
 clear h
 by_cases c3 : a1 = 0
 ·rw [if_pos c3] at H
  have c3b0 : (a1 == 0) = true := beq_iff_eq.mpr c3
  have c3b1 : (a1 != 0) = false := bne_eq_false_iff_eq.mpr c3
  clear c3
  obtain rfl := Option.some.inj H
  go_enter Try.func45, Try.ntmps45
  go_wp2
  go_ret
  exact ⟨by first | rfl | (simp; done) | (simp [*]; done), by repeat (first | exact Drawn0.refl _ | apply Drawn0.step)⟩
 ·rw [if_neg c3] at H
  have c3b0 : (a1 == 0) = false := beq_eq_false_iff_ne.mpr c3
  have c3b1 : (a1 != 0) = true := bne_iff_ne.mpr c3
  replace H := Option.bind_eq_some_iff.mp H
  obtain ⟨t307, A40, H⟩ := H
  try dsimp only at H
  have A4 := Aside0.mk A40
  clear A40
  by_cases c5 : t307 = true
  ·subst c5
   rw [if_pos rfl] at H
   obtain ⟨ji6, hji6⟩ : ∃ j_ : Int, (wrap64 (a1 - 1)) = j_ := ⟨_, rfl⟩
   replace H : (if 0 ≤ (ji6) then (if (ji6) < (l0.length : Int) then (some (rdOf false l0 (ji6))) else (none)) else (none)) = some r := by first | (rw [hji6] at H; exact H) | (simp only [hji6] at H ⊢; exact H)
   (try rw [hji6] at A4)
   have hji6w : (IntKind.i64.wrap (a1 - 1)) = ji6 := (i64_w _).trans hji6
   by_cases c7 : 0 ≤ (ji6)
   ·rw [if_pos c7] at H
    have c7b0 : decide (0 ≤ (ji6)) = true := decide_eq_true c7
    clear c7
    by_cases c8 : (ji6) < (l0.length : Int)
    ·rw [if_pos c8] at H
     have c8b0 : decide ((ji6) < (l0.length : Int)) = true := decide_eq_true c8
     clear c8
     obtain rfl := Option.some.inj H
     go_enter Try.func45, Try.ntmps45
     go_wp2_with (first | (go_at_call 63; (with_reducible refine (spec_l6In.calls a1 1 (l0.length : Int) true _ A4.out).mono ?_); rintro e w' ⟨rfl, ⟨nd, rfl⟩⟩; have p308 : 0 ≤ ((ji6) : Int) := of_decide_eq_true z3; have q308 : (ji6) < (l0.length : Int) := of_decide_eq_true z3; obtain ⟨ad308, e308, hx308_0⟩ := Kd.at_bool HR0.out (ji6) p308 q308; cases e308; replace p308 := eq_true p308; replace q308 := eq_true q308))
     go_ret
     exact ⟨by first | rfl | (simp; done) | (simp only [← hji6] <;> (first | rfl | simp)) | (simp [*]; done), by repeat (first | exact Drawn0.refl _ | apply Drawn0.step)⟩
    ·rw [if_neg c8] at H
     exact absurd H (by simp)
   ·rw [if_neg c7] at H
    exact absurd H (by simp)
  ·replace c5 := Bool.eq_false_iff.mpr c5
   subst c5
   rw [if_neg (show ¬ (false = true) by decide)] at H
   obtain rfl := Option.some.inj H
   go_enter Try.func45, Try.ntmps45
   go_wp2_with (first | (go_at_call 63; (with_reducible refine (spec_l6In.calls a1 1 (l0.length : Int) false _ A4.out).mono ?_); rintro e w' ⟨rfl, ⟨nd, rfl⟩⟩))
   go_ret
   exact ⟨by first | rfl | (simp; done) | (simp [*]; done), by repeat (first | exact Drawn0.refl _ | apply Drawn0.step)⟩
end Go.Proofs.Ytfbkpjjnhengfaa.K
namespace Go.Proofs.Ytfbkpjjnhengfaa.K
open Go.RowKit Go.Proofs.YtfbkpjjnhengfaaW.PrintWords Go.Proofs.YtfbkpjjnhengfaaW.PrintLast Go.Proofs.YtfbkpjjnhengfaaW.PrintMore
attribute [local go_sem] max2_int min2_int max_two min_two max_three min_three max_four min_four
set_option linter.unusedVariables false
set_option linter.unusedSimpArgs false
def spec_l1Word.f (a0 : Int) : Option (Bool) := (spec_l6In.f a0 (-128) 127).bind fun t309 => (some t309)
set_option maxHeartbeats 8000000 in
set_option maxRecDepth 100000 in
theorem spec_l1Word.calls (a0 : Int) (r : Bool) (w : World) (h : spec_l1Word.f a0 = some r) :
  Calls Try.prog 46 #[.int .i64 a0] w fun e w' => e = .returned (.bool r) ∧ Drawn0 w w' := by
 have H : ((spec_l6In.f a0 (-128) 127).bind fun t309 => (some t309)) = some r := h
 clear h
 replace H := Option.bind_eq_some_iff.mp H
 obtain ⟨t309, A20, H⟩ := H
 try dsimp only at H
 have A2 := Aside0.mk A20
 clear A20
 obtain rfl := Option.some.inj H
 go_enter Try.func46, Try.ntmps46
 go_wp2_with (first | ((with_reducible refine gate_callee (f := 63) rfl ?_); refine goesL_ (some 4) rfl rfl Try.func63 (by kernel_rfl) rfl #[.int .i64 a0, .int .i64 (-128), .int .i64 127] rfl z1 ?_; (with_reducible refine (spec_l6In.calls a0 (-128) 127 t309 _ A2.out).mono ?_); rintro e w' ⟨rfl, ⟨nd, rfl⟩⟩; refine ⟨_, rfl, ?_⟩))
 go_ret
 exact ⟨by first | rfl | (simp; done) | (simp [*]; done), by repeat (first | exact Drawn0.refl _ | apply Drawn0.step)⟩
end Go.Proofs.Ytfbkpjjnhengfaa.K
namespace Go.Proofs.Ytfbkpjjnhengfaa.K
open Go.RowKit Go.Proofs.YtfbkpjjnhengfaaW.PrintWords Go.Proofs.YtfbkpjjnhengfaaW.PrintLast Go.Proofs.YtfbkpjjnhengfaaW.PrintMore
attribute [local go_sem] max2_int min2_int max_two min_two max_three min_three max_four min_four
set_option linter.unusedVariables false
set_option linter.unusedSimpArgs false
mutual
def spec_l21Thing.l0 : Nat → List Bool → Int → List Bool → Int → List Int → Int → Int → Int → List Bool → Option (Bool)
 | 0, _, _, _, _, _, _, _, _, _ => none
 | k + 1, x2, x3, x9, x10, x311000, x311001, x311002, x311003, x311004 => if x10 < (x9.length : Int) then (if 0 ≤ (wrap64 (x3 + x10)) then (if (wrap64 (x3 + x10)) < (x311000.length : Int) then (if 0 ≤ x10 then (if rdOf false x9 x10 = true then ((spec_l21Lead.f x2 (rd x311000 (wrap64 (x3 + x10)))).bind fun t318 => (if t318 = true then (spec_l21Thing.j1 k x2 x3 x9 x10 (rd x311000 (wrap64 (x3 + x10))) false x311000 x311001 x311002 x311003 x311004) else (spec_l21Thing.j1 k x2 x3 x9 x10 (rd x311000 (wrap64 (x3 + x10))) true x311000 x311001 x311002 x311003 x311004))) else ((spec_l1Word.f (rd x311000 (wrap64 (x3 + x10)))).bind fun t321 => (spec_l21Thing.j1 k x2 x3 x9 x10 (rd x311000 (wrap64 (x3 + x10))) (!t321) x311000 x311001 x311002 x311003 x311004))) else (none)) else (none)) else (none)) else (some true)
def spec_l21Thing.j1 : Nat → List Bool → Int → List Bool → Int → Int → Bool → List Int → Int → Int → Int → List Bool → Option (Bool)
 | 0, _, _, _, _, _, _, _, _, _, _, _ => none
 | k + 1, x2, x3, x9, x10, x11, x57, x311000, x311001, x311002, x311003, x311004 => if x57 = true then (some false) else (if 0 ≤ x10 then (if x10 < (x9.length : Int) then (if rdOf false x9 x10 = true then (if x3 ≥ x311001 then ((spec_l6In.f x11 1 x311001).bind fun t323 => (if t323 = true then (if 0 ≤ (wrap64 (Int.tdiv (wrap64 ((wrap64 (x3 + x10)) - x311001)) 4)) then (if (wrap64 (Int.tdiv (wrap64 ((wrap64 (x3 + x10)) - x311001)) 4)) < (x311004.length : Int) then (if (rdOf false x311004 (wrap64 (Int.tdiv (wrap64 ((wrap64 (x3 + x10)) - x311001)) 4)) = true) then (spec_l21Thing.l0 k x2 x3 x9 (wrap64 (x10 + 1)) x311000 x311001 x311002 x311003 x311004) else (some false)) else (none)) else (none)) else (spec_l21Thing.l0 k x2 x3 x9 (wrap64 (x10 + 1)) x311000 x311001 x311002 x311003 x311004))) else (spec_l21Thing.l0 k x2 x3 x9 (wrap64 (x10 + 1)) x311000 x311001 x311002 x311003 x311004)) else (spec_l21Thing.l0 k x2 x3 x9 (wrap64 (x10 + 1)) x311000 x311001 x311002 x311003 x311004)) else (none)) else (none))
end
def spec_l21Thing.f (k : Nat) (l0 : List (S99)) (l1_0 : List Int) (a1_1 : Int) (a1_2 : Int) (a1_3 : Int) (l1_4 : List Bool) (l2 : List Bool) (a3 : Int) : Option (Bool) := (spec_l21Refs.f k l0 l1_0 a3).bind fun t311 => (if 0 ≤ a3 then (if a3 < (l1_0.length : Int) then ((spec_l21Head.f (rd l1_0 a3)).bind fun t315 => (spec_l21Thing.l0 k l2 a3 t311 t315 l1_0 a1_1 a1_2 a1_3 l1_4)) else (none)) else (none))
set_option maxHeartbeats 8000000 in
set_option maxRecDepth 100000 in
theorem spec_l21Thing.calls (k : Nat) (A0 : Option Addr) (c0 : Nat) (l0 : List (S99)) (A1_0 : Option Addr) (c1_0 : Nat) (l1_0 : List Int) (a1_1 : Int) (a1_2 : Int) (a1_3 : Int) (A1_4 : Option Addr) (c1_4 : Nat) (l1_4 : List Bool) (A2 : Option Addr) (c2 : Nat) (l2 : List Bool) (a3 : Int) (r : Bool) (w : World) (hr0 : Kd.C k99 w A0 l0.length l0) (hc0 : l0.length ≤ c0) (hr1_0 : Kd.C (Kd.int .i64) w A1_0 l1_0.length l1_0) (hc1_0 : l1_0.length ≤ c1_0) (hr1_4 : Kd.C Kd.bool w A1_4 l1_4.length l1_4) (hc1_4 : l1_4.length ≤ c1_4) (hr2 : Kd.C Kd.bool w A2 l2.length l2) (hc2 : l2.length ≤ c2) (h : spec_l21Thing.f k l0 l1_0 a1_1 a1_2 a1_3 l1_4 l2 a3 = some r) :
  Calls Try.prog 32 #[.slice A0 l0.length c0, .agg #[.slice A1_0 l1_0.length c1_0, .int .i64 a1_1, .int .i64 a1_2, .int .i64 a1_3, .slice A1_4 l1_4.length c1_4], .slice A2 l2.length c2, .int .i64 a3] w fun e w' => e = .returned (.bool r) ∧ Below w.heap.size w w' := by
 have hu27 := Try.underlying27
 have HR0 := Aside0.mk hr0
 have HC0 := Aside0.mk hc0
 clear hr0 hc0
 have HR1_0 := Aside0.mk hr1_0
 have HC1_0 := Aside0.mk hc1_0
 clear hr1_0 hc1_0
 have HR1_4 := Aside0.mk hr1_4
 have HC1_4 := Aside0.mk hc1_4
 clear hr1_4 hc1_4
 have HR2 := Aside0.mk hr2
 have HC2 := Aside0.mk hc2
 clear hr2 hc2
 have HB := Aside0.mk (Below.refl w.heap.size w)
 have H : ((spec_l21Refs.f k l0 l1_0 a3).bind fun t311 => (if 0 ≤ a3 then (if a3 < (l1_0.length : Int) then ((spec_l21Head.f (rd l1_0 a3)).bind fun t315 => (spec_l21Thing.l0 k l2 a3 t311 t315 l1_0 a1_1 a1_2 a1_3 l1_4)) else (none)) else (none))) = some r := h
 clear h
 replace H := Option.bind_eq_some_iff.mp H
 obtain ⟨t311, A50, H⟩ := H
 try dsimp only at H
 have A5 := Aside0.mk A50
 clear A50
 by_cases c6 : 0 ≤ a3
 ·rw [if_pos c6] at H
  have c6b0 : decide (0 ≤ a3) = true := decide_eq_true c6
  clear c6
  by_cases c7 : a3 < (l1_0.length : Int)
  ·rw [if_pos c7] at H
   have c7b0 : decide (a3 < (l1_0.length : Int)) = true := decide_eq_true c7
   clear c7
   replace H := Option.bind_eq_some_iff.mp H
   obtain ⟨t315, A80, H⟩ := H
   try dsimp only at H
   have A8 := Aside0.mk A80
   clear A80
   have H' := Aside0.mk H
   clear H
   go_enter Try.func32, Try.ntmps32
   go_wp2_with (first | ((with_reducible refine gate_dst (N := 5) rfl ?_); refine box_event ?hg (N := 5) ?hd (cs := #[.slice A1_0 l1_0.length c1_0, .int .i64 a1_1, .int .i64 a1_2, .int .i64 a1_3, .slice A1_4 l1_4.length c1_4]) (t := 27) ?hr ?_; (case hd => rfl); (case hg => rfl); (case hr => first | (go_simp; done) | (go_simp; rfl)); intro gb310 hg w9 hbox hb; have BK310 := Aside0.mk (hbox); have GW310 := Aside0.mk ((by rw [hg]; exact (below_size z2) : w.heap.size ≤ gb310)); have GE310 := Aside0.mk ((by rw [hg]; exact (below_size z2) : w.heap.size ≤ gb310)); replace HB := Aside0.mk (below_step z2 hb); clear hb hbox hg; obtain ⟨hcz10_0, hcz10_1, hcz10_2, hcz10_3, hcz10_4, hfz10_0, hfz10_1, hfz10_2, hfz10_3, hfz10_4⟩ := cbf5 BK310) | ((with_reducible refine gate_callee (f := 44) rfl ?_); refine goesL_ (some 16) rfl rfl Try.func44 (by kernel_rfl) rfl #[.slice A0 l0.length c0, .slice A1_0 l1_0.length c1_0, .int .i64 a3] rfl z1 ?_; (with_reducible refine (spec_l21Refs.calls k _ _ l0 _ _ l1_0 a3 t311 _ ?side1 ?side2 ?side3 ?side4 A5.out).mono ?_); (case side1 => repeat (first | exact (Kd.C_below HR0.out HB.out) | (with_reducible refine Kd.C_alloc ?_ _) | (with_reducible refine Kd.C_drewN ?_ _) | (with_reducible refine Kd.C_drew ?_))); (case side2 => exact HC0.out); (case side3 => repeat (first | exact (Kd.C_below HR1_0.out HB.out) | (with_reducible refine Kd.C_alloc ?_ _) | (with_reducible refine Kd.C_drewN ?_ _) | (with_reducible refine Kd.C_drew ?_))); (case side4 => exact HC1_0.out); rintro e w11 ⟨v312, rfl, ho0, hb⟩; refine ⟨_, rfl, ?_⟩; have HO313 := Aside0.mk (Kd.R_lower ho0 (below_size (by repeat (first | (with_reducible first | exact HB.out | apply below_alloc | apply pw_below_drewN | apply below_drew1 | refine below_set ?_ GE310.out) | exact HB.out)))); replace BK310 := Aside0.mk (blk_below (g := gb310) (o := .cells #[.slice A1_0 l1_0.length c1_0, .int .i64 a1_1, .int .i64 a1_2, .int .i64 a1_3, .slice A1_4 l1_4.length c1_4] 27 (0, 0)) (by (with_reducible repeat (first | refine blk_drewN ?_ _ | refine blk_drew ?_ | refine blk_alloc ?_ _)); exact BK310.out) hb); replace HB := Aside0.mk (below_step (by repeat (first | (with_reducible first | exact HB.out | apply below_alloc | apply pw_below_drewN | apply below_drew1 | refine below_set ?_ GE310.out) | exact HB.out)) hb); (try clear hb); (try clear hb2); (try clear hk); (try clear hi); (try clear ho0); obtain ⟨hcz12_0, hcz12_1, hcz12_2, hcz12_3, hcz12_4, hfz12_0, hfz12_1, hfz12_2, hfz12_3, hfz12_4⟩ := cbf5 BK310; have p314 : 0 ≤ (a3 : Int) := of_decide_eq_true z3; have q314 : a3 < (l1_0.length : Int) := of_decide_eq_true z3; obtain ⟨ad314, e314, hx314_0⟩ := Kd.at_int HR1_0.out a3 p314 q314; cases e314; replace hx314_0 := (HB.out.cell (World.block_lt_of_cell? w _ hx314_0)).trans hx314_0; replace p314 := eq_true p314; replace q314 := eq_true q314) | ((with_reducible refine gate_callee (f := 65) rfl ?_); refine goesL_ (some 22) rfl rfl Try.func65 (by kernel_rfl) rfl #[.int .i64 (rd l1_0 a3)] rfl z1 ?_; (with_reducible refine (spec_l21Head.calls (rd l1_0 a3) t315 _ A8.out).mono ?_); rintro e w' ⟨rfl, ⟨nd, rfl⟩⟩; refine ⟨_, rfl, ?_⟩))
   go_loopg [10] k (fun kq v10 w' => ∃ (x10_1 : Int), v10 = .int .i64 x10_1 ∧ Aside0 (spec_l21Thing.l0 kq l2 a3 t311 x10_1 l1_0 a1_1 a1_2 a1_3 l1_4 = some r) ∧ Aside0 (kq ≤ k) ∧ Aside0 (Kd.R Kd.bool 4 w' w.heap.size (fun _ => True) v312 t311) ∧ Aside0 (w'.heap[gb310]? = some (.cells #[(.slice (some ad314) l1_0.length c1_0), .int .i64 a1_1, .int .i64 a1_2, .int .i64 a1_3, (.slice A1_4 l1_4.length c1_4)] 27 (0, 0))) ∧ Aside0 (Below w.heap.size w w'))
   case atStart => exact ⟨(t315), z7, H', ⟨Nat.le_refl _⟩, ⟨by (with_reducible repeat (first | apply Kd.R_alloc | apply Kd.R_drewN | apply Kd.R_drew)); exact HO313.out⟩, ⟨by (with_reducible repeat (first | refine blk_drewN ?_ _ | refine blk_drew ?_ | refine blk_alloc ?_ _)); exact BK310.out⟩, ⟨by repeat (first | (with_reducible first | exact HB.out | apply below_alloc | apply pw_below_drewN | apply below_drew1 | refine below_set ?_ GE310.out) | exact HB.out)⟩⟩
   case round =>
    clear H'
    try clear c1
    try clear c2
    try clear p2
    try clear c3
    try clear p3
    try clear q3
    try clear hx3
    try clear c4
    try clear c6
    try clear c6b0
    try clear c7
    try clear c7b0
    try clear hcz10_0
    try clear hcz10_1
    try clear hcz10_2
    try clear hcz10_3
    try clear hcz10_4
    try clear hcz12_0
    try clear hcz12_1
    try clear hcz12_2
    try clear hcz12_3
    try clear hcz12_4
    try clear hfz10_0
    try clear hfz10_1
    try clear hfz10_2
    try clear hfz10_3
    try clear hfz10_4
    try clear hfz12_0
    try clear hfz12_1
    try clear hfz12_2
    try clear hfz12_3
    try clear hfz12_4
    try clear hx314_0
    try clear p314
    try clear q314
    obtain ⟨x10_1, rfl, HA, HK1, HO_9, BK310, HB⟩ := hrel
    cases gk with
    | zero => exact absurd HA.out (by simp [spec_l21Thing.l0])
    | succ k1 =>
     have H := HA.out
     clear HA
     simp only [spec_l21Thing.l0] at H
     by_cases c13 : x10_1 < (t311.length : Int)
     ·rw [if_pos c13] at H
      have c13b0 : decide (x10_1 < (t311.length : Int)) = true := decide_eq_true c13
      clear c13
      obtain ⟨ji14, hji14⟩ : ∃ j_ : Int, (wrap64 (a3 + x10_1)) = j_ := ⟨_, rfl⟩
      replace H : (if 0 ≤ (ji14) then (if (ji14) < (l1_0.length : Int) then (if 0 ≤ x10_1 then (if rdOf false t311 x10_1 = true then ((spec_l21Lead.f l2 (rd l1_0 (ji14))).bind fun t318 => (if t318 = true then (spec_l21Thing.j1 k1 l2 a3 t311 x10_1 (rd l1_0 (ji14)) false l1_0 a1_1 a1_2 a1_3 l1_4) else (spec_l21Thing.j1 k1 l2 a3 t311 x10_1 (rd l1_0 (ji14)) true l1_0 a1_1 a1_2 a1_3 l1_4))) else ((spec_l1Word.f (rd l1_0 (ji14))).bind fun t321 => (spec_l21Thing.j1 k1 l2 a3 t311 x10_1 (rd l1_0 (ji14)) (!t321) l1_0 a1_1 a1_2 a1_3 l1_4))) else (none)) else (none)) else (none)) = some r := by first | (rw [hji14] at H; exact H) | (simp only [hji14] at H ⊢; exact H)
      have hji14w : (IntKind.i64.wrap (a3 + x10_1)) = ji14 := (i64_w _).trans hji14
      by_cases c15 : 0 ≤ (ji14)
      ·rw [if_pos c15] at H
       have c15b0 : decide (0 ≤ (ji14)) = true := decide_eq_true c15
       clear c15
       by_cases c16 : (ji14) < (l1_0.length : Int)
       ·rw [if_pos c16] at H
        have c16b0 : decide ((ji14) < (l1_0.length : Int)) = true := decide_eq_true c16
        clear c16
        have HC17 := Aside0.mk H
        clear H
        obtain ⟨Ao18, co18, eo18⟩ := Kd.R_slice HO_9.out
        subst eo18
        obtain ⟨hcz19_0, hcz19_1, hcz19_2, hcz19_3, hcz19_4, hfz19_0, hfz19_1, hfz19_2, hfz19_3, hfz19_4⟩ := cbf5 BK310
        have p316 : 0 ≤ ((ji14) : Int) := of_decide_eq_true z3
        have q316 : (ji14) < (l1_0.length : Int) := of_decide_eq_true z3
        obtain ⟨ad316, e316, hx316_0⟩ := Kd.at_int HR1_0.out (ji14) p316 q316
        obtain rfl : ad314 = ad316 := (by injection e316)
        replace hx316_0 := (HB.out.cell (World.block_lt_of_cell? w _ hx316_0)).trans hx316_0
        replace p316 := eq_true p316
        replace q316 := eq_true q316
        go_upto_region 6 with (fail)
        go_cut [57] (fun v57 wc => ∃ (kq : Nat) (x57_16 : Bool), v57 = .bool x57_16 ∧ Aside0 (spec_l21Thing.j1 kq l2 a3 t311 x10_1 (rd l1_0 (ji14)) x57_16 l1_0 a1_1 a1_2 a1_3 l1_4 = some r) ∧ Aside0 (kq ≤ k1) ∧ Aside0 (Kd.R Kd.bool 4 wc w.heap.size (fun _ => True) (.slice Ao18 t311.length co18) t311) ∧ Aside0 (wc.heap[gb310]? = some (.cells #[(.slice (some ad314) l1_0.length c1_0), .int .i64 a1_1, .int .i64 a1_2, .int .i64 a1_3, (.slice A1_4 l1_4.length c1_4)] 27 (0, 0))) ∧ Aside0 (Below w.heap.size w wc))
        case first =>
         have H := HC17.out
         clear HC17
         by_cases c20 : 0 ≤ x10_1
         ·rw [if_pos c20] at H
          have c20b0 : decide (0 ≤ x10_1) = true := decide_eq_true c20
          clear c20
          (first | rw [c20b0] | (simp only [i64_w, i32_w]; rw [c20b0]) | skip)
          obtain ⟨bq21, hbq21⟩ : ∃ b_ : Bool, b_ = (rdOf false t311 x10_1) := ⟨_, rfl⟩
          replace H : (if bq21 = true then ((spec_l21Lead.f l2 (rd l1_0 (ji14))).bind fun t318 => (if t318 = true then (spec_l21Thing.j1 k1 l2 a3 t311 x10_1 (rd l1_0 (ji14)) false l1_0 a1_1 a1_2 a1_3 l1_4) else (spec_l21Thing.j1 k1 l2 a3 t311 x10_1 (rd l1_0 (ji14)) true l1_0 a1_1 a1_2 a1_3 l1_4))) else ((spec_l1Word.f (rd l1_0 (ji14))).bind fun t321 => (spec_l21Thing.j1 k1 l2 a3 t311 x10_1 (rd l1_0 (ji14)) (!t321) l1_0 a1_1 a1_2 a1_3 l1_4))) = some r := by rw [← hbq21] at H; exact H
          have Nbq21 := Aside0.mk hbq21
          clear hbq21
          by_cases c22 : bq21 = true
          ·subst c22
           rw [if_pos rfl] at H
           replace H := Option.bind_eq_some_iff.mp H
           obtain ⟨t318, A230, H⟩ := H
           try dsimp only at H
           have A23 := Aside0.mk A230
           clear A230
           by_cases c24 : t318 = true
           ·subst c24
            rw [if_pos rfl] at H
            have H' := Aside0.mk H
            clear H
            have p317 : 0 ≤ (x10_1 : Int) := of_decide_eq_true z3
            have q317 : x10_1 < (t311.length : Int) := of_decide_eq_true z3
            obtain ⟨ad317, e317, hx317_0⟩ := Kd.at_bool (Kd.R_reads' HO_9.out).2.2 x10_1 p317 q317
            (try rw [← Nbq21.out] at hx317_0)
            cases e317
            replace p317 := eq_true p317
            replace q317 := eq_true q317
            go_wp2_with (first | (go_at_call 45; (with_reducible refine (spec_l21Lead.calls _ _ l2 (rd l1_0 (ji14)) true _ ?side1 ?side2 A23.out).mono ?_); (case side1 => repeat (first | exact (Kd.C_below HR2.out HB.out) | (with_reducible refine Kd.C_alloc ?_ _) | (with_reducible refine Kd.C_drewN ?_ _) | (with_reducible refine Kd.C_drew ?_))); (case side2 => exact HC2.out); rintro e w' ⟨rfl, ⟨nd, rfl⟩⟩; have p319 : 0 ≤ (x10_1 : Int) := of_decide_eq_true z3; have q319 : x10_1 < (t311.length : Int) := of_decide_eq_true z3; obtain ⟨ad319, e319, hx319_0⟩ := Kd.at_bool (Kd.R_reads' HO_9.out).2.2 x10_1 p319 q319; (try rw [← Nbq21.out] at hx319_0); obtain rfl : ad317 = ad319 := (by injection e319); replace p319 := eq_true p319; replace q319 := eq_true q319))
            go_meet
            case rel => exact ⟨_, (false), z7, H', ⟨by have := HK1.out; first | omega | exact Nat.le_refl _⟩, ⟨by (with_reducible repeat (first | apply Kd.R_alloc | apply Kd.R_drewN | apply Kd.R_drew)); exact HO_9.out⟩, ⟨by (with_reducible repeat (first | refine blk_drewN ?_ _ | refine blk_drew ?_ | refine blk_alloc ?_ _)); exact BK310.out⟩, ⟨by repeat (first | (with_reducible first | exact HB.out | apply below_alloc | apply pw_below_drewN | apply below_drew1 | refine below_set ?_ GE310.out) | exact HB.out)⟩⟩
           ·replace c24 := Bool.eq_false_iff.mpr c24
            subst c24
            rw [if_neg (show ¬ (false = true) by decide)] at H
            have H' := Aside0.mk H
            clear H
            have p317 : 0 ≤ (x10_1 : Int) := of_decide_eq_true z3
            have q317 : x10_1 < (t311.length : Int) := of_decide_eq_true z3
            obtain ⟨ad317, e317, hx317_0⟩ := Kd.at_bool (Kd.R_reads' HO_9.out).2.2 x10_1 p317 q317
            (try rw [← Nbq21.out] at hx317_0)
            cases e317
            replace p317 := eq_true p317
            replace q317 := eq_true q317
            go_wp2_with (first | (go_at_call 45; (with_reducible refine (spec_l21Lead.calls _ _ l2 (rd l1_0 (ji14)) false _ ?side1 ?side2 A23.out).mono ?_); (case side1 => repeat (first | exact (Kd.C_below HR2.out HB.out) | (with_reducible refine Kd.C_alloc ?_ _) | (with_reducible refine Kd.C_drewN ?_ _) | (with_reducible refine Kd.C_drew ?_))); (case side2 => exact HC2.out); rintro e w' ⟨rfl, ⟨nd, rfl⟩⟩))
            go_meet
            case rel => exact ⟨_, (true), z7, H', ⟨by have := HK1.out; first | omega | exact Nat.le_refl _⟩, ⟨by (with_reducible repeat (first | apply Kd.R_alloc | apply Kd.R_drewN | apply Kd.R_drew)); exact HO_9.out⟩, ⟨by (with_reducible repeat (first | refine blk_drewN ?_ _ | refine blk_drew ?_ | refine blk_alloc ?_ _)); exact BK310.out⟩, ⟨by repeat (first | (with_reducible first | exact HB.out | apply below_alloc | apply pw_below_drewN | apply below_drew1 | refine below_set ?_ GE310.out) | exact HB.out)⟩⟩
          ·replace c22 := Bool.eq_false_iff.mpr c22
           subst c22
           rw [if_neg (show ¬ (false = true) by decide)] at H
           replace H := Option.bind_eq_some_iff.mp H
           obtain ⟨t321, A250, H⟩ := H
           try dsimp only at H
           have A25 := Aside0.mk A250
           clear A250
           have H' := Aside0.mk H
           clear H
           have p317 : 0 ≤ (x10_1 : Int) := of_decide_eq_true z3
           have q317 : x10_1 < (t311.length : Int) := of_decide_eq_true z3
           obtain ⟨ad317, e317, hx317_0⟩ := Kd.at_bool (Kd.R_reads' HO_9.out).2.2 x10_1 p317 q317
           (try rw [← Nbq21.out] at hx317_0)
           cases e317
           replace p317 := eq_true p317
           replace q317 := eq_true q317
           have p320 : 0 ≤ (x10_1 : Int) := of_decide_eq_true z3
           have q320 : x10_1 < (t311.length : Int) := of_decide_eq_true z3
           obtain ⟨ad320, e320, hx320_0⟩ := Kd.at_bool (Kd.R_reads' HO_9.out).2.2 x10_1 p320 q320
           (try rw [← Nbq21.out] at hx320_0)
           obtain rfl : ad317 = ad320 := (by injection e320)
           replace p320 := eq_true p320
           replace q320 := eq_true q320
           go_wp2_with (first | (go_at_call 46; (with_reducible refine (spec_l1Word.calls (rd l1_0 (ji14)) t321 _ A25.out).mono ?_); rintro e w' ⟨rfl, ⟨nd, rfl⟩⟩))
           go_meet
           case rel => exact ⟨_, (!t321), z7, H', ⟨by have := HK1.out; first | omega | exact Nat.le_refl _⟩, ⟨by (with_reducible repeat (first | apply Kd.R_alloc | apply Kd.R_drewN | apply Kd.R_drew)); exact HO_9.out⟩, ⟨by (with_reducible repeat (first | refine blk_drewN ?_ _ | refine blk_drew ?_ | refine blk_alloc ?_ _)); exact BK310.out⟩, ⟨by repeat (first | (with_reducible first | exact HB.out | apply below_alloc | apply pw_below_drewN | apply below_drew1 | refine below_set ?_ GE310.out) | exact HB.out)⟩⟩
         ·rw [if_neg c20] at H
          exact absurd H (by simp)
        case rest =>
         clear HC17
         try clear c1
         try clear c2
         try clear p2
         try clear q2
         try clear c3
         try clear p3
         try clear q3
         try clear hx3
         try clear c4
         try clear c6
         try clear c6b0
         try clear p6
         try clear c7
         try clear c7b0
         try clear c13
         try clear c13b0
         try clear c15
         try clear c15b0
         try clear c16
         try clear c16b0
         try clear c20
         try clear c20b0
         try clear q21
         try clear c22
         try clear c24
         try clear hcz10_0
         try clear hcz10_1
         try clear hcz10_2
         try clear hcz10_3
         try clear hcz10_4
         try clear hcz12_0
         try clear hcz12_1
         try clear hcz12_2
         try clear hcz12_3
         try clear hcz12_4
         try clear hcz19_0
         try clear hcz19_1
         try clear hcz19_2
         try clear hcz19_3
         try clear hcz19_4
         try clear hfz10_0
         try clear hfz10_1
         try clear hfz10_2
         try clear hfz10_3
         try clear hfz10_4
         try clear hfz12_0
         try clear hfz12_1
         try clear hfz12_2
         try clear hfz12_3
         try clear hfz12_4
         try clear hfz19_0
         try clear hfz19_1
         try clear hfz19_2
         try clear hfz19_3
         try clear hfz19_4
         try clear hx314_0
         try clear hx316_0
         try clear hx317_0
         try clear hx319_0
         try clear hx320_0
         try clear p2
         try clear p3
         try clear p314
         try clear p316
         try clear p317
         try clear p319
         try clear p320
         try clear q3
         try clear q314
         try clear q316
         try clear q317
         try clear q319
         try clear q320
         obtain ⟨kq, x57_16, rfl, HA, HJ16, HO_9, BK310, HB⟩ := hcut
         cases kq with
         | zero => exact absurd HA.out (by simp [spec_l21Thing.j1])
         | succ kj16 =>
          have H := HA.out
          clear HA
          simp only [spec_l21Thing.j1] at H
          by_cases c26 : x57_16 = true
          ·subst c26
           rw [if_pos rfl] at H
           obtain rfl := Option.some.inj H
           go_wp2
           go_ret
           exact ⟨by first | rfl | (simp [errW_none, errW_some] <;> rfl) | (simp only [← hji14]; first | rfl | (simp [errW_none, errW_some] <;> rfl)) | (simp [*, errW_none, errW_some] <;> rfl), by repeat (first | (with_reducible first | exact HB.out | apply below_alloc | apply pw_below_drewN | apply below_drew1 | refine below_set ?_ GE310.out) | exact HB.out)⟩
          ·replace c26 := Bool.eq_false_iff.mpr c26
           subst c26
           rw [if_neg (show ¬ (false = true) by decide)] at H
           by_cases c27 : 0 ≤ x10_1
           ·rw [if_pos c27] at H
            have c27b0 : decide (0 ≤ x10_1) = true := decide_eq_true c27
            clear c27
            by_cases c28 : x10_1 < (t311.length : Int)
            ·rw [if_pos c28] at H
             have c28b0 : decide (x10_1 < (t311.length : Int)) = true := decide_eq_true c28
             clear c28
             obtain ⟨bq29, hbq29⟩ : ∃ b_ : Bool, b_ = (rdOf false t311 x10_1) := ⟨_, rfl⟩
             replace H : (if bq29 = true then (if a3 ≥ a1_1 then ((spec_l6In.f (rd l1_0 (ji14)) 1 a1_1).bind fun t323 => (if t323 = true then (if 0 ≤ (wrap64 (Int.tdiv (wrap64 ((wrap64 (a3 + x10_1)) - a1_1)) 4)) then (if (wrap64 (Int.tdiv (wrap64 ((wrap64 (a3 + x10_1)) - a1_1)) 4)) < (l1_4.length : Int) then (if (rdOf false l1_4 (wrap64 (Int.tdiv (wrap64 ((wrap64 (a3 + x10_1)) - a1_1)) 4)) = true) then (spec_l21Thing.l0 kj16 l2 a3 t311 (wrap64 (x10_1 + 1)) l1_0 a1_1 a1_2 a1_3 l1_4) else (some false)) else (none)) else (none)) else (spec_l21Thing.l0 kj16 l2 a3 t311 (wrap64 (x10_1 + 1)) l1_0 a1_1 a1_2 a1_3 l1_4))) else (spec_l21Thing.l0 kj16 l2 a3 t311 (wrap64 (x10_1 + 1)) l1_0 a1_1 a1_2 a1_3 l1_4)) else (spec_l21Thing.l0 kj16 l2 a3 t311 (wrap64 (x10_1 + 1)) l1_0 a1_1 a1_2 a1_3 l1_4)) = some r := by rw [← hbq29] at H; exact H
             have Nbq29 := Aside0.mk hbq29
             clear hbq29
             by_cases c30 : bq29 = true
             ·subst c30
              rw [if_pos rfl] at H
              by_cases c31 : a3 ≥ a1_1
              ·rw [if_pos c31] at H
               have c31b0 : decide (a1_1 ≤ a3) = true := decide_eq_true c31
               clear c31
               replace H := Option.bind_eq_some_iff.mp H
               obtain ⟨t323, A320, H⟩ := H
               try dsimp only at H
               have A32 := Aside0.mk A320
               clear A320
               by_cases c33 : t323 = true
               ·subst c33
                rw [if_pos rfl] at H
                obtain ⟨ji34, hji34⟩ : ∃ j_ : Int, (wrap64 (Int.tdiv (wrap64 ((wrap64 (a3 + x10_1)) - a1_1)) 4)) = j_ := ⟨_, rfl⟩
                replace H : (if 0 ≤ (ji34) then (if (ji34) < (l1_4.length : Int) then (if (rdOf false l1_4 (ji34) = true) then (spec_l21Thing.l0 kj16 l2 a3 t311 (wrap64 (x10_1 + 1)) l1_0 a1_1 a1_2 a1_3 l1_4) else (some false)) else (none)) else (none)) = some r := by first | (rw [hji34] at H; exact H) | (simp only [hji34] at H ⊢; exact H)
                (try rw [hji34] at A32)
                have hji34w : (IntKind.i64.wrap (Int.tdiv (wrap64 ((wrap64 (a3 + x10_1)) - a1_1)) 4)) = ji34 := (i64_w _).trans hji34
                (try rw [hji14] at hji34w)
                by_cases c35 : 0 ≤ (ji34)
                ·rw [if_pos c35] at H
                 have c35b0 : decide (0 ≤ (ji34)) = true := decide_eq_true c35
                 clear c35
                 by_cases c36 : (ji34) < (l1_4.length : Int)
                 ·rw [if_pos c36] at H
                  have c36b0 : decide ((ji34) < (l1_4.length : Int)) = true := decide_eq_true c36
                  clear c36
                  obtain ⟨bq37, hbq37⟩ : ∃ b_ : Bool, b_ = (rdOf false l1_4 (ji34)) := ⟨_, rfl⟩
                  replace H : (if (bq37 = true) then (spec_l21Thing.l0 kj16 l2 a3 t311 (wrap64 (x10_1 + 1)) l1_0 a1_1 a1_2 a1_3 l1_4) else (some false)) = some r := by rw [← hbq37] at H; exact H
                  have Nbq37 := Aside0.mk hbq37
                  clear hbq37
                  by_cases c38 : (bq37 = true)
                  ·subst c38
                   rw [if_pos rfl] at H
                   have H' := Aside0.mk H
                   clear H
                   have p322 : 0 ≤ (x10_1 : Int) := of_decide_eq_true z3
                   have q322 : x10_1 < (t311.length : Int) := of_decide_eq_true z3
                   obtain ⟨ad322, e322, hx322_0⟩ := Kd.at_bool (Kd.R_reads' HO_9.out).2.2 x10_1 p322 q322
                   (try rw [← Nbq29.out] at hx322_0)
                   (try rw [← Nbq37.out] at hx322_0)
                   cases e322
                   replace p322 := eq_true p322
                   replace q322 := eq_true q322
                   obtain ⟨hcz39_0, hcz39_1, hcz39_2, hcz39_3, hcz39_4, hfz39_0, hfz39_1, hfz39_2, hfz39_3, hfz39_4⟩ := cbf5 BK310
                   go_wp2_with (first | (go_at_call 63; (with_reducible refine (spec_l6In.calls (rd l1_0 (ji14)) 1 a1_1 true _ A32.out).mono ?_); rintro e w' ⟨rfl, ⟨nd, rfl⟩⟩; have p324 : 0 ≤ ((ji34) : Int) := of_decide_eq_true z3; have q324 : (ji34) < (l1_4.length : Int) := of_decide_eq_true z3; obtain ⟨ad324, e324, hx324_0⟩ := Kd.at_bool HR1_4.out (ji34) p324 q324; (try rw [← Nbq29.out] at hx324_0); (try rw [← Nbq37.out] at hx324_0); cases e324; replace hx324_0 := (HB.out.cell (World.block_lt_of_cell? w _ hx324_0)).trans hx324_0; replace p324 := eq_true p324; replace q324 := eq_true q324))
                   go_roundg kj16
                   case measure => have := HK1.out; have := HJ16.out; omega
                   case rel => exact ⟨(wrap64 (x10_1 + 1)), z7, H', ⟨by have := HK1.out; have := HJ16.out; omega⟩, ⟨by (with_reducible repeat (first | apply Kd.R_alloc | apply Kd.R_drewN | apply Kd.R_drew)); exact HO_9.out⟩, ⟨by (with_reducible repeat (first | refine blk_drewN ?_ _ | refine blk_drew ?_ | refine blk_alloc ?_ _)); exact BK310.out⟩, ⟨by repeat (first | (with_reducible first | exact HB.out | apply below_alloc | apply pw_below_drewN | apply below_drew1 | refine below_set ?_ GE310.out) | exact HB.out)⟩⟩
                  ·replace c38 := Bool.eq_false_iff.mpr c38
                   subst c38
                   rw [if_neg (show ¬ (false = true) by decide)] at H
                   obtain rfl := Option.some.inj H
                   have p322 : 0 ≤ (x10_1 : Int) := of_decide_eq_true z3
                   have q322 : x10_1 < (t311.length : Int) := of_decide_eq_true z3
                   obtain ⟨ad322, e322, hx322_0⟩ := Kd.at_bool (Kd.R_reads' HO_9.out).2.2 x10_1 p322 q322
                   (try rw [← Nbq29.out] at hx322_0)
                   (try rw [← Nbq37.out] at hx322_0)
                   cases e322
                   replace p322 := eq_true p322
                   replace q322 := eq_true q322
                   obtain ⟨hcz40_0, hcz40_1, hcz40_2, hcz40_3, hcz40_4, hfz40_0, hfz40_1, hfz40_2, hfz40_3, hfz40_4⟩ := cbf5 BK310
                   go_wp2_with (first | (go_at_call 63; (with_reducible refine (spec_l6In.calls (rd l1_0 (ji14)) 1 a1_1 true _ A32.out).mono ?_); rintro e w' ⟨rfl, ⟨nd, rfl⟩⟩; have p324 : 0 ≤ ((ji34) : Int) := of_decide_eq_true z3; have q324 : (ji34) < (l1_4.length : Int) := of_decide_eq_true z3; obtain ⟨ad324, e324, hx324_0⟩ := Kd.at_bool HR1_4.out (ji34) p324 q324; (try rw [← Nbq29.out] at hx324_0); (try rw [← Nbq37.out] at hx324_0); cases e324; replace hx324_0 := (HB.out.cell (World.block_lt_of_cell? w _ hx324_0)).trans hx324_0; replace p324 := eq_true p324; replace q324 := eq_true q324))
                   go_ret
                   exact ⟨by first | rfl | (simp [errW_none, errW_some] <;> rfl) | (simp only [← hji14, ← hji34]; first | rfl | (simp [errW_none, errW_some] <;> rfl)) | (simp [*, errW_none, errW_some] <;> rfl), by repeat (first | (with_reducible first | exact HB.out | apply below_alloc | apply pw_below_drewN | apply below_drew1 | refine below_set ?_ GE310.out) | exact HB.out)⟩
                 ·rw [if_neg c36] at H
                  exact absurd H (by simp)
                ·rw [if_neg c35] at H
                 exact absurd H (by simp)
               ·replace c33 := Bool.eq_false_iff.mpr c33
                subst c33
                rw [if_neg (show ¬ (false = true) by decide)] at H
                have H' := Aside0.mk H
                clear H
                have p322 : 0 ≤ (x10_1 : Int) := of_decide_eq_true z3
                have q322 : x10_1 < (t311.length : Int) := of_decide_eq_true z3
                obtain ⟨ad322, e322, hx322_0⟩ := Kd.at_bool (Kd.R_reads' HO_9.out).2.2 x10_1 p322 q322
                (try rw [← Nbq29.out] at hx322_0)
                cases e322
                replace p322 := eq_true p322
                replace q322 := eq_true q322
                obtain ⟨hcz41_0, hcz41_1, hcz41_2, hcz41_3, hcz41_4, hfz41_0, hfz41_1, hfz41_2, hfz41_3, hfz41_4⟩ := cbf5 BK310
                go_wp2_with (first | (go_at_call 63; (with_reducible refine (spec_l6In.calls (rd l1_0 (ji14)) 1 a1_1 false _ A32.out).mono ?_); rintro e w' ⟨rfl, ⟨nd, rfl⟩⟩))
                go_roundg kj16
                case measure => have := HK1.out; have := HJ16.out; omega
                case rel => exact ⟨(wrap64 (x10_1 + 1)), z7, H', ⟨by have := HK1.out; have := HJ16.out; omega⟩, ⟨by (with_reducible repeat (first | apply Kd.R_alloc | apply Kd.R_drewN | apply Kd.R_drew)); exact HO_9.out⟩, ⟨by (with_reducible repeat (first | refine blk_drewN ?_ _ | refine blk_drew ?_ | refine blk_alloc ?_ _)); exact BK310.out⟩, ⟨by repeat (first | (with_reducible first | exact HB.out | apply below_alloc | apply pw_below_drewN | apply below_drew1 | refine below_set ?_ GE310.out) | exact HB.out)⟩⟩
              ·rw [if_neg c31] at H
               have c31b0 : decide (a1_1 ≤ a3) = false := decide_eq_false c31
               clear c31
               have H' := Aside0.mk H
               clear H
               have p322 : 0 ≤ (x10_1 : Int) := of_decide_eq_true z3
               have q322 : x10_1 < (t311.length : Int) := of_decide_eq_true z3
               obtain ⟨ad322, e322, hx322_0⟩ := Kd.at_bool (Kd.R_reads' HO_9.out).2.2 x10_1 p322 q322
               (try rw [← Nbq29.out] at hx322_0)
               cases e322
               replace p322 := eq_true p322
               replace q322 := eq_true q322
               obtain ⟨hcz42_0, hcz42_1, hcz42_2, hcz42_3, hcz42_4, hfz42_0, hfz42_1, hfz42_2, hfz42_3, hfz42_4⟩ := cbf5 BK310
               go_wp2
               go_roundg kj16
               case measure => have := HK1.out; have := HJ16.out; omega
               case rel => exact ⟨(wrap64 (x10_1 + 1)), z7, H', ⟨by have := HK1.out; have := HJ16.out; omega⟩, ⟨by (with_reducible repeat (first | apply Kd.R_alloc | apply Kd.R_drewN | apply Kd.R_drew)); exact HO_9.out⟩, ⟨by (with_reducible repeat (first | refine blk_drewN ?_ _ | refine blk_drew ?_ | refine blk_alloc ?_ _)); exact BK310.out⟩, ⟨by repeat (first | (with_reducible first | exact HB.out | apply below_alloc | apply pw_below_drewN | apply below_drew1 | refine below_set ?_ GE310.out) | exact HB.out)⟩⟩
             ·replace c30 := Bool.eq_false_iff.mpr c30
              subst c30
              rw [if_neg (show ¬ (false = true) by decide)] at H
              have H' := Aside0.mk H
              clear H
              have p322 : 0 ≤ (x10_1 : Int) := of_decide_eq_true z3
              have q322 : x10_1 < (t311.length : Int) := of_decide_eq_true z3
              obtain ⟨ad322, e322, hx322_0⟩ := Kd.at_bool (Kd.R_reads' HO_9.out).2.2 x10_1 p322 q322
              (try rw [← Nbq29.out] at hx322_0)
              cases e322
              replace p322 := eq_true p322
              replace q322 := eq_true q322
              go_wp2
              go_roundg kj16
              case measure => have := HK1.out; have := HJ16.out; omega
              case rel => exact ⟨(wrap64 (x10_1 + 1)), z7, H', ⟨by have := HK1.out; have := HJ16.out; omega⟩, ⟨by (with_reducible repeat (first | apply Kd.R_alloc | apply Kd.R_drewN | apply Kd.R_drew)); exact HO_9.out⟩, ⟨by (with_reducible repeat (first | refine blk_drewN ?_ _ | refine blk_drew ?_ | refine blk_alloc ?_ _)); exact BK310.out⟩, ⟨by repeat (first | (with_reducible first | exact HB.out | apply below_alloc | apply pw_below_drewN | apply below_drew1 | refine below_set ?_ GE310.out) | exact HB.out)⟩⟩
            ·rw [if_neg c28] at H
             exact absurd H (by simp)
           ·rw [if_neg c27] at H
            exact absurd H (by simp)
       ·rw [if_neg c16] at H
        exact absurd H (by simp)
      ·rw [if_neg c15] at H
       exact absurd H (by simp)
     ·rw [if_neg c13] at H
      have c13b0 : decide (x10_1 < (t311.length : Int)) = false := decide_eq_false c13
      clear c13
      obtain rfl := Option.some.inj H
      obtain ⟨Ao43, co43, eo43⟩ := Kd.R_slice HO_9.out
      subst eo43
      go_wp2
      go_ret
      exact ⟨by first | rfl | (simp [errW_none, errW_some] <;> rfl) | (simp [*, errW_none, errW_some] <;> rfl), by repeat (first | (with_reducible first | exact HB.out | apply below_alloc | apply pw_below_drewN | apply below_drew1 | refine below_set ?_ GE310.out) | exact HB.out)⟩
  ·rw [if_neg c7] at H
   exact absurd H (by simp)
 ·rw [if_neg c6] at H
  exact absurd H (by simp)
end Go.Proofs.Ytfbkpjjnhengfaa.K
namespace Go.Proofs.Ytfbkpjjnhengfaa.K
open Go.RowKit Go.Proofs.YtfbkpjjnhengfaaW.PrintWords Go.Proofs.YtfbkpjjnhengfaaW.PrintLast Go.Proofs.YtfbkpjjnhengfaaW.PrintMore
attribute [local go_sem] max2_int min2_int max_two min_two max_three min_three max_four min_four
set_option linter.unusedVariables false
set_option linter.unusedSimpArgs false
def spec_MemOk.l0 : Nat → List (S99) → List Int → List Bool → Int → List Int → Int → Int → Int → List Bool → Option (Bool)
  | 0, _, _, _, _, _, _, _, _, _ => none
  | k + 1, x0, x5, x7, x8, x326000, x326001, x326002, x326003, x326004 => if x8 < (x5.length : Int) then (if 0 ≤ x8 then ((spec_l21Thing.f k x0 x326000 x326001 x326002 x326003 x326004 x7 (rd x5 x8)).bind fun t335 => (if t335 = true then (spec_MemOk.l0 k x0 x5 x7 (wrap64 (x8 + 1)) x326000 x326001 x326002 x326003 x326004) else (some false))) else (none)) else (some true)
def spec_MemOk.f (k : Nat) (l0 : List (S99)) (l1_0 : List Int) (a1_1 : Int) (a1_2 : Int) (a1_3 : Int) (l1_4 : List Bool) : Option (Bool) := (spec_l21Bounds.f k l0 l1_0 a1_1 a1_2 a1_3 l1_4).bind fun t326 => (if t326 = true then ((spec_l21Walk.f k l0 l1_0 a1_1 a1_2 a1_3 l1_4).bind fun bt327 => (if bt327.2 = true then ((spec_l21Starts.f k (l1_0.length : Int) bt327.1).bind fun t331 => (spec_MemOk.l0 k l0 bt327.1 t331 0 l1_0 a1_1 a1_2 a1_3 l1_4)) else (some false))) else (some false))
def spec_MemOk.T10 : Bool × List (List Nat × List Nat) := (true, [([], []), ([], []), ([], []), ([], []), ([], []), ([3, 4], [3, 4]), ([5], [5]), ([0, 1, 2, 6], [0, 1, 2, 6]), ([7], [7])])
def spec_MemOk.B10 : List Nat := [0, 0, 0, 0, 0, 24, 56, 127, 255]
theorem spec_MemOk.tab10 : rtab .any (opsOf Try.f13 10) = spec_MemOk.T10 := by kernel_rfl
theorem spec_MemOk.bits10 : waitsOk spec_MemOk.T10.2 spec_MemOk.B10 = true := by kernel_rfl
set_option maxHeartbeats 8000000 in
set_option maxRecDepth 100000 in
theorem spec_MemOk.calls (k : Nat) (A0 : Option Addr) (c0 : Nat) (l0 : List (S99)) (A1_0 : Option Addr) (c1_0 : Nat) (l1_0 : List Int) (a1_1 : Int) (a1_2 : Int) (a1_3 : Int) (A1_4 : Option Addr) (c1_4 : Nat) (l1_4 : List Bool) (r : Bool) (w : World) (hr0 : Kd.C k99 w A0 l0.length l0) (hc0 : l0.length ≤ c0) (hr1_0 : Kd.C (Kd.int .i64) w A1_0 l1_0.length l1_0) (hc1_0 : l1_0.length ≤ c1_0) (hr1_4 : Kd.C Kd.bool w A1_4 l1_4.length l1_4) (hc1_4 : l1_4.length ≤ c1_4) (h : spec_MemOk.f k l0 l1_0 a1_1 a1_2 a1_3 l1_4 = some r) :
  Calls Try.prog 13 #[.slice A0 l0.length c0, .agg #[.slice A1_0 l1_0.length c1_0, .int .i64 a1_1, .int .i64 a1_2, .int .i64 a1_3, .slice A1_4 l1_4.length c1_4]] w fun e w' => e = .returned (.bool r) ∧ Below w.heap.size w w' := by
 have hu27 := Try.underlying27
 have HR0 := Aside0.mk hr0
 have HC0 := Aside0.mk hc0
 clear hr0 hc0
 have HR1_0 := Aside0.mk hr1_0
 have HC1_0 := Aside0.mk hc1_0
 clear hr1_0 hc1_0
 have HR1_4 := Aside0.mk hr1_4
 have HC1_4 := Aside0.mk hc1_4
 clear hr1_4 hc1_4
 have HB := Aside0.mk (Below.refl w.heap.size w)
 have H : ((spec_l21Bounds.f k l0 l1_0 a1_1 a1_2 a1_3 l1_4).bind fun t326 => (if t326 = true then ((spec_l21Walk.f k l0 l1_0 a1_1 a1_2 a1_3 l1_4).bind fun bt327 => (if bt327.2 = true then ((spec_l21Starts.f k (l1_0.length : Int) bt327.1).bind fun t331 => (spec_MemOk.l0 k l0 bt327.1 t331 0 l1_0 a1_1 a1_2 a1_3 l1_4)) else (some false))) else (some false))) = some r := h
 clear h
 replace H := Option.bind_eq_some_iff.mp H
 obtain ⟨t326, A30, H⟩ := H
 try dsimp only at H
 have A3 := Aside0.mk A30
 clear A30
 by_cases c4 : t326 = true
 ·subst c4
  rw [if_pos rfl] at H
  replace H := Option.bind_eq_some_iff.mp H
  obtain ⟨⟨t327, t330⟩, A50, H⟩ := H
  try dsimp only at H
  have A5 := Aside0.mk A50
  clear A50
  by_cases c6 : t330 = true
  ·subst c6
   rw [if_pos rfl] at H
   replace H := Option.bind_eq_some_iff.mp H
   obtain ⟨t331, A70, H⟩ := H
   try dsimp only at H
   have A7 := Aside0.mk A70
   clear A70
   have H' := Aside0.mk H
   clear H
   go_enter Try.func13, Try.ntmps13
   go_wp2_with (first | ((with_reducible refine gate_dst (N := 3) rfl ?_); refine box_event ?hg (N := 3) ?hd (cs := #[.slice A1_0 l1_0.length c1_0, .int .i64 a1_1, .int .i64 a1_2, .int .i64 a1_3, .slice A1_4 l1_4.length c1_4]) (t := 27) ?hr ?_; (case hd => rfl); (case hg => rfl); (case hr => first | (go_simp; done) | (go_simp; rfl)); intro gb325 hg w8 hbox hb; have BK325 := Aside0.mk (hbox); have GW325 := Aside0.mk ((by rw [hg]; exact (below_size z2) : w.heap.size ≤ gb325)); have GE325 := Aside0.mk ((by rw [hg]; exact (below_size z2) : w.heap.size ≤ gb325)); replace HB := Aside0.mk (below_step z2 hb); clear hb hbox hg; obtain ⟨hcz9_0, hcz9_1, hcz9_2, hcz9_3, hcz9_4, hfz9_0, hfz9_1, hfz9_2, hfz9_3, hfz9_4⟩ := cbf5 BK325) | ((with_reducible refine gate_callee (f := 30) rfl ?_); refine goesL_ (some 11) rfl rfl Try.func30 (by kernel_rfl) rfl #[.slice A0 l0.length c0, .agg #[.slice A1_0 l1_0.length c1_0, .int .i64 a1_1, .int .i64 a1_2, .int .i64 a1_3, .slice A1_4 l1_4.length c1_4]] rfl z1 ?_; (with_reducible refine (spec_l21Bounds.calls k _ _ l0 _ _ l1_0 a1_1 a1_2 a1_3 _ _ l1_4 true _ ?side1 ?side2 ?side3 ?side4 ?side5 ?side6 A3.out).mono ?_); (case side1 => repeat (first | exact (Kd.C_below HR0.out HB.out) | (with_reducible refine Kd.C_alloc ?_ _) | (with_reducible refine Kd.C_drewN ?_ _) | (with_reducible refine Kd.C_drew ?_))); (case side2 => exact HC0.out); (case side3 => repeat (first | exact (Kd.C_below HR1_0.out HB.out) | (with_reducible refine Kd.C_alloc ?_ _) | (with_reducible refine Kd.C_drewN ?_ _) | (with_reducible refine Kd.C_drew ?_))); (case side4 => exact HC1_0.out); (case side5 => repeat (first | exact (Kd.C_below HR1_4.out HB.out) | (with_reducible refine Kd.C_alloc ?_ _) | (with_reducible refine Kd.C_drewN ?_ _) | (with_reducible refine Kd.C_drew ?_))); (case side6 => exact HC1_4.out); rintro e w10 ⟨rfl, hb⟩; refine ⟨_, rfl, ?_⟩; replace BK325 := Aside0.mk (blk_below (g := gb325) (o := .cells #[.slice A1_0 l1_0.length c1_0, .int .i64 a1_1, .int .i64 a1_2, .int .i64 a1_3, .slice A1_4 l1_4.length c1_4] 27 (0, 0)) z18 hb); replace HB := Aside0.mk (below_step z11 hb); (try clear hb); (try clear hb2); (try clear hk); (try clear hi); obtain ⟨hcz11_0, hcz11_1, hcz11_2, hcz11_3, hcz11_4, hfz11_0, hfz11_1, hfz11_2, hfz11_3, hfz11_4⟩ := cbf5 BK325) | ((with_reducible refine gate_callee (f := 29) rfl ?_); refine goesL_ (some 16) rfl rfl Try.func29 (by kernel_rfl) rfl #[.slice A0 l0.length c0, .agg #[.slice A1_0 l1_0.length c1_0, .int .i64 a1_1, .int .i64 a1_2, .int .i64 a1_3, .slice A1_4 l1_4.length c1_4]] rfl z1 ?_; (with_reducible refine (spec_l21Walk.calls k _ _ l0 _ _ l1_0 a1_1 a1_2 a1_3 _ _ l1_4 t327 true _ ?side1 ?side2 ?side3 ?side4 ?side5 ?side6 A5.out).mono ?_); (case side1 => repeat (first | exact (Kd.C_below HR0.out HB.out) | (with_reducible refine Kd.C_alloc ?_ _) | (with_reducible refine Kd.C_drewN ?_ _) | (with_reducible refine Kd.C_drew ?_))); (case side2 => exact HC0.out); (case side3 => repeat (first | exact (Kd.C_below HR1_0.out HB.out) | (with_reducible refine Kd.C_alloc ?_ _) | (with_reducible refine Kd.C_drewN ?_ _) | (with_reducible refine Kd.C_drew ?_))); (case side4 => exact HC1_0.out); (case side5 => repeat (first | exact (Kd.C_below HR1_4.out HB.out) | (with_reducible refine Kd.C_alloc ?_ _) | (with_reducible refine Kd.C_drewN ?_ _) | (with_reducible refine Kd.C_drew ?_))); (case side6 => exact HC1_4.out); rintro e w12 ⟨v328, rfl, ho0, hb⟩; refine ⟨_, rfl, ?_⟩; have HO329 := Aside0.mk (Kd.R_lower ho0 (below_size z11)); replace BK325 := Aside0.mk (blk_below (g := gb325) (o := .cells #[.slice A1_0 l1_0.length c1_0, .int .i64 a1_1, .int .i64 a1_2, .int .i64 a1_3, .slice A1_4 l1_4.length c1_4] 27 (0, 0)) z18 hb); replace HB := Aside0.mk (below_step z11 hb); (try clear hb); (try clear hb2); (try clear hk); (try clear hi); (try clear ho0); obtain ⟨hcz13_0, hcz13_1, hcz13_2, hcz13_3, hcz13_4, hfz13_0, hfz13_1, hfz13_2, hfz13_3, hfz13_4⟩ := cbf5 BK325; obtain ⟨Ao14, co14, eo14⟩ := Kd.R_slice HO329.out; subst eo14) | ((with_reducible refine gate_callee (f := 31) rfl ?_); refine goesL_ (some 25) rfl rfl Try.func31 (by kernel_rfl) rfl #[.int .i64 (l1_0.length : Int), .slice Ao14 t327.length co14] rfl z1 ?_; (with_reducible refine (spec_l21Starts.calls k (l1_0.length : Int) _ _ t327 t331 _ ?side1 ?side2 A7.out).mono ?_); (case side1 => repeat (first | exact (Kd.R_reads' HO329.out).2.2 | (with_reducible refine Kd.C_alloc ?_ _) | (with_reducible refine Kd.C_drewN ?_ _) | (with_reducible refine Kd.C_drew ?_))); (case side2 => exact (Kd.R_reads' HO329.out).2.1); rintro e w15 ⟨v332, rfl, ho0, hb⟩; refine ⟨_, rfl, ?_⟩; have HO333 := Aside0.mk (Kd.R_lower ho0 (below_size z11)); replace HO329 := Aside0.mk (Kd.R_below (by (with_reducible repeat (first | apply Kd.R_alloc | apply Kd.R_drewN | apply Kd.R_drew)); exact HO329.out) hb); replace BK325 := Aside0.mk (blk_below (g := gb325) (o := .cells #[.slice A1_0 l1_0.length c1_0, .int .i64 a1_1, .int .i64 a1_2, .int .i64 a1_3, .slice A1_4 l1_4.length c1_4] 27 (0, 0)) z18 hb); replace HB := Aside0.mk (below_step z11 hb); (try clear hb); (try clear hb2); (try clear hk); (try clear hi); (try clear ho0)))
   go_loopg [8] k (fun kq v8 w' => ∃ (x8_1 : Int), v8 = .int .i64 x8_1 ∧ Aside0 (spec_MemOk.l0 kq l0 t327 t331 x8_1 l1_0 a1_1 a1_2 a1_3 l1_4 = some r) ∧ Aside0 (kq ≤ k) ∧ Aside0 (Kd.R (Kd.int .i64) 3 w' w.heap.size (fun _ => True) (.slice Ao14 t327.length co14) t327) ∧ Aside0 (Kd.R Kd.bool 4 w' w.heap.size (fun _ => True) v332 t331) ∧ Aside0 (w'.heap[gb325]? = some (.cells #[(.slice A1_0 l1_0.length c1_0), .int .i64 a1_1, .int .i64 a1_2, .int .i64 a1_3, (.slice A1_4 l1_4.length c1_4)] 27 (0, 0))) ∧ Aside0 (Below w.heap.size w w'))
   case atStart => exact ⟨(0), z7, H', ⟨Nat.le_refl _⟩, ⟨by (with_reducible repeat (first | apply Kd.R_alloc | apply Kd.R_drewN | apply Kd.R_drew)); exact HO329.out⟩, ⟨by (with_reducible repeat (first | apply Kd.R_alloc | apply Kd.R_drewN | apply Kd.R_drew)); exact HO333.out⟩, ⟨by (with_reducible repeat (first | refine blk_drewN ?_ _ | refine blk_drew ?_ | refine blk_alloc ?_ _)); exact BK325.out⟩, ⟨by repeat (first | (with_reducible first | exact HB.out | apply below_alloc | apply pw_below_drewN | apply below_drew1 | refine below_set ?_ GE325.out) | exact HB.out)⟩⟩
   case round =>
    clear H'
    try clear c1
    try clear c2
    try clear p2
    try clear c3
    try clear c4
    try clear c6
    try clear c13
    try clear hcz11_0
    try clear hcz11_1
    try clear hcz11_2
    try clear hcz11_3
    try clear hcz11_4
    try clear hcz13_0
    try clear hcz13_1
    try clear hcz13_2
    try clear hcz13_3
    try clear hcz13_4
    try clear hcz9_0
    try clear hcz9_1
    try clear hcz9_2
    try clear hcz9_3
    try clear hcz9_4
    try clear hfz11_0
    try clear hfz11_1
    try clear hfz11_2
    try clear hfz11_3
    try clear hfz11_4
    try clear hfz13_0
    try clear hfz13_1
    try clear hfz13_2
    try clear hfz13_3
    try clear hfz13_4
    try clear hfz9_0
    try clear hfz9_1
    try clear hfz9_2
    try clear hfz9_3
    try clear hfz9_4
    obtain ⟨x8_1, rfl, HA, HK1, HO_5, HO_7, BK325, HB⟩ := hrel
    cases gk with
    | zero => exact absurd HA.out (by simp [spec_MemOk.l0])
    | succ k1 =>
     have H := HA.out
     clear HA
     simp only [spec_MemOk.l0] at H
     by_cases c16 : x8_1 < (t327.length : Int)
     ·rw [if_pos c16] at H
      have c16b0 : decide (x8_1 < (t327.length : Int)) = true := decide_eq_true c16
      clear c16
      by_cases c17 : 0 ≤ x8_1
      ·rw [if_pos c17] at H
       have c17b0 : decide (0 ≤ x8_1) = true := decide_eq_true c17
       clear c17
       replace H := Option.bind_eq_some_iff.mp H
       obtain ⟨t335, A180, H⟩ := H
       try dsimp only at H
       have A18 := Aside0.mk A180
       clear A180
       by_cases c19 : t335 = true
       ·subst c19
        rw [if_pos rfl] at H
        have H' := Aside0.mk H
        clear H
        try go_wp2
        have n0_ := Aside0.mk (Kd.R_drew HO_5.out)
        have n1_ := Aside0.mk (Kd.R_drew HO_7.out)
        have n2_ := Aside0.mk (blk_drew BK325.out)
        have n3_ := Aside0.mk (below_drew1 HB.out)
        clear HO_5
        clear HO_7
        clear BK325
        clear HB
        have HO_5 := n0_
        have HO_7 := n1_
        have BK325 := n2_
        have HB := n3_
        clear n0_ n1_ n2_ n3_
        have p334 : 0 ≤ (x8_1 : Int) := of_decide_eq_true z3
        have q334 : x8_1 < (t327.length : Int) := of_decide_eq_true z3
        obtain ⟨ad334, e334, hx334_0⟩ := Kd.at_int (Kd.R_reads' HO_5.out).2.2 x8_1 p334 q334
        cases e334
        replace p334 := eq_true p334
        replace q334 := eq_true q334
        obtain ⟨Ao21, co21, eo21⟩ := Kd.R_slice HO_7.out
        (first | subst eo21 | (injection eo21 with f1_ f2_ f3_; have f4_ := f1_.symm; have f5_ := f3_.symm; clear f1_ f2_ f3_; subst f4_; subst f5_))
        refine start_ (n := 9) (S := fun w' => w'.cell? ⟨gb325, 0, none⟩ = some (.slice A1_0 l1_0.length c1_0) ∧ w'.cell? ⟨gb325, 1, none⟩ = some (.int .i64 a1_1) ∧ w'.cell? ⟨gb325, 2, none⟩ = some (.int .i64 a1_2) ∧ w'.cell? ⟨gb325, 3, none⟩ = some (.int .i64 a1_3) ∧ w'.cell? ⟨gb325, 4, none⟩ = some (.slice A1_4 l1_4.length c1_4) ∧ w'.cell? (ad334.add (x8_1).toNat) = some (.int .i64 (rd t327 x8_1))) (ds := []) #[false, false, false, false, false, false, false, false, false] (by kernel_rfl) rfl rfl ⟨(blk_cell BK325.out 0).trans rfl, (blk_cell BK325.out 1).trans rfl, (blk_cell BK325.out 2).trans rfl, (blk_cell BK325.out 3).trans rfl, (blk_cell BK325.out 4).trans rfl, hx334_0⟩ (fun hHeld => ?_); refine with_tabW spec_MemOk.tab10 spec_MemOk.bits10 (fun HT_ HW_ => ?_)
        generalize wr.drew = w20 at HO_5 HO_7 BK325 HB hx334_0 hHeld ⊢
        refine pS 0 32 #[true, false, false, false, false, false, false, false, false] ?_ (hc := (any_of HT_.out (by kernel_rfl)))
        refine pS 2 34 #[true, false, true, false, false, false, false, false, false] ?_ (hc := (any_of HT_.out (by kernel_rfl)))
        refine pS 3 35 #[true, false, true, true, false, false, false, false, false] ?_ (hc := (any_of HT_.out (by kernel_rfl)))
        refine pS 4 36 #[true, false, true, true, true, false, false, false, false] ?_ (hc := (any_of HT_.out (by kernel_rfl)))
        refine pS 5 37 #[true, false, true, true, true, true, false, false, false] ?_ (hc := (any_of HT_.out (by kernel_rfl)))
        refine tS 1 33 #[true, true, true, true, true, true, false, false, false] rfl rfl (take_ofW HT_.out HW_.out (by kernel_rfl)) hHeld z4 ?_
        refine tS 6 38 #[true, true, true, true, true, true, true, false, false] rfl rfl (take_ofW HT_.out HW_.out (by kernel_rfl)) hHeld z4 ?_
        refine one_ (i := 7) (N := some 39) #[true, true, true, true, true, true, true, true, false] rfl rfl (one_of HT_.out (by kernel_rfl)) (by decide) (fun K hK => ?_)
        refine goes_ Try.func32 (by kernel_rfl) rfl #[.slice A0 l0.length c0, .agg #[.slice A1_0 l1_0.length c1_0, .int .i64 a1_1, .int .i64 a1_2, .int .i64 a1_3, .slice A1_4 l1_4.length c1_4], .slice Ao21 t331.length co21, .int .i64 (rd t327 x8_1)] (by rfl) rfl rfl z1 ?_
        with_reducible refine (spec_l21Thing.calls k1 _ _ l0 _ _ l1_0 a1_1 a1_2 a1_3 _ _ l1_4 _ _ t331 (rd t327 x8_1) true _ ?side1 ?side2 ?side3 ?side4 ?side5 ?side6 ?side7 ?side8 A18.out).mono ?_
        (case side1 => repeat (first | exact (Kd.C_below HR0.out HB.out) | (with_reducible refine Kd.C_alloc ?_ _) | (with_reducible refine Kd.C_drewN ?_ _) | (with_reducible refine Kd.C_drew ?_)))
        (case side2 => exact HC0.out)
        (case side3 => repeat (first | exact (Kd.C_below HR1_0.out HB.out) | (with_reducible refine Kd.C_alloc ?_ _) | (with_reducible refine Kd.C_drewN ?_ _) | (with_reducible refine Kd.C_drew ?_)))
        (case side4 => exact HC1_0.out)
        (case side5 => repeat (first | exact (Kd.C_below HR1_4.out HB.out) | (with_reducible refine Kd.C_alloc ?_ _) | (with_reducible refine Kd.C_drewN ?_ _) | (with_reducible refine Kd.C_drew ?_)))
        (case side6 => exact HC1_4.out)
        (case side7 => repeat (first | exact (Kd.R_reads' HO_7.out).2.2 | (with_reducible refine Kd.C_alloc ?_ _) | (with_reducible refine Kd.C_drewN ?_ _) | (with_reducible refine Kd.C_drew ?_)))
        (case side8 => exact (Kd.R_reads' HO_7.out).2.1)
        rintro e w22 ⟨rfl, hb⟩
        have HS5_ := (hb.cell (World.block_lt_of_cell? _ _ (hHeld.2.2.2.2.2))).trans (hHeld.2.2.2.2.2)
        refine ⟨_, rfl, ?_⟩
        have n0_ := Aside0.mk (Kd.R_below (by (with_reducible repeat (first | apply Kd.R_alloc | apply Kd.R_drewN | apply Kd.R_drew)); exact HO_5.out) hb)
        have n1_ := Aside0.mk (Kd.R_below (by (with_reducible repeat (first | apply Kd.R_alloc | apply Kd.R_drewN | apply Kd.R_drew)); exact HO_7.out) hb)
        have n2_ := Aside0.mk (blk_below (g := gb325) (o := .cells #[.slice A1_0 l1_0.length c1_0, .int .i64 a1_1, .int .i64 a1_2, .int .i64 a1_3, .slice A1_4 l1_4.length c1_4] 27 (0, 0)) z18 hb)
        have n3_ := Aside0.mk (below_step z11 hb)
        clear HO_5
        clear HO_7
        clear BK325
        clear HB
        have HO_5 := n0_
        have HO_7 := n1_
        have BK325 := n2_
        have HB := n3_
        clear n0_ n1_ n2_ n3_
        (try clear hb)
        (try clear hb2)
        (try clear hk)
        (try clear hi)
        refine hK.out _ _ ⟨(blk_cell BK325.out 0).trans rfl, (blk_cell BK325.out 1).trans rfl, (blk_cell BK325.out 2).trans rfl, (blk_cell BK325.out 3).trans rfl, (blk_cell BK325.out 4).trans rfl, HS5_⟩ (fun hHeld => ?_)
        clear hK K
        refine norm_ (a' := ?_) ?_ ?_
        rotate_left
        ·show Act.put _ (some 39) _ = _
         simp only [Act.put, lA1, lA2, lA3, i64_w, i32_w]
         rfl
        refine pS 8 40 #[true, true, true, true, true, true, true, true, true] ?_ (hc := (any_of HT_.out (by kernel_rfl)))
        refine done_ (done_of HT_.out (by kernel_rfl)) ?_
        try go_wp2
        go_roundg k1
        case measure => have := HK1.out; omega
        case rel => exact ⟨(wrap64 (x8_1 + 1)), z7, H', ⟨by have := HK1.out; omega⟩, ⟨by (with_reducible repeat (first | apply Kd.R_alloc | apply Kd.R_drewN | apply Kd.R_drew)); exact HO_5.out⟩, ⟨by (with_reducible repeat (first | apply Kd.R_alloc | apply Kd.R_drewN | apply Kd.R_drew)); exact HO_7.out⟩, ⟨by (with_reducible repeat (first | refine blk_drewN ?_ _ | refine blk_drew ?_ | refine blk_alloc ?_ _)); exact BK325.out⟩, ⟨by repeat (first | (with_reducible first | exact HB.out | apply below_alloc | apply pw_below_drewN | apply below_drew1 | refine below_set ?_ GE325.out) | exact HB.out)⟩⟩
       ·replace c19 := Bool.eq_false_iff.mpr c19
        subst c19
        rw [if_neg (show ¬ (false = true) by decide)] at H
        obtain rfl := Option.some.inj H
        try go_wp2
        have n0_ := Aside0.mk (Kd.R_drew HO_5.out)
        have n1_ := Aside0.mk (Kd.R_drew HO_7.out)
        have n2_ := Aside0.mk (blk_drew BK325.out)
        have n3_ := Aside0.mk (below_drew1 HB.out)
        clear HO_5
        clear HO_7
        clear BK325
        clear HB
        have HO_5 := n0_
        have HO_7 := n1_
        have BK325 := n2_
        have HB := n3_
        clear n0_ n1_ n2_ n3_
        have p334 : 0 ≤ (x8_1 : Int) := of_decide_eq_true z3
        have q334 : x8_1 < (t327.length : Int) := of_decide_eq_true z3
        obtain ⟨ad334, e334, hx334_0⟩ := Kd.at_int (Kd.R_reads' HO_5.out).2.2 x8_1 p334 q334
        cases e334
        replace p334 := eq_true p334
        replace q334 := eq_true q334
        obtain ⟨Ao24, co24, eo24⟩ := Kd.R_slice HO_7.out
        (first | subst eo24 | (injection eo24 with f1_ f2_ f3_; have f4_ := f1_.symm; have f5_ := f3_.symm; clear f1_ f2_ f3_; subst f4_; subst f5_))
        refine start_ (n := 9) (S := fun w' => w'.cell? ⟨gb325, 0, none⟩ = some (.slice A1_0 l1_0.length c1_0) ∧ w'.cell? ⟨gb325, 1, none⟩ = some (.int .i64 a1_1) ∧ w'.cell? ⟨gb325, 2, none⟩ = some (.int .i64 a1_2) ∧ w'.cell? ⟨gb325, 3, none⟩ = some (.int .i64 a1_3) ∧ w'.cell? ⟨gb325, 4, none⟩ = some (.slice A1_4 l1_4.length c1_4) ∧ w'.cell? (ad334.add (x8_1).toNat) = some (.int .i64 (rd t327 x8_1))) (ds := []) #[false, false, false, false, false, false, false, false, false] (by kernel_rfl) rfl rfl ⟨(blk_cell BK325.out 0).trans rfl, (blk_cell BK325.out 1).trans rfl, (blk_cell BK325.out 2).trans rfl, (blk_cell BK325.out 3).trans rfl, (blk_cell BK325.out 4).trans rfl, hx334_0⟩ (fun hHeld => ?_); refine with_tabW spec_MemOk.tab10 spec_MemOk.bits10 (fun HT_ HW_ => ?_)
        generalize wr.drew = w23 at HO_5 HO_7 BK325 HB hx334_0 hHeld ⊢
        refine pS 0 32 #[true, false, false, false, false, false, false, false, false] ?_ (hc := (any_of HT_.out (by kernel_rfl)))
        refine pS 2 34 #[true, false, true, false, false, false, false, false, false] ?_ (hc := (any_of HT_.out (by kernel_rfl)))
        refine pS 3 35 #[true, false, true, true, false, false, false, false, false] ?_ (hc := (any_of HT_.out (by kernel_rfl)))
        refine pS 4 36 #[true, false, true, true, true, false, false, false, false] ?_ (hc := (any_of HT_.out (by kernel_rfl)))
        refine pS 5 37 #[true, false, true, true, true, true, false, false, false] ?_ (hc := (any_of HT_.out (by kernel_rfl)))
        refine tS 1 33 #[true, true, true, true, true, true, false, false, false] rfl rfl (take_ofW HT_.out HW_.out (by kernel_rfl)) hHeld z4 ?_
        refine tS 6 38 #[true, true, true, true, true, true, true, false, false] rfl rfl (take_ofW HT_.out HW_.out (by kernel_rfl)) hHeld z4 ?_
        refine one_ (i := 7) (N := some 39) #[true, true, true, true, true, true, true, true, false] rfl rfl (one_of HT_.out (by kernel_rfl)) (by decide) (fun K hK => ?_)
        refine goes_ Try.func32 (by kernel_rfl) rfl #[.slice A0 l0.length c0, .agg #[.slice A1_0 l1_0.length c1_0, .int .i64 a1_1, .int .i64 a1_2, .int .i64 a1_3, .slice A1_4 l1_4.length c1_4], .slice Ao24 t331.length co24, .int .i64 (rd t327 x8_1)] (by rfl) rfl rfl z1 ?_
        with_reducible refine (spec_l21Thing.calls k1 _ _ l0 _ _ l1_0 a1_1 a1_2 a1_3 _ _ l1_4 _ _ t331 (rd t327 x8_1) false _ ?side1 ?side2 ?side3 ?side4 ?side5 ?side6 ?side7 ?side8 A18.out).mono ?_
        (case side1 => repeat (first | exact (Kd.C_below HR0.out HB.out) | (with_reducible refine Kd.C_alloc ?_ _) | (with_reducible refine Kd.C_drewN ?_ _) | (with_reducible refine Kd.C_drew ?_)))
        (case side2 => exact HC0.out)
        (case side3 => repeat (first | exact (Kd.C_below HR1_0.out HB.out) | (with_reducible refine Kd.C_alloc ?_ _) | (with_reducible refine Kd.C_drewN ?_ _) | (with_reducible refine Kd.C_drew ?_)))
        (case side4 => exact HC1_0.out)
        (case side5 => repeat (first | exact (Kd.C_below HR1_4.out HB.out) | (with_reducible refine Kd.C_alloc ?_ _) | (with_reducible refine Kd.C_drewN ?_ _) | (with_reducible refine Kd.C_drew ?_)))
        (case side6 => exact HC1_4.out)
        (case side7 => repeat (first | exact (Kd.R_reads' HO_7.out).2.2 | (with_reducible refine Kd.C_alloc ?_ _) | (with_reducible refine Kd.C_drewN ?_ _) | (with_reducible refine Kd.C_drew ?_)))
        (case side8 => exact (Kd.R_reads' HO_7.out).2.1)
        rintro e w25 ⟨rfl, hb⟩
        have HS5_ := (hb.cell (World.block_lt_of_cell? _ _ (hHeld.2.2.2.2.2))).trans (hHeld.2.2.2.2.2)
        refine ⟨_, rfl, ?_⟩
        have n0_ := Aside0.mk (Kd.R_below (by (with_reducible repeat (first | apply Kd.R_alloc | apply Kd.R_drewN | apply Kd.R_drew)); exact HO_5.out) hb)
        have n1_ := Aside0.mk (Kd.R_below (by (with_reducible repeat (first | apply Kd.R_alloc | apply Kd.R_drewN | apply Kd.R_drew)); exact HO_7.out) hb)
        have n2_ := Aside0.mk (blk_below (g := gb325) (o := .cells #[.slice A1_0 l1_0.length c1_0, .int .i64 a1_1, .int .i64 a1_2, .int .i64 a1_3, .slice A1_4 l1_4.length c1_4] 27 (0, 0)) z18 hb)
        have n3_ := Aside0.mk (below_step z11 hb)
        clear HO_5
        clear HO_7
        clear BK325
        clear HB
        have HO_5 := n0_
        have HO_7 := n1_
        have BK325 := n2_
        have HB := n3_
        clear n0_ n1_ n2_ n3_
        (try clear hb)
        (try clear hb2)
        (try clear hk)
        (try clear hi)
        refine hK.out _ _ ⟨(blk_cell BK325.out 0).trans rfl, (blk_cell BK325.out 1).trans rfl, (blk_cell BK325.out 2).trans rfl, (blk_cell BK325.out 3).trans rfl, (blk_cell BK325.out 4).trans rfl, HS5_⟩ (fun hHeld => ?_)
        clear hK K
        refine norm_ (a' := ?_) ?_ ?_
        rotate_left
        ·show Act.put _ (some 39) _ = _
         simp only [Act.put, lA1, lA2, lA3, i64_w, i32_w]
         rfl
        refine pS 8 40 #[true, true, true, true, true, true, true, true, true] ?_ (hc := (any_of HT_.out (by kernel_rfl)))
        refine done_ (done_of HT_.out (by kernel_rfl)) ?_
        try go_wp2
        go_ret
        exact ⟨by first | rfl | (simp [errW_none, errW_some] <;> rfl) | (simp [*, errW_none, errW_some] <;> rfl), by repeat (first | (with_reducible first | exact HB.out | apply below_alloc | apply pw_below_drewN | apply below_drew1 | refine below_set ?_ GE325.out) | exact HB.out)⟩
      ·rw [if_neg c17] at H
       exact absurd H (by simp)
     ·rw [if_neg c16] at H
      have c16b0 : decide (x8_1 < (t327.length : Int)) = false := decide_eq_false c16
      clear c16
      obtain rfl := Option.some.inj H
      go_wp2
      go_ret
      exact ⟨by first | rfl | (simp [errW_none, errW_some] <;> rfl) | (simp [*, errW_none, errW_some] <;> rfl), by repeat (first | (with_reducible first | exact HB.out | apply below_alloc | apply pw_below_drewN | apply below_drew1 | refine below_set ?_ GE325.out) | exact HB.out)⟩
  ·replace c6 := Bool.eq_false_iff.mpr c6
   subst c6
   rw [if_neg (show ¬ (false = true) by decide)] at H
   obtain rfl := Option.some.inj H
   go_enter Try.func13, Try.ntmps13
   go_wp2_with (first | ((with_reducible refine gate_dst (N := 3) rfl ?_); refine box_event ?hg (N := 3) ?hd (cs := #[.slice A1_0 l1_0.length c1_0, .int .i64 a1_1, .int .i64 a1_2, .int .i64 a1_3, .slice A1_4 l1_4.length c1_4]) (t := 27) ?hr ?_; (case hd => rfl); (case hg => rfl); (case hr => first | (go_simp; done) | (go_simp; rfl)); intro gb325 hg w26 hbox hb; have BK325 := Aside0.mk (hbox); have GW325 := Aside0.mk ((by rw [hg]; exact (below_size z2) : w.heap.size ≤ gb325)); have GE325 := Aside0.mk ((by rw [hg]; exact (below_size z2) : w.heap.size ≤ gb325)); replace HB := Aside0.mk (below_step z2 hb); clear hb hbox hg; obtain ⟨hcz27_0, hcz27_1, hcz27_2, hcz27_3, hcz27_4, hfz27_0, hfz27_1, hfz27_2, hfz27_3, hfz27_4⟩ := cbf5 BK325) | ((with_reducible refine gate_callee (f := 30) rfl ?_); refine goesL_ (some 11) rfl rfl Try.func30 (by kernel_rfl) rfl #[.slice A0 l0.length c0, .agg #[.slice A1_0 l1_0.length c1_0, .int .i64 a1_1, .int .i64 a1_2, .int .i64 a1_3, .slice A1_4 l1_4.length c1_4]] rfl z1 ?_; (with_reducible refine (spec_l21Bounds.calls k _ _ l0 _ _ l1_0 a1_1 a1_2 a1_3 _ _ l1_4 true _ ?side1 ?side2 ?side3 ?side4 ?side5 ?side6 A3.out).mono ?_); (case side1 => repeat (first | exact (Kd.C_below HR0.out HB.out) | (with_reducible refine Kd.C_alloc ?_ _) | (with_reducible refine Kd.C_drewN ?_ _) | (with_reducible refine Kd.C_drew ?_))); (case side2 => exact HC0.out); (case side3 => repeat (first | exact (Kd.C_below HR1_0.out HB.out) | (with_reducible refine Kd.C_alloc ?_ _) | (with_reducible refine Kd.C_drewN ?_ _) | (with_reducible refine Kd.C_drew ?_))); (case side4 => exact HC1_0.out); (case side5 => repeat (first | exact (Kd.C_below HR1_4.out HB.out) | (with_reducible refine Kd.C_alloc ?_ _) | (with_reducible refine Kd.C_drewN ?_ _) | (with_reducible refine Kd.C_drew ?_))); (case side6 => exact HC1_4.out); rintro e w28 ⟨rfl, hb⟩; refine ⟨_, rfl, ?_⟩; replace BK325 := Aside0.mk (blk_below (g := gb325) (o := .cells #[.slice A1_0 l1_0.length c1_0, .int .i64 a1_1, .int .i64 a1_2, .int .i64 a1_3, .slice A1_4 l1_4.length c1_4] 27 (0, 0)) z18 hb); replace HB := Aside0.mk (below_step z11 hb); (try clear hb); (try clear hb2); (try clear hk); (try clear hi); obtain ⟨hcz29_0, hcz29_1, hcz29_2, hcz29_3, hcz29_4, hfz29_0, hfz29_1, hfz29_2, hfz29_3, hfz29_4⟩ := cbf5 BK325) | ((with_reducible refine gate_callee (f := 29) rfl ?_); refine goesL_ (some 16) rfl rfl Try.func29 (by kernel_rfl) rfl #[.slice A0 l0.length c0, .agg #[.slice A1_0 l1_0.length c1_0, .int .i64 a1_1, .int .i64 a1_2, .int .i64 a1_3, .slice A1_4 l1_4.length c1_4]] rfl z1 ?_; (with_reducible refine (spec_l21Walk.calls k _ _ l0 _ _ l1_0 a1_1 a1_2 a1_3 _ _ l1_4 t327 false _ ?side1 ?side2 ?side3 ?side4 ?side5 ?side6 A5.out).mono ?_); (case side1 => repeat (first | exact (Kd.C_below HR0.out HB.out) | (with_reducible refine Kd.C_alloc ?_ _) | (with_reducible refine Kd.C_drewN ?_ _) | (with_reducible refine Kd.C_drew ?_))); (case side2 => exact HC0.out); (case side3 => repeat (first | exact (Kd.C_below HR1_0.out HB.out) | (with_reducible refine Kd.C_alloc ?_ _) | (with_reducible refine Kd.C_drewN ?_ _) | (with_reducible refine Kd.C_drew ?_))); (case side4 => exact HC1_0.out); (case side5 => repeat (first | exact (Kd.C_below HR1_4.out HB.out) | (with_reducible refine Kd.C_alloc ?_ _) | (with_reducible refine Kd.C_drewN ?_ _) | (with_reducible refine Kd.C_drew ?_))); (case side6 => exact HC1_4.out); rintro e w30 ⟨v328, rfl, ho0, hb⟩; refine ⟨_, rfl, ?_⟩; have HO329 := Aside0.mk (Kd.R_lower ho0 (below_size z11)); replace BK325 := Aside0.mk (blk_below (g := gb325) (o := .cells #[.slice A1_0 l1_0.length c1_0, .int .i64 a1_1, .int .i64 a1_2, .int .i64 a1_3, .slice A1_4 l1_4.length c1_4] 27 (0, 0)) z18 hb); replace HB := Aside0.mk (below_step z11 hb); (try clear hb); (try clear hb2); (try clear hk); (try clear hi); (try clear ho0)))
   go_ret
   exact ⟨by first | rfl | (simp [errW_none, errW_some] <;> rfl) | (simp [*, errW_none, errW_some] <;> rfl), by repeat (first | (with_reducible first | exact HB.out | apply below_alloc | apply pw_below_drewN | apply below_drew1 | refine below_set ?_ GE325.out) | exact HB.out)⟩
 ·replace c4 := Bool.eq_false_iff.mpr c4
  subst c4
  rw [if_neg (show ¬ (false = true) by decide)] at H
  obtain rfl := Option.some.inj H
  go_enter Try.func13, Try.ntmps13
  go_wp2_with (first | ((with_reducible refine gate_dst (N := 3) rfl ?_); refine box_event ?hg (N := 3) ?hd (cs := #[.slice A1_0 l1_0.length c1_0, .int .i64 a1_1, .int .i64 a1_2, .int .i64 a1_3, .slice A1_4 l1_4.length c1_4]) (t := 27) ?hr ?_; (case hd => rfl); (case hg => rfl); (case hr => first | (go_simp; done) | (go_simp; rfl)); intro gb325 hg w31 hbox hb; have BK325 := Aside0.mk (hbox); have GW325 := Aside0.mk ((by rw [hg]; exact (below_size z2) : w.heap.size ≤ gb325)); have GE325 := Aside0.mk ((by rw [hg]; exact (below_size z2) : w.heap.size ≤ gb325)); replace HB := Aside0.mk (below_step z2 hb); clear hb hbox hg; obtain ⟨hcz32_0, hcz32_1, hcz32_2, hcz32_3, hcz32_4, hfz32_0, hfz32_1, hfz32_2, hfz32_3, hfz32_4⟩ := cbf5 BK325) | ((with_reducible refine gate_callee (f := 30) rfl ?_); refine goesL_ (some 11) rfl rfl Try.func30 (by kernel_rfl) rfl #[.slice A0 l0.length c0, .agg #[.slice A1_0 l1_0.length c1_0, .int .i64 a1_1, .int .i64 a1_2, .int .i64 a1_3, .slice A1_4 l1_4.length c1_4]] rfl z1 ?_; (with_reducible refine (spec_l21Bounds.calls k _ _ l0 _ _ l1_0 a1_1 a1_2 a1_3 _ _ l1_4 false _ ?side1 ?side2 ?side3 ?side4 ?side5 ?side6 A3.out).mono ?_); (case side1 => repeat (first | exact (Kd.C_below HR0.out HB.out) | (with_reducible refine Kd.C_alloc ?_ _) | (with_reducible refine Kd.C_drewN ?_ _) | (with_reducible refine Kd.C_drew ?_))); (case side2 => exact HC0.out); (case side3 => repeat (first | exact (Kd.C_below HR1_0.out HB.out) | (with_reducible refine Kd.C_alloc ?_ _) | (with_reducible refine Kd.C_drewN ?_ _) | (with_reducible refine Kd.C_drew ?_))); (case side4 => exact HC1_0.out); (case side5 => repeat (first | exact (Kd.C_below HR1_4.out HB.out) | (with_reducible refine Kd.C_alloc ?_ _) | (with_reducible refine Kd.C_drewN ?_ _) | (with_reducible refine Kd.C_drew ?_))); (case side6 => exact HC1_4.out); rintro e w33 ⟨rfl, hb⟩; refine ⟨_, rfl, ?_⟩; replace BK325 := Aside0.mk (blk_below (g := gb325) (o := .cells #[.slice A1_0 l1_0.length c1_0, .int .i64 a1_1, .int .i64 a1_2, .int .i64 a1_3, .slice A1_4 l1_4.length c1_4] 27 (0, 0)) z18 hb); replace HB := Aside0.mk (below_step z11 hb); (try clear hb); (try clear hb2); (try clear hk); (try clear hi)))
  go_ret
  exact ⟨by first | rfl | (simp [errW_none, errW_some] <;> rfl) | (simp [*, errW_none, errW_some] <;> rfl), by repeat (first | (with_reducible first | exact HB.out | apply below_alloc | apply pw_below_drewN | apply below_drew1 | refine below_set ?_ GE325.out) | exact HB.out)⟩
end Go.Proofs.Ytfbkpjjnhengfaa.K
namespace Go.Proofs.Ytfbkpjjnhengfaa.K
open Go.RowKit Go.Proofs.YtfbkpjjnhengfaaW.PrintWords Go.Proofs.YtfbkpjjnhengfaaW.PrintLast Go.Proofs.YtfbkpjjnhengfaaW.PrintMore
attribute [local go_sem] max2_int min2_int max_two min_two max_three min_three max_four min_four
set_option linter.unusedVariables false
set_option linter.unusedSimpArgs false
def spec_MemWalk.l0 : Nat → List Int → List Int → Int → Option (List Int)
  | 0, _, _, _ => none
  | k + 1, x5, x6, x8 => if x8 < (x6.length : Int) then (if 0 ≤ x8 then (if x5.length < 17592186044416 then (spec_MemWalk.l0 k (x5 ++ [wrap64 ((rd x6 x8) + 1)]) x6 (wrap64 (x8 + 1))) else (none)) else (none)) else (some x5)
def spec_MemWalk.f (k : Nat) (l0 : List (S99)) (l1_0 : List Int) (a1_1 : Int) (a1_2 : Int) (a1_3 : Int) (l1_4 : List Bool) : Option (List Int) := (some (([] : List Int) : List Int)).bind fun y337 => ((spec_MemOk.f k l0 l1_0 a1_1 a1_2 a1_3 l1_4).bind fun t340 => (if t340 = true then ((spec_l21Walk.f k l0 l1_0 a1_1 a1_2 a1_3 l1_4).bind fun bt341 => (spec_MemWalk.l0 k y337 bt341.1 0)) else (some y337)))
set_option maxHeartbeats 8000000 in
set_option maxRecDepth 100000 in
theorem spec_MemWalk.calls (k : Nat) (A0 : Option Addr) (c0 : Nat) (l0 : List (S99)) (A1_0 : Option Addr) (c1_0 : Nat) (l1_0 : List Int) (a1_1 : Int) (a1_2 : Int) (a1_3 : Int) (A1_4 : Option Addr) (c1_4 : Nat) (l1_4 : List Bool) (r : List Int) (w : World) (hr0 : Kd.C k99 w A0 l0.length l0) (hc0 : l0.length ≤ c0) (hr1_0 : Kd.C (Kd.int .i64) w A1_0 l1_0.length l1_0) (hc1_0 : l1_0.length ≤ c1_0) (hr1_4 : Kd.C Kd.bool w A1_4 l1_4.length l1_4) (hc1_4 : l1_4.length ≤ c1_4) (h : spec_MemWalk.f k l0 l1_0 a1_1 a1_2 a1_3 l1_4 = some r) :
  Calls Try.prog 12 #[.slice A0 l0.length c0, .agg #[.slice A1_0 l1_0.length c1_0, .int .i64 a1_1, .int .i64 a1_2, .int .i64 a1_3, .slice A1_4 l1_4.length c1_4]] w fun e w' => ∃ v0_ : Value, e = .returned (v0_) ∧ Kd.R (Kd.int .i64) 3 w' w.heap.size (fun _ => True) v0_ r ∧ Below w.heap.size w w' := by
 have hu27 := Try.underlying27
 have HR0 := Aside0.mk hr0
 have HC0 := Aside0.mk hc0
 clear hr0 hc0
 have HR1_0 := Aside0.mk hr1_0
 have HC1_0 := Aside0.mk hc1_0
 clear hr1_0 hc1_0
 have HR1_4 := Aside0.mk hr1_4
 have HC1_4 := Aside0.mk hc1_4
 clear hr1_4 hc1_4
 have HB := Aside0.mk (Below.refl w.heap.size w)
 have H : ((some (([] : List Int) : List Int)).bind fun y337 => ((spec_MemOk.f k l0 l1_0 a1_1 a1_2 a1_3 l1_4).bind fun t340 => (if t340 = true then ((spec_l21Walk.f k l0 l1_0 a1_1 a1_2 a1_3 l1_4).bind fun bt341 => (spec_MemWalk.l0 k y337 bt341.1 0)) else (some y337)))) = some r := h
 clear h
 obtain ⟨y337, hy337⟩ : ∃ y_ : List Int, y_ = (([] : List Int)) := ⟨_, rfl⟩
 replace H : ((spec_MemOk.f k l0 l1_0 a1_1 a1_2 a1_3 l1_4).bind fun t340 => (if t340 = true then ((spec_l21Walk.f k l0 l1_0 a1_1 a1_2 a1_3 l1_4).bind fun bt341 => (spec_MemWalk.l0 k y337 bt341.1 0)) else (some y337))) = some r := by first | (rw [hy337]; with_reducible exact H) | (have H2_ := (Option.bind_some _ _).symm.trans H; rw [hy337]; with_reducible exact H2_) | (have H2_ := (Option.bind_some _ _).symm.trans H; with_reducible exact H2_) | with_reducible exact H | (rw [hy337]; exact H) | exact H
 have Ny337 := Aside0.mk hy337
 clear hy337
 replace H := Option.bind_eq_some_iff.mp H
 obtain ⟨t340, A30, H⟩ := H
 try dsimp only at H
 have A3 := Aside0.mk A30
 clear A30
 by_cases c4 : t340 = true
 ·subst c4
  rw [if_pos rfl] at H
  replace H := Option.bind_eq_some_iff.mp H
  obtain ⟨⟨t341, t344⟩, A50, H⟩ := H
  try dsimp only at H
  have A5 := Aside0.mk A50
  clear A50
  have H' := Aside0.mk H
  clear H
  go_enter Try.func12, Try.ntmps12
  go_wp2_with (first | ((with_reducible refine gate_dst (N := 3) rfl ?_); refine box_event ?hg (N := 3) ?hd (cs := #[.slice A1_0 l1_0.length c1_0, .int .i64 a1_1, .int .i64 a1_2, .int .i64 a1_3, .slice A1_4 l1_4.length c1_4]) (t := 27) ?hr ?_; (case hd => rfl); (case hg => rfl); (case hr => first | (go_simp; done) | (go_simp; rfl)); intro gb336 hg w6 hbox hb; have BK336 := Aside0.mk (hbox); have GW336 := Aside0.mk ((by rw [hg]; exact (below_size z2) : w.heap.size ≤ gb336)); have GE336 := Aside0.mk ((by rw [hg]; exact (below_size z2) : w.heap.size ≤ gb336)); replace HB := Aside0.mk (below_step z2 hb); clear hb hbox hg) | ((with_reducible refine gate_dst (N := 9) rfl ?_); refine Kd.R_lit (Kd.int .i64) _ 3 ?hg (N := 9) ?hd (xs := ([] : List Int)) (inner := []) (ok := fun _ => True) (okp := fun _ => True) ?hr ?hp (fun _ hk => hk) trivial (Below.refl _ _) (Nat.le_refl _) (by simp) ?_; (case hd => rfl); (case hg => rfl); (case hr => first | (go_simp; done) | (go_simp; rfl)); (case hp => exact (Reps.none _ _)); intro v338 w7 ho8 hb hg_ hnew_; clear hg_ hnew_; (first | rw [← Ny337.out] at ho8 | (simp only [Int.reduceToNat] at ho8; rw [← Ny337.out] at ho8)); have HO339 := Aside0.mk (Kd.R_lower ho8 (below_size z13)); replace BK336 := Aside0.mk (blk_below (g := gb336) (o := .cells #[.slice A1_0 l1_0.length c1_0, .int .i64 a1_1, .int .i64 a1_2, .int .i64 a1_3, .slice A1_4 l1_4.length c1_4] 27 (0, 0)) z21 hb); replace HB := Aside0.mk (below_step z13 hb); clear hb ho8; obtain ⟨hcz9_0, hcz9_1, hcz9_2, hcz9_3, hcz9_4, hfz9_0, hfz9_1, hfz9_2, hfz9_3, hfz9_4⟩ := cbf5 BK336) | ((with_reducible refine gate_callee (f := 13) rfl ?_); refine goesL_ (some 12) rfl rfl Try.func13 (by kernel_rfl) rfl #[.slice A0 l0.length c0, .agg #[.slice A1_0 l1_0.length c1_0, .int .i64 a1_1, .int .i64 a1_2, .int .i64 a1_3, .slice A1_4 l1_4.length c1_4]] rfl z1 ?_; (with_reducible refine (spec_MemOk.calls k _ _ l0 _ _ l1_0 a1_1 a1_2 a1_3 _ _ l1_4 true _ ?side1 ?side2 ?side3 ?side4 ?side5 ?side6 A3.out).mono ?_); (case side1 => repeat (first | exact (Kd.C_below HR0.out HB.out) | (with_reducible refine Kd.C_alloc ?_ _) | (with_reducible refine Kd.C_drewN ?_ _) | (with_reducible refine Kd.C_drew ?_))); (case side2 => exact HC0.out); (case side3 => repeat (first | exact (Kd.C_below HR1_0.out HB.out) | (with_reducible refine Kd.C_alloc ?_ _) | (with_reducible refine Kd.C_drewN ?_ _) | (with_reducible refine Kd.C_drew ?_))); (case side4 => exact HC1_0.out); (case side5 => repeat (first | exact (Kd.C_below HR1_4.out HB.out) | (with_reducible refine Kd.C_alloc ?_ _) | (with_reducible refine Kd.C_drewN ?_ _) | (with_reducible refine Kd.C_drew ?_))); (case side6 => exact HC1_4.out); rintro e w10 ⟨rfl, hb⟩; refine ⟨_, rfl, ?_⟩; replace HO339 := Aside0.mk (Kd.R_below (by (with_reducible repeat (first | apply Kd.R_alloc | apply Kd.R_drewN | apply Kd.R_drew)); exact HO339.out) hb); replace BK336 := Aside0.mk (blk_below (g := gb336) (o := .cells #[.slice A1_0 l1_0.length c1_0, .int .i64 a1_1, .int .i64 a1_2, .int .i64 a1_3, .slice A1_4 l1_4.length c1_4] 27 (0, 0)) z21 hb); replace HB := Aside0.mk (below_step z13 hb); (try clear hb); (try clear hb2); (try clear hk); (try clear hi); obtain ⟨hcz11_0, hcz11_1, hcz11_2, hcz11_3, hcz11_4, hfz11_0, hfz11_1, hfz11_2, hfz11_3, hfz11_4⟩ := cbf5 BK336) | ((with_reducible refine gate_callee (f := 29) rfl ?_); refine goesL_ (some 18) rfl rfl Try.func29 (by kernel_rfl) rfl #[.slice A0 l0.length c0, .agg #[.slice A1_0 l1_0.length c1_0, .int .i64 a1_1, .int .i64 a1_2, .int .i64 a1_3, .slice A1_4 l1_4.length c1_4]] rfl z1 ?_; (with_reducible refine (spec_l21Walk.calls k _ _ l0 _ _ l1_0 a1_1 a1_2 a1_3 _ _ l1_4 t341 t344 _ ?side1 ?side2 ?side3 ?side4 ?side5 ?side6 A5.out).mono ?_); (case side1 => repeat (first | exact (Kd.C_below HR0.out HB.out) | (with_reducible refine Kd.C_alloc ?_ _) | (with_reducible refine Kd.C_drewN ?_ _) | (with_reducible refine Kd.C_drew ?_))); (case side2 => exact HC0.out); (case side3 => repeat (first | exact (Kd.C_below HR1_0.out HB.out) | (with_reducible refine Kd.C_alloc ?_ _) | (with_reducible refine Kd.C_drewN ?_ _) | (with_reducible refine Kd.C_drew ?_))); (case side4 => exact HC1_0.out); (case side5 => repeat (first | exact (Kd.C_below HR1_4.out HB.out) | (with_reducible refine Kd.C_alloc ?_ _) | (with_reducible refine Kd.C_drewN ?_ _) | (with_reducible refine Kd.C_drew ?_))); (case side6 => exact HC1_4.out); rintro e w12 ⟨v342, rfl, ho0, hb⟩; refine ⟨_, rfl, ?_⟩; have HO343 := Aside0.mk (Kd.R_lower (Kd.R_new' ho0 (Kd.R_lt (by (with_reducible repeat (first | apply Kd.R_alloc | apply Kd.R_drewN | apply Kd.R_drew)); exact HO339.out))) (below_size z13)); replace HO339 := Aside0.mk (Kd.R_elder' (by (with_reducible repeat (first | apply Kd.R_alloc | apply Kd.R_drewN | apply Kd.R_drew)); exact HO339.out) (Kd.R_base ho0) hb); replace BK336 := Aside0.mk (blk_below (g := gb336) (o := .cells #[.slice A1_0 l1_0.length c1_0, .int .i64 a1_1, .int .i64 a1_2, .int .i64 a1_3, .slice A1_4 l1_4.length c1_4] 27 (0, 0)) z21 hb); replace HB := Aside0.mk (below_step z13 hb); (try clear hb); (try clear hb2); (try clear hk); (try clear hi); (try clear ho0)))
  go_loopg [5, 8] k (fun kq v5 v8 w' => ∃ (x5_1 : List Int) (x8_1 : Int), v8 = .int .i64 x8_1 ∧ Aside0 (spec_MemWalk.l0 kq x5_1 t341 x8_1 = some r) ∧ Aside0 (kq ≤ k) ∧ Aside0 (Kd.R (Kd.int .i64) 3 w' w.heap.size (fun k_ => some k_ ≠ (v342 : Value).ownBlock) v5 x5_1) ∧ Aside0 (Kd.R (Kd.int .i64) 3 w' w.heap.size (fun k_ => some k_ ≠ (v5 : Value).ownBlock) v342 t341) ∧ Aside0 (w'.heap[gb336]? = some (.cells #[(.slice A1_0 l1_0.length c1_0), .int .i64 a1_1, .int .i64 a1_2, .int .i64 a1_3, (.slice A1_4 l1_4.length c1_4)] 27 (0, 0))) ∧ Aside0 (Below w.heap.size w w'))
  case atStart => exact ⟨(y337), (0), z7, H', ⟨Nat.le_refl _⟩, ⟨by (with_reducible repeat (first | apply Kd.R_alloc | apply Kd.R_drewN | apply Kd.R_drew)); exact Kd.R_mono HO339.out (fun _ hk => hk.2)⟩, ⟨by (with_reducible repeat (first | apply Kd.R_alloc | apply Kd.R_drewN | apply Kd.R_drew)); exact Kd.R_mono HO343.out (fun _ hk => hk.2)⟩, ⟨by (with_reducible repeat (first | refine blk_drewN ?_ _ | refine blk_drew ?_ | refine blk_alloc ?_ _)); exact BK336.out⟩, ⟨by repeat (first | (with_reducible first | exact HB.out | apply below_alloc | apply pw_below_drewN | apply below_drew1 | refine below_set ?_ GE336.out) | exact HB.out)⟩⟩
  case round =>
   clear H'
   try clear c1
   try clear c2
   try clear p2
   try clear c4
   try clear c12
   try clear hcz11_0
   try clear hcz11_1
   try clear hcz11_2
   try clear hcz11_3
   try clear hcz11_4
   try clear hcz9_0
   try clear hcz9_1
   try clear hcz9_2
   try clear hcz9_3
   try clear hcz9_4
   try clear hfz11_0
   try clear hfz11_1
   try clear hfz11_2
   try clear hfz11_3
   try clear hfz11_4
   try clear hfz9_0
   try clear hfz9_1
   try clear hfz9_2
   try clear hfz9_3
   try clear hfz9_4
   obtain ⟨x5_1, x8_1, rfl, HA, HK1, HO_5, HO_6, BK336, HB⟩ := hrel
   cases gk with
   | zero => exact absurd HA.out (by simp [spec_MemWalk.l0])
   | succ k1 =>
    have H := HA.out
    clear HA
    simp only [spec_MemWalk.l0] at H
    by_cases c13 : x8_1 < (t341.length : Int)
    ·rw [if_pos c13] at H
     have c13b0 : decide (x8_1 < (t341.length : Int)) = true := decide_eq_true c13
     clear c13
     by_cases c14 : 0 ≤ x8_1
     ·rw [if_pos c14] at H
      have c14b0 : decide (0 ≤ x8_1) = true := decide_eq_true c14
      clear c14
      by_cases c15 : x5_1.length < 17592186044416
      ·rw [if_pos c15] at H
       have LMc15 := Aside0.mk c15
       clear c15
       obtain ⟨y346, hy346⟩ : ∃ y_ : List Int, y_ = (x5_1 ++ [wrap64 ((rd t341 x8_1) + 1)]) := ⟨_, rfl⟩
       replace H : (spec_MemWalk.l0 k1 y346 t341 (wrap64 (x8_1 + 1))) = some r := by first | (rw [hy346]; with_reducible exact H) | (have H2_ := (Option.bind_some _ _).symm.trans H; rw [hy346]; with_reducible exact H2_) | (have H2_ := (Option.bind_some _ _).symm.trans H; with_reducible exact H2_) | with_reducible exact H | (rw [hy346]; exact H) | exact H
       have Ny346 := Aside0.mk hy346
       clear hy346
       have H' := Aside0.mk H
       clear H
       obtain ⟨Ao16, co16, eo16⟩ := Kd.R_slice HO_6.out
       subst eo16
       have p345 : 0 ≤ (x8_1 : Int) := of_decide_eq_true z3
       have q345 : x8_1 < (t341.length : Int) := of_decide_eq_true z3
       obtain ⟨ad345, e345, hx345_0⟩ := Kd.at_int (Kd.R_reads' HO_6.out).2.2 x8_1 p345 q345
       cases e345
       replace p345 := eq_true p345
       replace q345 := eq_true q345
       go_wp2_with (first | ((with_reducible refine gate_builtin (b := .append) (xs := #[.tmp 27, .tmp 33]) rfl ?_); at_builtin; refine Kd.R_append (Kd.int .i64) (w0 := w) w.heap.size rfl (.tmp 27) (.tmp 33) 24 3 (.int .i64 0) 8 rfl Try.underlying24 info3 rfl (by decide) (by omega) u5 x5_1 (wrap64 ((rd t341 x8_1) + 1)) [.int .i64 (wrap64 ((rd t341 x8_1) + 1))] (fun k_ => some k_ ≠ (.slice (some ad345) t341.length co16 : Value).ownBlock) (fun _ => False) rfl rfl ?aP (fun _ hk => hk.elim) ?aF ?aO ?aB ?aS ?aL ?_; (case aP => exact rfl); (case aB => exact z13); (case aF => exact (fun k_ hk => Kd.fresh' (Kd.R_lt (by (with_reducible repeat (first | apply Kd.R_alloc | apply Kd.R_drewN | apply Kd.R_drew)); exact HO_6.out)) k_ hk)); (case aO => exact (by (with_reducible repeat (first | apply Kd.R_alloc | apply Kd.R_drewN | apply Kd.R_drew)); exact HO_5.out)); (case aS => exact (below_size z13)); (case aL => have := LMc15.out; omega); intro v347 w17 ho hb hg hat; rw [← Ny346.out] at ho; have n0_ := Aside0.mk (Kd.R_after (ok := (fun _ => True)) (by (with_reducible repeat (first | apply Kd.R_alloc | apply Kd.R_drewN | apply Kd.R_drew)); exact Kd.R_mono HO_6.out (fun _ hk => ⟨trivial, hk⟩)) hg hat); have n1_ := Aside0.mk (blk_grown (g := gb336) (o := .cells #[.slice A1_0 l1_0.length c1_0, .int .i64 a1_1, .int .i64 a1_2, .int .i64 a1_3, .slice A1_4 l1_4.length c1_4] 27 (0, 0)) z21 hg (Kd.R_ne HO_5.out BK336.out (by decide))); have n2_ := Aside0.mk (hb); have n3_ := Aside0.mk (ho); clear HO_6; clear BK336; clear HB; clear HO_5; have HO_6 := n0_; have BK336 := n1_; have HB := n2_; have HO348 := n3_; clear n0_ n1_ n2_ n3_; clear ho hb hg hat))
       go_roundg k1
       case measure => have := HK1.out; omega
       case rel => exact ⟨(y346), (wrap64 (x8_1 + 1)), z7, H', ⟨by have := HK1.out; omega⟩, ⟨by (with_reducible repeat (first | apply Kd.R_alloc | apply Kd.R_drewN | apply Kd.R_drew)); exact HO348.out⟩, ⟨by (with_reducible repeat (first | apply Kd.R_alloc | apply Kd.R_drewN | apply Kd.R_drew)); exact Kd.R_mono HO_6.out (fun _ hk => hk.2)⟩, ⟨by (with_reducible repeat (first | refine blk_drewN ?_ _ | refine blk_drew ?_ | refine blk_alloc ?_ _)); exact BK336.out⟩, ⟨by repeat (first | (with_reducible first | exact HB.out | apply below_alloc | apply pw_below_drewN | apply below_drew1 | refine below_set ?_ GE336.out) | exact HB.out)⟩⟩
      ·rw [if_neg c15] at H
       exact absurd H (by simp)
     ·rw [if_neg c14] at H
      exact absurd H (by simp)
    ·rw [if_neg c13] at H
     have c13b0 : decide (x8_1 < (t341.length : Int)) = false := decide_eq_false c13
     clear c13
     obtain rfl := Option.some.inj H
     obtain ⟨Ao18, co18, eo18⟩ := Kd.R_slice HO_6.out
     subst eo18
     go_wp2
     go_ret
     exact ⟨_, by first | rfl | (simp [errW_none, errW_some] <;> rfl) | (simp [*, errW_none, errW_some] <;> rfl), by (with_reducible repeat (first | apply Kd.R_alloc | apply Kd.R_drewN | apply Kd.R_drew)); exact Kd.R_mono HO_5.out (fun _ hk => trivial), by repeat (first | (with_reducible first | exact HB.out | apply below_alloc | apply pw_below_drewN | apply below_drew1 | refine below_set ?_ GE336.out) | exact HB.out)⟩
 ·replace c4 := Bool.eq_false_iff.mpr c4
  subst c4
  rw [if_neg (show ¬ (false = true) by decide)] at H
  obtain rfl := Option.some.inj H
  go_enter Try.func12, Try.ntmps12
  go_wp2_with (first | ((with_reducible refine gate_dst (N := 3) rfl ?_); refine box_event ?hg (N := 3) ?hd (cs := #[.slice A1_0 l1_0.length c1_0, .int .i64 a1_1, .int .i64 a1_2, .int .i64 a1_3, .slice A1_4 l1_4.length c1_4]) (t := 27) ?hr ?_; (case hd => rfl); (case hg => rfl); (case hr => first | (go_simp; done) | (go_simp; rfl)); intro gb336 hg w19 hbox hb; have BK336 := Aside0.mk (hbox); have GW336 := Aside0.mk ((by rw [hg]; exact (below_size z2) : w.heap.size ≤ gb336)); have GE336 := Aside0.mk ((by rw [hg]; exact (below_size z2) : w.heap.size ≤ gb336)); replace HB := Aside0.mk (below_step z2 hb); clear hb hbox hg) | ((with_reducible refine gate_dst (N := 9) rfl ?_); refine Kd.R_lit (Kd.int .i64) _ 3 ?hg (N := 9) ?hd (xs := ([] : List Int)) (inner := []) (ok := fun _ => True) (okp := fun _ => True) ?hr ?hp (fun _ hk => hk) trivial (Below.refl _ _) (Nat.le_refl _) (by simp) ?_; (case hd => rfl); (case hg => rfl); (case hr => first | (go_simp; done) | (go_simp; rfl)); (case hp => exact (Reps.none _ _)); intro v338 w20 ho21 hb hg_ hnew_; clear hg_ hnew_; (first | rw [← Ny337.out] at ho21 | (simp only [Int.reduceToNat] at ho21; rw [← Ny337.out] at ho21)); have HO339 := Aside0.mk (Kd.R_lower ho21 (below_size z13)); replace BK336 := Aside0.mk (blk_below (g := gb336) (o := .cells #[.slice A1_0 l1_0.length c1_0, .int .i64 a1_1, .int .i64 a1_2, .int .i64 a1_3, .slice A1_4 l1_4.length c1_4] 27 (0, 0)) z21 hb); replace HB := Aside0.mk (below_step z13 hb); clear hb ho21; obtain ⟨hcz22_0, hcz22_1, hcz22_2, hcz22_3, hcz22_4, hfz22_0, hfz22_1, hfz22_2, hfz22_3, hfz22_4⟩ := cbf5 BK336) | ((with_reducible refine gate_callee (f := 13) rfl ?_); refine goesL_ (some 12) rfl rfl Try.func13 (by kernel_rfl) rfl #[.slice A0 l0.length c0, .agg #[.slice A1_0 l1_0.length c1_0, .int .i64 a1_1, .int .i64 a1_2, .int .i64 a1_3, .slice A1_4 l1_4.length c1_4]] rfl z1 ?_; (with_reducible refine (spec_MemOk.calls k _ _ l0 _ _ l1_0 a1_1 a1_2 a1_3 _ _ l1_4 false _ ?side1 ?side2 ?side3 ?side4 ?side5 ?side6 A3.out).mono ?_); (case side1 => repeat (first | exact (Kd.C_below HR0.out HB.out) | (with_reducible refine Kd.C_alloc ?_ _) | (with_reducible refine Kd.C_drewN ?_ _) | (with_reducible refine Kd.C_drew ?_))); (case side2 => exact HC0.out); (case side3 => repeat (first | exact (Kd.C_below HR1_0.out HB.out) | (with_reducible refine Kd.C_alloc ?_ _) | (with_reducible refine Kd.C_drewN ?_ _) | (with_reducible refine Kd.C_drew ?_))); (case side4 => exact HC1_0.out); (case side5 => repeat (first | exact (Kd.C_below HR1_4.out HB.out) | (with_reducible refine Kd.C_alloc ?_ _) | (with_reducible refine Kd.C_drewN ?_ _) | (with_reducible refine Kd.C_drew ?_))); (case side6 => exact HC1_4.out); rintro e w23 ⟨rfl, hb⟩; refine ⟨_, rfl, ?_⟩; replace HO339 := Aside0.mk (Kd.R_below (by (with_reducible repeat (first | apply Kd.R_alloc | apply Kd.R_drewN | apply Kd.R_drew)); exact HO339.out) hb); replace BK336 := Aside0.mk (blk_below (g := gb336) (o := .cells #[.slice A1_0 l1_0.length c1_0, .int .i64 a1_1, .int .i64 a1_2, .int .i64 a1_3, .slice A1_4 l1_4.length c1_4] 27 (0, 0)) z21 hb); replace HB := Aside0.mk (below_step z13 hb); (try clear hb); (try clear hb2); (try clear hk); (try clear hi)))
  go_ret
  exact ⟨_, by first | rfl | (simp [errW_none, errW_some] <;> rfl) | (simp [*, errW_none, errW_some] <;> rfl), by (with_reducible repeat (first | apply Kd.R_alloc | apply Kd.R_drewN | apply Kd.R_drew)); exact HO339.out, by repeat (first | (with_reducible first | exact HB.out | apply below_alloc | apply pw_below_drewN | apply below_drew1 | refine below_set ?_ GE336.out) | exact HB.out)⟩
end Go.Proofs.Ytfbkpjjnhengfaa.K
namespace Go.Proofs.Ytfbkpjjnhengfaa.K
open Go.RowKit Go.Proofs.YtfbkpjjnhengfaaW.PrintWords Go.Proofs.YtfbkpjjnhengfaaW.PrintLast Go.Proofs.YtfbkpjjnhengfaaW.PrintMore
attribute [local go_sem] max2_int min2_int max_two min_two max_three min_three max_four min_four
set_option linter.unusedVariables false
set_option linter.unusedSimpArgs false
def sizeOf (k : Nat) (a2 : Int) : Option Mm → Option Int
  | none => some 0
  | some m => (memory_has.f k m a2).bind fun b => if b = true then thing_size.f m a2 else some 0
def impl_MemSize.f (k : Nat) (l0 : List (S99)) (l1_0 : List Int) (a1_1 : Int) (a1_2 : Int) (a1_3 : Int) (l1_4 : List Bool) (a2 : Int) : Option (Int) := (mopen k k l0 l1_0 a1_1 a1_2 a1_3 l1_4).bind fun r => sizeOf k a2 r
set_option maxHeartbeats 8000000 in
set_option maxRecDepth 100000 in
theorem impl_MemSize.calls (k : Nat) (A0 : Option Addr) (c0 : Nat) (l0 : List (S99)) (A1_0 : Option Addr) (c1_0 : Nat) (l1_0 : List Int) (a1_1 : Int) (a1_2 : Int) (a1_3 : Int) (A1_4 : Option Addr) (c1_4 : Nat) (l1_4 : List Bool) (a2 : Int) (r : Int) (w : World) (hr0 : Kd.C k99 w A0 l0.length l0) (hc0 : l0.length ≤ c0) (hr1_0 : Kd.C (Kd.int .i64) w A1_0 l1_0.length l1_0) (hc1_0 : l1_0.length ≤ c1_0) (hr1_4 : Kd.C Kd.bool w A1_4 l1_4.length l1_4) (hc1_4 : l1_4.length ≤ c1_4) (h : impl_MemSize.f k l0 l1_0 a1_1 a1_2 a1_3 l1_4 a2 = some r) :
  Calls Try.prog 14 #[.slice A0 l0.length c0, .agg #[.slice A1_0 l1_0.length c1_0, .int .i64 a1_1, .int .i64 a1_2, .int .i64 a1_3, .slice A1_4 l1_4.length c1_4], .int .i64 a2] w fun e w' => e = .returned (.int .i64 r) ∧ Below w.heap.size w w' := by
 unfold impl_MemSize.f at h
 obtain ⟨m, hm, h⟩ := Option.bind_eq_some_iff.mp h
 have HM := Aside0.mk hm
 have HR0 := Aside0.mk hr0
 have HC0 := Aside0.mk hc0
 have HR1 := Aside0.mk hr1_0
 have HC1 := Aside0.mk hc1_0
 have HR4 := Aside0.mk hr1_4
 have HC4 := Aside0.mk hc1_4
 have HB := Aside0.mk (below_alloc (Below.refl w.heap.size w) (.cells #[.slice A1_0 l1_0.length c1_0, .int .i64 a1_1, .int .i64 a1_2, .int .i64 a1_3, .slice A1_4 l1_4.length c1_4] 27 (0, 0)))
 have HH := Aside0.mk h
 clear hr0 hc0 hr1_0 hc1_0 hr1_4 hc1_4 h hm
 go_enter Try.func14, Try.ntmps14
 go_wp2_with fail
 go_at_call 28
 refine (memOpen.calls k k A0 c0 l0 A1_0 c1_0 l1_0 a1_1 a1_2 a1_3 A1_4 c1_4 l1_4 m _ (Kd.C_below HR0.out HB.out) HC0.out (Kd.C_below HR1.out HB.out) HC1.out (Kd.C_below HR4.out HB.out) HC4.out HM.out).mono ?_
 cases m with
 | none =>
  rintro e w1 ⟨rfl, hb⟩
  have HB1 := Aside0.mk (below_step HB.out hb)
  have hh := Option.some.inj HH.out
  subst hh
  clear hb HM HH
  go_wp2
  go_ret
  exact ⟨rfl, HB1.out⟩
 | some m =>
  rintro e w1 ⟨g, rfl, hmo, hb⟩
  have HB1 := Aside0.mk (below_step HB.out hb)
  have HMO := Aside0.mk hmo
  have hh := HH.out
  unfold sizeOf at hh
  obtain ⟨b, hq, hh⟩ := Option.bind_eq_some_iff.mp hh
  have HQ := Aside0.mk hq
  clear hb HM HH hmo hq
  cases b with
  | false =>
   rw [if_neg (by simp)] at hh
   have hh := Option.some.inj hh
   subst hh
   go_wp2_with (go_at_call 33; refine (memory_has.calls k g m a2 false _ (MO_MV HMO.out) HQ.out).mono ?_; rintro e w2 ⟨rfl, hd⟩; have HB2 := Aside0.mk (below_step HB1.out hd.below); clear hd)
   go_ret
   exact ⟨rfl, HB2.out⟩
  | true =>
   rw [if_pos rfl] at hh
   have HS := Aside0.mk hh
   clear hh
   go_wp2_with (first | (go_at_call 33; refine (memory_has.calls k g m a2 true _ (MO_MV HMO.out) HQ.out).mono ?_; rintro e w2 ⟨rfl, hd⟩; have HB2 := Aside0.mk (below_step HB1.out hd.below); have HMO2 := Aside0.mk (MO_below HMO.out hd.below); clear hd) | (go_at_call 34; refine (memory_thing.calls g a2 _).mono ?_; rintro e w3 ⟨rfl, hd⟩; have HB3 := Aside0.mk (below_step HB2.out hd); have HMO3 := Aside0.mk (MO_below HMO2.out hd); clear hd) | (go_at_call 35; refine (thing_size.calls g m a2 r _ (MO_MV HMO3.out) HS.out).mono ?_; rintro e w4 ⟨rfl, hd⟩; have HB4 := Aside0.mk (below_step HB3.out hd); clear hd))
   go_ret
   exact ⟨rfl, HB4.out⟩
end Go.Proofs.Ytfbkpjjnhengfaa.K
namespace Go.Proofs.Ytfbkpjjnhengfaa.K
open Go.RowKit Go.Proofs.YtfbkpjjnhengfaaW.PrintWords Go.Proofs.YtfbkpjjnhengfaaW.PrintLast Go.Proofs.YtfbkpjjnhengfaaW.PrintMore
attribute [local go_sem] max2_int min2_int max_two min_two max_three min_three max_four min_four
set_option linter.unusedVariables false
set_option linter.unusedSimpArgs false
def IsS89 (w0 W : World) (g : Nat) (f0 : List Int) (f1 : Int) : Prop := ∃ A0 c0, W.heap[g]? = some (.cells #[.slice A0 f0.length c0, .int .i64 f1] 89 (0, 0)) ∧ w0.heap.size ≤ g ∧ Kd.C (Kd.int .u8) w0 A0 f0.length f0
theorem IsS89.grown {w0 W : World} {g : Nat} {f0 : List Int} {f1 : Int} {W1 : World} {row : Option Nat} (h : IsS89 w0 W g f0 f1) (hw : W.grownBy W1 row) (hne : some g ≠ row) : IsS89 w0 W1 g f0 f1 := by
  obtain ⟨A0, c0, hb, hg, hr0⟩ := h
  exact ⟨A0, c0, blk_grown hb hw hne, hg, hr0⟩
theorem IsS89.below {w0 W : World} {g : Nat} {f0 : List Int} {f1 : Int} {W1 : World} (h : IsS89 w0 W g f0 f1) (hw : Below W.heap.size W W1) : IsS89 w0 W1 g f0 f1 := h.grown (grown_of_below hw none) (by simp)
theorem IsS89.drewN {w0 W : World} {g : Nat} {f0 : List Int} {f1 : Int} (h : IsS89 w0 W g f0 f1) (m : Nat) : IsS89 w0 (W.drewN m) g f0 f1 := h
theorem IsS89.apart {w0 W : World} {g : Nat} {f0 : List Int} {f1 : Int} {α : Type} {d : Kd α} {e : Nat} {base : Nat} {ok : Nat → Prop} {v : Value} {xs : List α} (h : IsS89 w0 W g f0 f1) (ho : d.R e W base ok v xs) (ht : ∀ q, q ∈ e :: d.E → q ≠ 89) : d.R e W base (fun k => ok k ∧ k ≠ g) v xs := by
  obtain ⟨A0, c0, hb, hg, hr0⟩ := h
  exact Kd.R_types ho hb ht
theorem IsS89.lt {w0 W : World} {g : Nat} {f0 : List Int} {f1 : Int} (h : IsS89 w0 W g f0 f1) : g < W.heap.size := by
  obtain ⟨A0, c0, hb, hg, hr0⟩ := h
  exact blk_lt hb
theorem IsS89.ge {w0 W : World} {g : Nat} {f0 : List Int} {f1 : Int} (h : IsS89 w0 W g f0 f1) : w0.heap.size ≤ g := by
  obtain ⟨A0, c0, hb, hg, hr0⟩ := h
  exact hg
theorem IsS89.far {w0 W : World} {g : Nat} {f0 : List Int} {f1 : Int} {p : Addr} (h : IsS89 w0 W g f0 f1) (hne : g ≠ p.block) (u : Value) : IsS89 w0 (W.setCell p u) g f0 f1 := by
  obtain ⟨A0, c0, hb, hg, hr0⟩ := h
  exact ⟨A0, c0, blk_far hb hne u, hg, hr0⟩
theorem cellS89_0 {W : World} {g : Nat} {A0 : Option Addr} {c0 : Nat} {f0 : List Int} {f1 : Int} (h : W.heap[g]? = some (.cells #[.slice A0 f0.length c0, .int .i64 f1] 89 (0, 0))) : W.cell? ⟨g, 0, none⟩ = some (.slice A0 f0.length c0) := (blk_cell h 0).trans rfl
theorem cellS89_1 {W : World} {g : Nat} {A0 : Option Addr} {c0 : Nat} {f0 : List Int} {f1 : Int} (h : W.heap[g]? = some (.cells #[.slice A0 f0.length c0, .int .i64 f1] 89 (0, 0))) : W.cell? ⟨g, 1, none⟩ = some (.int .i64 f1) := (blk_cell h 1).trans rfl
theorem IsS89.set_1 {w0 W : World} {g : Nat} {f0 : List Int} {f1 : Int} (h : IsS89 w0 W g f0 f1) (x : Int) : IsS89 w0 (W.setCell ⟨g, 1, none⟩ (.int .i64 x)) g f0 x := by
  obtain ⟨A0, c0, hb, hg, hr0⟩ := h
  exact ⟨A0, c0, by simpa using blk_set hb 1 (.int .i64 x), hg, hr0⟩
def spec_l6Open.f (l0 : List Int) : Option (List Int × Int) := if (l0.length : Int) > 2000 then (if 2000 ≤ (l0.length : Int) then (some (l0.take 2000, 0)) else (none)) else (some (l0, 0))
set_option maxHeartbeats 8000000 in
set_option maxRecDepth 100000 in
theorem spec_l6Open.calls (A0 : Option Addr) (c0 : Nat) (l0 : List Int) (r1 : List Int) (r2 : Int) (w0 w : World) (hB : Below w0.heap.size w0 w) (hr0 : Kd.C (Kd.int .u8) w0 A0 l0.length l0) (hc0 : l0.length ≤ c0) (h : spec_l6Open.f l0 = some (r1, r2)) :
  Calls Try.prog 36 #[.slice A0 l0.length c0] w fun e w' => ∃ g_ : Nat, e = .returned (.pointer (some ⟨g_, 0, none⟩)) ∧ IsS89 w0 w' g_ r1 r2 ∧ Below w0.heap.size w0 w' ∧ Below w.heap.size w w' := by
 have hu89 := Try.underlying89
 have HR0 := Aside0.mk hr0
 have HC0 := Aside0.mk hc0
 clear hr0 hc0
 have HBW := Aside0.mk (Below.refl w.heap.size w)
 have HW0 := Aside0.mk hB.size
 have HB := Aside0.mk hB
 clear hB
 have H : (if (l0.length : Int) > 2000 then (if 2000 ≤ (l0.length : Int) then (some (l0.take 2000, 0)) else (none)) else (some (l0, 0))) = some (r1, r2) := h
 clear h
 by_cases c2 : (l0.length : Int) > 2000
 ·rw [if_pos c2] at H
  have c2b0 : decide (2000 < (l0.length : Int)) = true := decide_eq_true c2
  have c2b1 : decide (2000 < l0.length) = true := decide_eq_true (by omega)
  clear c2
  by_cases c3 : 2000 ≤ (l0.length : Int)
  ·rw [if_pos c3] at H
   have c3b0 := eq_true c3
   have c3b1 : decide (2000 ≤ (l0.length : Int)) = true := decide_eq_true c3
   clear c3
   simp only [Option.some.injEq, Prod.mk.injEq] at H
   obtain ⟨rfl, rfl⟩ := H
   obtain ⟨i04, hi04, _, hsz4, _⟩ := info_parts info5
   obtain ⟨hcut4, hA4, hC4⟩ := print_take_of (P := Try.prog) (Value.int .u8) 0 22 5 .i64 Try.underlying22 hi04 hsz4 A0 c0 l0 2000 (by omega) (of_decide_eq_true z3) HC0.out
   have HR101 := Aside0.mk (Kd.C_of_reads (h1 := fun _ => rfl) (hA4 _ (Kd.reads_of_C HR0.out)))
   have HC101 := Aside0.mk hC4
   clear hA4 hC4 hi04 hsz4
   go_enter Try.func36, Try.ntmps36
   go_wp2_with (first | ((with_reducible refine gate_dst (N := 10) rfl ?_); refine box_event ?hg (N := 10) ?hd (cs := #[.slice A0 (l0.take 2000).length c0, .int .i64 0]) (t := 89) ?hr ?_; (case hd => rfl); (case hg => rfl); (case hr => first | (go_simp; done) | (go_simp; rfl)); intro gb102 hg w5 hbox hb; have BK102 := Aside0.mk (hbox); have GW102 := Aside0.mk ((by rw [hg]; exact (below_size z28) : w.heap.size ≤ gb102)); have GE102 := Aside0.mk ((Nat.le_trans HW0.out (by rw [hg]; exact (below_size z28) : w.heap.size ≤ gb102) : w0.heap.size ≤ gb102)); replace HBW := Aside0.mk (below_step HBW.out hb); replace HB := Aside0.mk (below_step z2 hb); clear hb hbox hg))
   go_ret
   exact ⟨_, rfl, (show IsS89 w0 _ gb102 (l0.take 2000) 0 from ⟨_, _, by (with_reducible repeat (first | refine blk_drewN ?_ _ | refine blk_drew ?_ | refine blk_alloc ?_ _)); exact BK102.out, GE102.out, HR101.out⟩), by repeat (first | (with_reducible first | exact HB.out | apply below_alloc | apply pw_below_drewN | apply below_drew1 | refine below_set ?_ GE102.out) | exact HB.out), by repeat (first | (with_reducible first | exact HBW.out | apply below_alloc | apply pw_below_drewN | apply below_drew1 | refine below_set ?_ GW102.out) | exact HBW.out)⟩
  ·rw [if_neg c3] at H
   exact absurd H (by simp)
 ·rw [if_neg c2] at H
  have c2b0 : decide (2000 < (l0.length : Int)) = false := decide_eq_false c2
  have c2b1 : decide (2000 < l0.length) = false := decide_eq_false (by omega)
  clear c2
  simp only [Option.some.injEq, Prod.mk.injEq] at H
  obtain ⟨rfl, rfl⟩ := H
  go_enter Try.func36, Try.ntmps36
  go_wp2_with (first | ((with_reducible refine gate_dst (N := 10) rfl ?_); refine box_event ?hg (N := 10) ?hd (cs := #[.slice A0 l0.length c0, .int .i64 0]) (t := 89) ?hr ?_; (case hd => rfl); (case hg => rfl); (case hr => first | (go_simp; done) | (go_simp; rfl)); intro gb103 hg w6 hbox hb; have BK103 := Aside0.mk (hbox); have GW103 := Aside0.mk ((by rw [hg]; exact (below_size z28) : w.heap.size ≤ gb103)); have GE103 := Aside0.mk ((Nat.le_trans HW0.out (by rw [hg]; exact (below_size z28) : w.heap.size ≤ gb103) : w0.heap.size ≤ gb103)); replace HBW := Aside0.mk (below_step HBW.out hb); replace HB := Aside0.mk (below_step z2 hb); clear hb hbox hg))
  go_ret
  exact ⟨_, rfl, (show IsS89 w0 _ gb103 l0 0 from ⟨_, _, by (with_reducible repeat (first | refine blk_drewN ?_ _ | refine blk_drew ?_ | refine blk_alloc ?_ _)); exact BK103.out, GE103.out, HR0.out⟩), by repeat (first | (with_reducible first | exact HB.out | apply below_alloc | apply pw_below_drewN | apply below_drew1 | refine below_set ?_ GE103.out) | exact HB.out), by repeat (first | (with_reducible first | exact HBW.out | apply below_alloc | apply pw_below_drewN | apply below_drew1 | refine below_set ?_ GW103.out) | exact HBW.out)⟩
end Go.Proofs.Ytfbkpjjnhengfaa.K
