import Derived.Test.YtmniglgahodghaaPs24
namespace Go.Proofs.Ytmniglgahodghaa.K
open Go.RowKit Go.Proofs.YtmniglgahodghaaW.PrintWords Go.Proofs.YtmniglgahodghaaW.PrintLast Go.Proofs.YtmniglgahodghaaW.PrintMore
attribute [local go_sem] max2_int min2_int max_two min_two max_three min_three max_four min_four
set_option linter.unusedVariables false
set_option linter.unusedSimpArgs false
def laws_eqVal.f (a0_0 : Bool) (a0_1 : Int) (a1_0 : Bool) (a1_1 : Int) : Option (Bool) := if (a0_0 != a1_0) = true then (some false) else (if a0_1 = a1_1 then (some true) else (some false))
set_option maxHeartbeats 8000000 in
set_option maxRecDepth 100000 in
theorem laws_eqVal.calls (a0_0 : Bool) (a0_1 : Int) (a1_0 : Bool) (a1_1 : Int) (r : Bool) (w : World) (h : laws_eqVal.f a0_0 a0_1 a1_0 a1_1 = some r) :
  Calls Try.prog 120 #[.agg #[.bool a0_0, .int .i64 a0_1], .agg #[.bool a1_0, .int .i64 a1_1]] w fun e w' => e = .returned (.bool r) ∧ Below w.heap.size w w' := by
 have hu112 := Try.underlying112
 have HB := Aside0.mk (Below.refl w.heap.size w)
 have H : (if (a0_0 != a1_0) = true then (some false) else (if a0_1 = a1_1 then (some true) else (some false))) = some r := h
 clear h
 by_cases c3 : (a0_0 != a1_0) = true
 ·rw [if_pos c3] at H
  have c3b0 : (a0_0 != a1_0) = true := c3
  (try (have c3b1 : decide (a0_0 = a1_0) = false := by simpa using c3))
  (try (have c3b2 : (a0_0 == a1_0) = false := by simpa using c3))
  (try (have c3b3 : ¬ (a0_0 = a1_0) := by simpa using c3))
  clear c3
  obtain rfl := Option.some.inj H
  go_enter Try.func120, Try.ntmps120
  go_wp2_with (first | ((with_reducible refine gate_dst (N := 2) rfl ?_); refine box_event ?hg (N := 2) ?hd (cs := #[.bool a0_0, .int .i64 a0_1]) (t := 112) ?hr ?_; (case hd => rfl); (case hg => rfl); (case hr => first | (go_simp; done) | (go_simp; rfl)); intro gb401 hg w4 hbox hb; have BK401 := Aside0.mk (hbox); have GW401 := Aside0.mk ((by rw [hg]; exact (below_size z1) : w.heap.size ≤ gb401)); have GE401 := Aside0.mk ((by rw [hg]; exact (below_size z1) : w.heap.size ≤ gb401)); replace HB := Aside0.mk (below_step z1 hb); clear hb hbox hg) | ((with_reducible refine gate_dst (N := 3) rfl ?_); refine box_event ?hg (N := 3) ?hd (cs := #[.bool a1_0, .int .i64 a1_1]) (t := 112) ?hr ?_; (case hd => rfl); (case hg => rfl); (case hr => first | (go_simp; done) | (go_simp; rfl)); intro gb402 hg w5 hbox hb; have BK402 := Aside0.mk (hbox); have GW402 := Aside0.mk ((by rw [hg]; exact (below_size z20) : w.heap.size ≤ gb402)); have GE402 := Aside0.mk ((by rw [hg]; exact (below_size z20) : w.heap.size ≤ gb402)); have NB401_402 := Aside0.mk ((by rw [hg]; exact Nat.ne_of_lt (blk_lt (g := gb401) (o := .cells #[.bool a0_0, .int .i64 a0_1] 112 (0, 0)) z28) : gb401 ≠ gb402)); have NB402_401 := Aside0.mk ((by rw [hg]; exact Nat.ne_of_gt (blk_lt (g := gb401) (o := .cells #[.bool a0_0, .int .i64 a0_1] 112 (0, 0)) z28) : gb402 ≠ gb401)); replace BK401 := Aside0.mk (blk_below (g := gb401) (o := .cells #[.bool a0_0, .int .i64 a0_1] 112 (0, 0)) z28 hb); replace HB := Aside0.mk (below_step z20 hb); clear hb hbox hg; have hnb6 := NB401_402.out; have hnc6 := NB402_401.out; obtain ⟨hcz7_0, hcz7_1, hfz7_0, hfz7_1⟩ := cbf2 BK401; obtain ⟨hcz8_0, hcz8_1, hfz8_0, hfz8_1⟩ := cbf2 BK402))
  go_ret
  exact ⟨by first | rfl | (simp [errW_none, errW_some] <;> rfl) | (simp [*, errW_none, errW_some] <;> rfl), by repeat (first | (with_reducible first | exact HB.out | apply below_alloc | apply pw_below_drewN | apply below_drew1 | refine below_set ?_ GE401.out | refine below_set ?_ GE402.out) | exact HB.out)⟩
 ·rw [if_neg c3] at H
  have c3b0 : (a0_0 != a1_0) = false := by simpa using c3
  (try (have c3b1 : decide (a0_0 = a1_0) = true := by simpa using c3))
  (try (have c3b2 : (a0_0 == a1_0) = true := by simpa using c3))
  clear c3
  by_cases c9 : a0_1 = a1_1
  ·rw [if_pos c9] at H
   have c9b0 : (a0_1 == a1_1) = true := beq_iff_eq.mpr c9
   have c9b1 : (a0_1 != a1_1) = false := bne_eq_false_iff_eq.mpr c9
   clear c9
   obtain rfl := Option.some.inj H
   go_enter Try.func120, Try.ntmps120
   go_wp2_with (first | ((with_reducible refine gate_dst (N := 2) rfl ?_); refine box_event ?hg (N := 2) ?hd (cs := #[.bool a0_0, .int .i64 a0_1]) (t := 112) ?hr ?_; (case hd => rfl); (case hg => rfl); (case hr => first | (go_simp; done) | (go_simp; rfl)); intro gb401 hg w10 hbox hb; have BK401 := Aside0.mk (hbox); have GW401 := Aside0.mk ((by rw [hg]; exact (below_size z1) : w.heap.size ≤ gb401)); have GE401 := Aside0.mk ((by rw [hg]; exact (below_size z1) : w.heap.size ≤ gb401)); replace HB := Aside0.mk (below_step z1 hb); clear hb hbox hg) | ((with_reducible refine gate_dst (N := 3) rfl ?_); refine box_event ?hg (N := 3) ?hd (cs := #[.bool a1_0, .int .i64 a1_1]) (t := 112) ?hr ?_; (case hd => rfl); (case hg => rfl); (case hr => first | (go_simp; done) | (go_simp; rfl)); intro gb402 hg w11 hbox hb; have BK402 := Aside0.mk (hbox); have GW402 := Aside0.mk ((by rw [hg]; exact (below_size z20) : w.heap.size ≤ gb402)); have GE402 := Aside0.mk ((by rw [hg]; exact (below_size z20) : w.heap.size ≤ gb402)); have NB401_402 := Aside0.mk ((by rw [hg]; exact Nat.ne_of_lt (blk_lt (g := gb401) (o := .cells #[.bool a0_0, .int .i64 a0_1] 112 (0, 0)) z28) : gb401 ≠ gb402)); have NB402_401 := Aside0.mk ((by rw [hg]; exact Nat.ne_of_gt (blk_lt (g := gb401) (o := .cells #[.bool a0_0, .int .i64 a0_1] 112 (0, 0)) z28) : gb402 ≠ gb401)); replace BK401 := Aside0.mk (blk_below (g := gb401) (o := .cells #[.bool a0_0, .int .i64 a0_1] 112 (0, 0)) z28 hb); replace HB := Aside0.mk (below_step z20 hb); clear hb hbox hg; have hnb12 := NB401_402.out; have hnc12 := NB402_401.out; obtain ⟨hcz13_0, hcz13_1, hfz13_0, hfz13_1⟩ := cbf2 BK401; obtain ⟨hcz14_0, hcz14_1, hfz14_0, hfz14_1⟩ := cbf2 BK402))
   go_ret
   exact ⟨by first | rfl | (simp [errW_none, errW_some] <;> rfl) | (simp [*, errW_none, errW_some] <;> rfl), by repeat (first | (with_reducible first | exact HB.out | apply below_alloc | apply pw_below_drewN | apply below_drew1 | refine below_set ?_ GE401.out | refine below_set ?_ GE402.out) | exact HB.out)⟩
  ·rw [if_neg c9] at H
   have c9b0 : (a0_1 == a1_1) = false := beq_eq_false_iff_ne.mpr c9
   have c9b1 : (a0_1 != a1_1) = true := bne_iff_ne.mpr c9
   obtain rfl := Option.some.inj H
   go_enter Try.func120, Try.ntmps120
   go_wp2_with (first | ((with_reducible refine gate_dst (N := 2) rfl ?_); refine box_event ?hg (N := 2) ?hd (cs := #[.bool a0_0, .int .i64 a0_1]) (t := 112) ?hr ?_; (case hd => rfl); (case hg => rfl); (case hr => first | (go_simp; done) | (go_simp; rfl)); intro gb401 hg w15 hbox hb; have BK401 := Aside0.mk (hbox); have GW401 := Aside0.mk ((by rw [hg]; exact (below_size z1) : w.heap.size ≤ gb401)); have GE401 := Aside0.mk ((by rw [hg]; exact (below_size z1) : w.heap.size ≤ gb401)); replace HB := Aside0.mk (below_step z1 hb); clear hb hbox hg) | ((with_reducible refine gate_dst (N := 3) rfl ?_); refine box_event ?hg (N := 3) ?hd (cs := #[.bool a1_0, .int .i64 a1_1]) (t := 112) ?hr ?_; (case hd => rfl); (case hg => rfl); (case hr => first | (go_simp; done) | (go_simp; rfl)); intro gb402 hg w16 hbox hb; have BK402 := Aside0.mk (hbox); have GW402 := Aside0.mk ((by rw [hg]; exact (below_size z20) : w.heap.size ≤ gb402)); have GE402 := Aside0.mk ((by rw [hg]; exact (below_size z20) : w.heap.size ≤ gb402)); have NB401_402 := Aside0.mk ((by rw [hg]; exact Nat.ne_of_lt (blk_lt (g := gb401) (o := .cells #[.bool a0_0, .int .i64 a0_1] 112 (0, 0)) z28) : gb401 ≠ gb402)); have NB402_401 := Aside0.mk ((by rw [hg]; exact Nat.ne_of_gt (blk_lt (g := gb401) (o := .cells #[.bool a0_0, .int .i64 a0_1] 112 (0, 0)) z28) : gb402 ≠ gb401)); replace BK401 := Aside0.mk (blk_below (g := gb401) (o := .cells #[.bool a0_0, .int .i64 a0_1] 112 (0, 0)) z28 hb); replace HB := Aside0.mk (below_step z20 hb); clear hb hbox hg; have hnb17 := NB401_402.out; have hnc17 := NB402_401.out; obtain ⟨hcz18_0, hcz18_1, hfz18_0, hfz18_1⟩ := cbf2 BK401; obtain ⟨hcz19_0, hcz19_1, hfz19_0, hfz19_1⟩ := cbf2 BK402))
   go_ret
   exact ⟨by first | rfl | (simp [errW_none, errW_some] <;> rfl) | (simp [*, errW_none, errW_some] <;> rfl), by repeat (first | (with_reducible first | exact HB.out | apply below_alloc | apply pw_below_drewN | apply below_drew1 | refine below_set ?_ GE401.out | refine below_set ?_ GE402.out) | exact HB.out)⟩
end Go.Proofs.Ytmniglgahodghaa.K
namespace Go.Proofs.Ytmniglgahodghaa.K
open Go.RowKit Go.Proofs.YtmniglgahodghaaW.PrintWords Go.Proofs.YtmniglgahodghaaW.PrintLast Go.Proofs.YtmniglgahodghaaW.PrintMore
attribute [local go_sem] max2_int min2_int max_two min_two max_three min_three max_four min_four
set_option linter.unusedVariables false
set_option linter.unusedSimpArgs false
def laws_eqValS.l0 : Nat → List (S112) → List (S112) → Int → Option (Bool)
  | 0, _, _, _ => none
  | k + 1, x0, x1, x5 => if x5 < (x0.length : Int) then (if 0 ≤ x5 then (if x5 < (x1.length : Int) then ((laws_eqVal.f ((rd_T112 x0 x5).f0) ((rd_T112 x0 x5).f1) ((rd_T112 x1 x5).f0) ((rd_T112 x1 x5).f1)).bind fun t405 => (if t405 = true then (laws_eqValS.l0 k x0 x1 (wrap64 (x5 + 1))) else (some false))) else (none)) else (none)) else (some true)
def laws_eqValS.f (k : Nat) (l0 : List (S112)) (l1 : List (S112)) : Option (Bool) := if (l0.length : Int) = (l1.length : Int) then (laws_eqValS.l0 k l0 l1 0) else (some false)
def laws_eqValS.T6 : Bool × List (List Nat × List Nat) := (true, [([], []), ([], []), ([0, 1], [0, 1]), ([2], [2]), ([], []), ([], []), ([4, 5], [4, 5]), ([6], [6]), ([3, 7], [3, 7]), ([8], [8])])
def laws_eqValS.B6 : List Nat := [0, 0, 3, 7, 0, 0, 48, 112, 255, 511]
theorem laws_eqValS.tab6 : rtab .any (opsOf Try.f93 6) = laws_eqValS.T6 := by kernel_rfl
theorem laws_eqValS.bits6 : waitsOk laws_eqValS.T6.2 laws_eqValS.B6 = true := by kernel_rfl
set_option maxHeartbeats 8000000 in
set_option maxRecDepth 100000 in
theorem laws_eqValS.calls (k : Nat) (A0 : Option Addr) (c0 : Nat) (l0 : List (S112)) (A1 : Option Addr) (c1 : Nat) (l1 : List (S112)) (r : Bool) (w : World) (hr0 : Kd.C k112 w A0 l0.length l0) (hc0 : l0.length ≤ c0) (hr1 : Kd.C k112 w A1 l1.length l1) (hc1 : l1.length ≤ c1) (h : laws_eqValS.f k l0 l1 = some r) :
  Calls Try.prog 93 #[.slice A0 l0.length c0, .slice A1 l1.length c1] w fun e w' => e = .returned (.bool r) ∧ Below w.heap.size w w' := by
 have hu112 := Try.underlying112
 have HR0 := Aside0.mk hr0
 have HC0 := Aside0.mk hc0
 clear hr0 hc0
 have HR1 := Aside0.mk hr1
 have HC1 := Aside0.mk hc1
 clear hr1 hc1
 have HB := Aside0.mk (Below.refl w.heap.size w)
 have H : (if (l0.length : Int) = (l1.length : Int) then (laws_eqValS.l0 k l0 l1 0) else (some false)) = some r := h
 clear h
 by_cases c3 : (l0.length : Int) = (l1.length : Int)
 ·rw [if_pos c3] at H
  have c3b0 : ((l0.length : Int) == (l1.length : Int)) = true := beq_iff_eq.mpr c3
  have c3b1 : ((l0.length : Int) != (l1.length : Int)) = false := bne_eq_false_iff_eq.mpr c3
  have c3b2 : (l0.length == l1.length) = true := by first | simpa using c3 | (simp at c3 ⊢; omega)
  clear c3
  have H' := Aside0.mk H
  clear H
  go_enter Try.func93, Try.ntmps93
  go_wp2
  go_loopg [5] k (fun kq v5 w' => ∃ (x5_1 : Int), v5 = .int .i64 x5_1 ∧ Aside0 (laws_eqValS.l0 kq l0 l1 x5_1 = some r) ∧ Aside0 (kq ≤ k) ∧ Aside0 (Below w.heap.size w w'))
  case atStart => exact ⟨(0), z5, H', ⟨Nat.le_refl _⟩, ⟨by repeat (first | (with_reducible first | exact HB.out | apply below_alloc | apply pw_below_drewN | apply below_drew1) | exact HB.out)⟩⟩
  case round =>
   clear H'
   try clear c1
   try clear p2
   try clear c3
   try clear c3b0
   try clear c3b1
   try clear c3b2
   obtain ⟨x5_1, rfl, HA, HK1, HB⟩ := hrel
   cases gk with
   | zero => exact absurd HA.out (by simp [laws_eqValS.l0])
   | succ k1 =>
    have H := HA.out
    clear HA
    simp only [laws_eqValS.l0] at H
    by_cases c4 : x5_1 < (l0.length : Int)
    ·rw [if_pos c4] at H
     have c4b0 : decide (x5_1 < (l0.length : Int)) = true := decide_eq_true c4
     clear c4
     by_cases c5 : 0 ≤ x5_1
     ·rw [if_pos c5] at H
      have c5b0 : decide (0 ≤ x5_1) = true := decide_eq_true c5
      clear c5
      by_cases c6 : x5_1 < (l1.length : Int)
      ·rw [if_pos c6] at H
       have c6b0 : decide (x5_1 < (l1.length : Int)) = true := decide_eq_true c6
       clear c6
       replace H := Option.bind_eq_some_iff.mp H
       obtain ⟨t405, A70, H⟩ := H
       try dsimp only at H
       have A7 := Aside0.mk A70
       clear A70
       by_cases c8 : t405 = true
       ·subst c8
        rw [if_pos rfl] at H
        have H' := Aside0.mk H
        clear H
        try go_wp2
        have n0_ := Aside0.mk (below_drew1 HB.out)
        clear HB
        have HB := n0_
        clear n0_
        have p403 : 0 ≤ (x5_1 : Int) := of_decide_eq_true z3
        have q403 : x5_1 < (l0.length : Int) := of_decide_eq_true z3
        obtain ⟨ad403, e403, hx403_0, hx403_1⟩ := at_T112 HR0.out x5_1 p403 q403
        have hw403_1 := hx403_1
        have hw403_0 := hx403_0
        cases e403
        replace hx403_0 := (HB.out.cell (World.block_lt_of_cell? w _ hx403_0)).trans hx403_0
        replace hx403_1 := (HB.out.cell (World.block_lt_of_cell? w _ hx403_1)).trans hx403_1
        replace p403 := eq_true p403
        replace q403 := eq_true q403
        have p404 : 0 ≤ (x5_1 : Int) := of_decide_eq_true z3
        have q404 : x5_1 < (l1.length : Int) := of_decide_eq_true z3
        obtain ⟨ad404, e404, hx404_0, hx404_1⟩ := at_T112 HR1.out x5_1 p404 q404
        have hw404_1 := hx404_1
        have hw404_0 := hx404_0
        cases e404
        replace hx404_0 := (HB.out.cell (World.block_lt_of_cell? w _ hx404_0)).trans hx404_0
        replace hx404_1 := (HB.out.cell (World.block_lt_of_cell? w _ hx404_1)).trans hx404_1
        replace p404 := eq_true p404
        replace q404 := eq_true q404
        refine start_ (n := 10) (S := fun w' => w'.cell? (ad403.add ((x5_1).toNat * 2)) = some (.bool ((rd_T112 l0 x5_1).f0)) ∧ w'.cell? ⟨(ad403.add ((x5_1).toNat * 2)).block, (ad403.add ((x5_1).toNat * 2)).off + 1, none⟩ = some (.int .i64 ((rd_T112 l0 x5_1).f1)) ∧ w'.cell? (ad404.add ((x5_1).toNat * 2)) = some (.bool ((rd_T112 l1 x5_1).f0)) ∧ w'.cell? ⟨(ad404.add ((x5_1).toNat * 2)).block, (ad404.add ((x5_1).toNat * 2)).off + 1, none⟩ = some (.int .i64 ((rd_T112 l1 x5_1).f1))) (ds := []) #[false, false, false, false, false, false, false, false, false, false] (by kernel_rfl) rfl rfl ⟨((HB.out.cell (World.block_lt_of_cell? w _ hw403_0)).trans hw403_0), ((HB.out.cell (World.block_lt_of_cell? w _ hw403_1)).trans hw403_1), ((HB.out.cell (World.block_lt_of_cell? w _ hw404_0)).trans hw404_0), ((HB.out.cell (World.block_lt_of_cell? w _ hw404_1)).trans hw404_1)⟩ (fun hHeld => ?_); refine with_tabW laws_eqValS.tab6 laws_eqValS.bits6 (fun HT_ HW_ => ?_)
        generalize wr.drew = w9 at HB hx403_0 hx403_1 hx404_0 hx404_1 hHeld ⊢
        refine pS 0 17 #[true, false, false, false, false, false, false, false, false, false] ?_ (hc := (any_of HT_.out (by kernel_rfl)))
        refine pS 1 18 #[true, true, false, false, false, false, false, false, false, false] ?_ (hc := (any_of HT_.out (by kernel_rfl)))
        refine pS 2 19 #[true, true, true, false, false, false, false, false, false, false] ?_ (hc := (any_of HT_.out (by kernel_rfl)))
        refine pS 4 21 #[true, true, true, false, true, false, false, false, false, false] ?_ (hc := (any_of HT_.out (by kernel_rfl)))
        refine pS 5 22 #[true, true, true, false, true, true, false, false, false, false] ?_ (hc := (any_of HT_.out (by kernel_rfl)))
        refine pS 6 23 #[true, true, true, false, true, true, true, false, false, false] ?_ (hc := (any_of HT_.out (by kernel_rfl)))
        refine tS 3 20 #[true, true, true, true, true, true, true, false, false, false] rfl rfl (take_ofW HT_.out HW_.out (by kernel_rfl)) hHeld z18 ?_
        refine tS 7 24 #[true, true, true, true, true, true, true, true, false, false] rfl rfl (take_ofW HT_.out HW_.out (by kernel_rfl)) hHeld z18 ?_
        refine one_ (i := 8) (N := some 25) #[true, true, true, true, true, true, true, true, true, false] rfl rfl (one_of HT_.out (by kernel_rfl)) (by decide) (fun K hK => ?_)
        refine goes_ Try.func120 (by kernel_rfl) rfl #[.agg #[.bool ((rd_T112 l0 x5_1).f0), .int .i64 ((rd_T112 l0 x5_1).f1)], .agg #[.bool ((rd_T112 l1 x5_1).f0), .int .i64 ((rd_T112 l1 x5_1).f1)]] (by rfl) rfl rfl z2 ?_
        with_reducible refine (laws_eqVal.calls ((rd_T112 l0 x5_1).f0) ((rd_T112 l0 x5_1).f1) ((rd_T112 l1 x5_1).f0) ((rd_T112 l1 x5_1).f1) true _ A7.out).mono ?_
        rintro e w10 ⟨rfl, hb⟩
        refine ⟨_, rfl, ?_⟩
        have n0_ := Aside0.mk (below_step z1 hb)
        clear HB
        have HB := n0_
        clear n0_
        (try clear hb)
        (try clear hb2)
        (try clear hk)
        (try clear hi)
        refine hK.out _ _ ⟨((HB.out.cell (World.block_lt_of_cell? w _ hw403_0)).trans hw403_0), ((HB.out.cell (World.block_lt_of_cell? w _ hw403_1)).trans hw403_1), ((HB.out.cell (World.block_lt_of_cell? w _ hw404_0)).trans hw404_0), ((HB.out.cell (World.block_lt_of_cell? w _ hw404_1)).trans hw404_1)⟩ (fun hHeld => ?_)
        clear hK K
        refine norm_ (a' := ?_) ?_ ?_
        rotate_left
        ·show Act.put _ (some 25) _ = _
         simp only [Act.put, lA1, lA2, lA3, i64_w, i32_w]
         rfl
        refine pS 9 26 #[true, true, true, true, true, true, true, true, true, true] ?_ (hc := (any_of HT_.out (by kernel_rfl)))
        refine done_ (done_of HT_.out (by kernel_rfl)) ?_
        try go_wp2
        go_roundg k1
        case measure => have := HK1.out; omega
        case rel => exact ⟨(wrap64 (x5_1 + 1)), z5, H', ⟨by have := HK1.out; omega⟩, ⟨by repeat (first | (with_reducible first | exact HB.out | apply below_alloc | apply pw_below_drewN | apply below_drew1) | exact HB.out)⟩⟩
       ·replace c8 := Bool.eq_false_iff.mpr c8
        subst c8
        rw [if_neg (show ¬ (false = true) by decide)] at H
        obtain rfl := Option.some.inj H
        try go_wp2
        have n0_ := Aside0.mk (below_drew1 HB.out)
        clear HB
        have HB := n0_
        clear n0_
        have p403 : 0 ≤ (x5_1 : Int) := of_decide_eq_true z3
        have q403 : x5_1 < (l0.length : Int) := of_decide_eq_true z3
        obtain ⟨ad403, e403, hx403_0, hx403_1⟩ := at_T112 HR0.out x5_1 p403 q403
        have hw403_1 := hx403_1
        have hw403_0 := hx403_0
        cases e403
        replace hx403_0 := (HB.out.cell (World.block_lt_of_cell? w _ hx403_0)).trans hx403_0
        replace hx403_1 := (HB.out.cell (World.block_lt_of_cell? w _ hx403_1)).trans hx403_1
        replace p403 := eq_true p403
        replace q403 := eq_true q403
        have p404 : 0 ≤ (x5_1 : Int) := of_decide_eq_true z3
        have q404 : x5_1 < (l1.length : Int) := of_decide_eq_true z3
        obtain ⟨ad404, e404, hx404_0, hx404_1⟩ := at_T112 HR1.out x5_1 p404 q404
        have hw404_1 := hx404_1
        have hw404_0 := hx404_0
        cases e404
        replace hx404_0 := (HB.out.cell (World.block_lt_of_cell? w _ hx404_0)).trans hx404_0
        replace hx404_1 := (HB.out.cell (World.block_lt_of_cell? w _ hx404_1)).trans hx404_1
        replace p404 := eq_true p404
        replace q404 := eq_true q404
        refine start_ (n := 10) (S := fun w' => w'.cell? (ad403.add ((x5_1).toNat * 2)) = some (.bool ((rd_T112 l0 x5_1).f0)) ∧ w'.cell? ⟨(ad403.add ((x5_1).toNat * 2)).block, (ad403.add ((x5_1).toNat * 2)).off + 1, none⟩ = some (.int .i64 ((rd_T112 l0 x5_1).f1)) ∧ w'.cell? (ad404.add ((x5_1).toNat * 2)) = some (.bool ((rd_T112 l1 x5_1).f0)) ∧ w'.cell? ⟨(ad404.add ((x5_1).toNat * 2)).block, (ad404.add ((x5_1).toNat * 2)).off + 1, none⟩ = some (.int .i64 ((rd_T112 l1 x5_1).f1))) (ds := []) #[false, false, false, false, false, false, false, false, false, false] (by kernel_rfl) rfl rfl ⟨((HB.out.cell (World.block_lt_of_cell? w _ hw403_0)).trans hw403_0), ((HB.out.cell (World.block_lt_of_cell? w _ hw403_1)).trans hw403_1), ((HB.out.cell (World.block_lt_of_cell? w _ hw404_0)).trans hw404_0), ((HB.out.cell (World.block_lt_of_cell? w _ hw404_1)).trans hw404_1)⟩ (fun hHeld => ?_); refine with_tabW laws_eqValS.tab6 laws_eqValS.bits6 (fun HT_ HW_ => ?_)
        generalize wr.drew = w11 at HB hx403_0 hx403_1 hx404_0 hx404_1 hHeld ⊢
        refine pS 0 17 #[true, false, false, false, false, false, false, false, false, false] ?_ (hc := (any_of HT_.out (by kernel_rfl)))
        refine pS 1 18 #[true, true, false, false, false, false, false, false, false, false] ?_ (hc := (any_of HT_.out (by kernel_rfl)))
        refine pS 2 19 #[true, true, true, false, false, false, false, false, false, false] ?_ (hc := (any_of HT_.out (by kernel_rfl)))
        refine pS 4 21 #[true, true, true, false, true, false, false, false, false, false] ?_ (hc := (any_of HT_.out (by kernel_rfl)))
        refine pS 5 22 #[true, true, true, false, true, true, false, false, false, false] ?_ (hc := (any_of HT_.out (by kernel_rfl)))
        refine pS 6 23 #[true, true, true, false, true, true, true, false, false, false] ?_ (hc := (any_of HT_.out (by kernel_rfl)))
        refine tS 3 20 #[true, true, true, true, true, true, true, false, false, false] rfl rfl (take_ofW HT_.out HW_.out (by kernel_rfl)) hHeld z18 ?_
        refine tS 7 24 #[true, true, true, true, true, true, true, true, false, false] rfl rfl (take_ofW HT_.out HW_.out (by kernel_rfl)) hHeld z18 ?_
        refine one_ (i := 8) (N := some 25) #[true, true, true, true, true, true, true, true, true, false] rfl rfl (one_of HT_.out (by kernel_rfl)) (by decide) (fun K hK => ?_)
        refine goes_ Try.func120 (by kernel_rfl) rfl #[.agg #[.bool ((rd_T112 l0 x5_1).f0), .int .i64 ((rd_T112 l0 x5_1).f1)], .agg #[.bool ((rd_T112 l1 x5_1).f0), .int .i64 ((rd_T112 l1 x5_1).f1)]] (by rfl) rfl rfl z2 ?_
        with_reducible refine (laws_eqVal.calls ((rd_T112 l0 x5_1).f0) ((rd_T112 l0 x5_1).f1) ((rd_T112 l1 x5_1).f0) ((rd_T112 l1 x5_1).f1) false _ A7.out).mono ?_
        rintro e w12 ⟨rfl, hb⟩
        refine ⟨_, rfl, ?_⟩
        have n0_ := Aside0.mk (below_step z1 hb)
        clear HB
        have HB := n0_
        clear n0_
        (try clear hb)
        (try clear hb2)
        (try clear hk)
        (try clear hi)
        refine hK.out _ _ ⟨((HB.out.cell (World.block_lt_of_cell? w _ hw403_0)).trans hw403_0), ((HB.out.cell (World.block_lt_of_cell? w _ hw403_1)).trans hw403_1), ((HB.out.cell (World.block_lt_of_cell? w _ hw404_0)).trans hw404_0), ((HB.out.cell (World.block_lt_of_cell? w _ hw404_1)).trans hw404_1)⟩ (fun hHeld => ?_)
        clear hK K
        refine norm_ (a' := ?_) ?_ ?_
        rotate_left
        ·show Act.put _ (some 25) _ = _
         simp only [Act.put, lA1, lA2, lA3, i64_w, i32_w]
         rfl
        refine pS 9 26 #[true, true, true, true, true, true, true, true, true, true] ?_ (hc := (any_of HT_.out (by kernel_rfl)))
        refine done_ (done_of HT_.out (by kernel_rfl)) ?_
        try go_wp2
        go_ret
        exact ⟨by first | rfl | (simp [errW_none, errW_some] <;> rfl) | (simp [*, errW_none, errW_some] <;> rfl), by repeat (first | (with_reducible first | exact HB.out | apply below_alloc | apply pw_below_drewN | apply below_drew1) | exact HB.out)⟩
      ·rw [if_neg c6] at H
       exact absurd H (by simp)
     ·rw [if_neg c5] at H
      exact absurd H (by simp)
    ·rw [if_neg c4] at H
     have c4b0 : decide (x5_1 < (l0.length : Int)) = false := decide_eq_false c4
     clear c4
     obtain rfl := Option.some.inj H
     go_wp2
     go_ret
     exact ⟨by first | rfl | (simp [errW_none, errW_some] <;> rfl) | (simp [*, errW_none, errW_some] <;> rfl), by repeat (first | (with_reducible first | exact HB.out | apply below_alloc | apply pw_below_drewN | apply below_drew1) | exact HB.out)⟩
 ·rw [if_neg c3] at H
  have c3b0 : ((l0.length : Int) == (l1.length : Int)) = false := beq_eq_false_iff_ne.mpr c3
  have c3b1 : ((l0.length : Int) != (l1.length : Int)) = true := bne_iff_ne.mpr c3
  have c3b2 : (l0.length == l1.length) = false := by first | simpa using c3 | (simp at c3 ⊢; omega)
  obtain rfl := Option.some.inj H
  go_enter Try.func93, Try.ntmps93
  go_wp2
  go_ret
  exact ⟨by first | rfl | (simp [errW_none, errW_some] <;> rfl) | (simp [*, errW_none, errW_some] <;> rfl), by repeat (first | (with_reducible first | exact HB.out | apply below_alloc | apply pw_below_drewN | apply below_drew1) | exact HB.out)⟩
end Go.Proofs.Ytmniglgahodghaa.K
namespace Go.Proofs.Ytmniglgahodghaa.K
open Go.RowKit Go.Proofs.YtmniglgahodghaaW.PrintWords Go.Proofs.YtmniglgahodghaaW.PrintLast Go.Proofs.YtmniglgahodghaaW.PrintMore
attribute [local go_sem] max2_int min2_int max_two min_two max_three min_three max_four min_four
set_option linter.unusedVariables false
set_option linter.unusedSimpArgs false
def laws_eqObj.f (k : Nat) (a0_0 : Int) (l0_1 : List (S112)) (a1_0 : Int) (l1_1 : List (S112)) : Option (Bool) := if a0_0 = a1_0 then ((laws_eqValS.f k l0_1 l1_1).bind fun t408 => (if t408 = true then (some true) else (some false))) else (some false)
set_option maxHeartbeats 8000000 in
set_option maxRecDepth 100000 in
theorem laws_eqObj.calls (k : Nat) (a0_0 : Int) (A0_1 : Option Addr) (c0_1 : Nat) (l0_1 : List (S112)) (a1_0 : Int) (A1_1 : Option Addr) (c1_1 : Nat) (l1_1 : List (S112)) (r : Bool) (w : World) (hr0_1 : Kd.C k112 w A0_1 l0_1.length l0_1) (hc0_1 : l0_1.length ≤ c0_1) (hr1_1 : Kd.C k112 w A1_1 l1_1.length l1_1) (hc1_1 : l1_1.length ≤ c1_1) (h : laws_eqObj.f k a0_0 l0_1 a1_0 l1_1 = some r) :
  Calls Try.prog 54 #[.agg #[.int .i64 a0_0, .slice A0_1 l0_1.length c0_1], .agg #[.int .i64 a1_0, .slice A1_1 l1_1.length c1_1]] w fun e w' => e = .returned (.bool r) ∧ Below w.heap.size w w' := by
 have hu86 := Try.underlying86
 have HR0_1 := Aside0.mk hr0_1
 have HC0_1 := Aside0.mk hc0_1
 clear hr0_1 hc0_1
 have HR1_1 := Aside0.mk hr1_1
 have HC1_1 := Aside0.mk hc1_1
 clear hr1_1 hc1_1
 have HB := Aside0.mk (Below.refl w.heap.size w)
 have H : (if a0_0 = a1_0 then ((laws_eqValS.f k l0_1 l1_1).bind fun t408 => (if t408 = true then (some true) else (some false))) else (some false)) = some r := h
 clear h
 by_cases c3 : a0_0 = a1_0
 ·rw [if_pos c3] at H
  have c3b0 : (a0_0 == a1_0) = true := beq_iff_eq.mpr c3
  have c3b1 : (a0_0 != a1_0) = false := bne_eq_false_iff_eq.mpr c3
  clear c3
  replace H := Option.bind_eq_some_iff.mp H
  obtain ⟨t408, A40, H⟩ := H
  try dsimp only at H
  have A4 := Aside0.mk A40
  clear A40
  by_cases c5 : t408 = true
  ·subst c5
   rw [if_pos rfl] at H
   obtain rfl := Option.some.inj H
   go_enter Try.func54, Try.ntmps54
   go_wp2_with (first | ((with_reducible refine gate_dst (N := 2) rfl ?_); refine box_event ?hg (N := 2) ?hd (cs := #[.int .i64 a0_0, .slice A0_1 l0_1.length c0_1]) (t := 86) ?hr ?_; (case hd => rfl); (case hg => rfl); (case hr => first | (go_simp; done) | (go_simp; rfl)); intro gb406 hg w6 hbox hb; have BK406 := Aside0.mk (hbox); have GW406 := Aside0.mk ((by rw [hg]; exact (below_size z1) : w.heap.size ≤ gb406)); have GE406 := Aside0.mk ((by rw [hg]; exact (below_size z1) : w.heap.size ≤ gb406)); replace HB := Aside0.mk (below_step z1 hb); clear hb hbox hg) | ((with_reducible refine gate_dst (N := 3) rfl ?_); refine box_event ?hg (N := 3) ?hd (cs := #[.int .i64 a1_0, .slice A1_1 l1_1.length c1_1]) (t := 86) ?hr ?_; (case hd => rfl); (case hg => rfl); (case hr => first | (go_simp; done) | (go_simp; rfl)); intro gb407 hg w7 hbox hb; have BK407 := Aside0.mk (hbox); have GW407 := Aside0.mk ((by rw [hg]; exact (below_size z19) : w.heap.size ≤ gb407)); have GE407 := Aside0.mk ((by rw [hg]; exact (below_size z19) : w.heap.size ≤ gb407)); have NB406_407 := Aside0.mk ((by rw [hg]; exact Nat.ne_of_lt (blk_lt (g := gb406) (o := .cells #[.int .i64 a0_0, .slice A0_1 l0_1.length c0_1] 86 (0, 0)) z25) : gb406 ≠ gb407)); have NB407_406 := Aside0.mk ((by rw [hg]; exact Nat.ne_of_gt (blk_lt (g := gb406) (o := .cells #[.int .i64 a0_0, .slice A0_1 l0_1.length c0_1] 86 (0, 0)) z25) : gb407 ≠ gb406)); replace BK406 := Aside0.mk (blk_below (g := gb406) (o := .cells #[.int .i64 a0_0, .slice A0_1 l0_1.length c0_1] 86 (0, 0)) z25 hb); replace HB := Aside0.mk (below_step z19 hb); clear hb hbox hg; have hnb8 := NB406_407.out; have hnc8 := NB407_406.out; obtain ⟨hcz9_0, hcz9_1, hfz9_0, hfz9_1⟩ := cbf2 BK406; obtain ⟨hcz10_0, hcz10_1, hfz10_0, hfz10_1⟩ := cbf2 BK407) | ((with_reducible refine gate_callee (f := 93) rfl ?_); refine goesL_ (some 14) rfl rfl Try.func93 (by kernel_rfl) rfl #[.slice A0_1 l0_1.length c0_1, .slice A1_1 l1_1.length c1_1] rfl z2 ?_; (with_reducible refine (laws_eqValS.calls k _ _ l0_1 _ _ l1_1 true _ ?side1 ?side2 ?side3 ?side4 A4.out).mono ?_); (case side1 => repeat (first | exact (Kd.C_below HR0_1.out HB.out) | (with_reducible refine Kd.C_alloc ?_ _) | (with_reducible refine Kd.C_drewN ?_ _) | (with_reducible refine Kd.C_drew ?_))); (case side2 => exact HC0_1.out); (case side3 => repeat (first | exact (Kd.C_below HR1_1.out HB.out) | (with_reducible refine Kd.C_alloc ?_ _) | (with_reducible refine Kd.C_drewN ?_ _) | (with_reducible refine Kd.C_drew ?_))); (case side4 => exact HC1_1.out); rintro e w11 ⟨rfl, hb⟩; refine ⟨_, rfl, ?_⟩; replace BK406 := Aside0.mk (blk_below (g := gb406) (o := .cells #[.int .i64 a0_0, .slice A0_1 l0_1.length c0_1] 86 (0, 0)) z25 hb); replace BK407 := Aside0.mk (blk_below (g := gb407) (o := .cells #[.int .i64 a1_0, .slice A1_1 l1_1.length c1_1] 86 (0, 0)) (by (with_reducible repeat (first | refine blk_drewN ?_ _ | refine blk_drew ?_ | refine blk_alloc ?_ _)); exact BK407.out) hb); replace HB := Aside0.mk (below_step (by repeat (first | (with_reducible first | exact HB.out | apply below_alloc | apply pw_below_drewN | apply below_drew1 | refine below_set ?_ GE406.out | refine below_set ?_ GE407.out) | exact HB.out)) hb); (try clear hb); (try clear hb2); (try clear hk); (try clear hi)))
   go_ret
   exact ⟨by first | rfl | (simp [errW_none, errW_some] <;> rfl) | (simp [*, errW_none, errW_some] <;> rfl), by repeat (first | (with_reducible first | exact HB.out | apply below_alloc | apply pw_below_drewN | apply below_drew1 | refine below_set ?_ GE406.out | refine below_set ?_ GE407.out) | exact HB.out)⟩
  ·replace c5 := Bool.eq_false_iff.mpr c5
   subst c5
   rw [if_neg (show ¬ (false = true) by decide)] at H
   obtain rfl := Option.some.inj H
   go_enter Try.func54, Try.ntmps54
   go_wp2_with (first | ((with_reducible refine gate_dst (N := 2) rfl ?_); refine box_event ?hg (N := 2) ?hd (cs := #[.int .i64 a0_0, .slice A0_1 l0_1.length c0_1]) (t := 86) ?hr ?_; (case hd => rfl); (case hg => rfl); (case hr => first | (go_simp; done) | (go_simp; rfl)); intro gb406 hg w12 hbox hb; have BK406 := Aside0.mk (hbox); have GW406 := Aside0.mk ((by rw [hg]; exact (below_size z1) : w.heap.size ≤ gb406)); have GE406 := Aside0.mk ((by rw [hg]; exact (below_size z1) : w.heap.size ≤ gb406)); replace HB := Aside0.mk (below_step z1 hb); clear hb hbox hg) | ((with_reducible refine gate_dst (N := 3) rfl ?_); refine box_event ?hg (N := 3) ?hd (cs := #[.int .i64 a1_0, .slice A1_1 l1_1.length c1_1]) (t := 86) ?hr ?_; (case hd => rfl); (case hg => rfl); (case hr => first | (go_simp; done) | (go_simp; rfl)); intro gb407 hg w13 hbox hb; have BK407 := Aside0.mk (hbox); have GW407 := Aside0.mk ((by rw [hg]; exact (below_size z19) : w.heap.size ≤ gb407)); have GE407 := Aside0.mk ((by rw [hg]; exact (below_size z19) : w.heap.size ≤ gb407)); have NB406_407 := Aside0.mk ((by rw [hg]; exact Nat.ne_of_lt (blk_lt (g := gb406) (o := .cells #[.int .i64 a0_0, .slice A0_1 l0_1.length c0_1] 86 (0, 0)) z25) : gb406 ≠ gb407)); have NB407_406 := Aside0.mk ((by rw [hg]; exact Nat.ne_of_gt (blk_lt (g := gb406) (o := .cells #[.int .i64 a0_0, .slice A0_1 l0_1.length c0_1] 86 (0, 0)) z25) : gb407 ≠ gb406)); replace BK406 := Aside0.mk (blk_below (g := gb406) (o := .cells #[.int .i64 a0_0, .slice A0_1 l0_1.length c0_1] 86 (0, 0)) z25 hb); replace HB := Aside0.mk (below_step z19 hb); clear hb hbox hg; have hnb14 := NB406_407.out; have hnc14 := NB407_406.out; obtain ⟨hcz15_0, hcz15_1, hfz15_0, hfz15_1⟩ := cbf2 BK406; obtain ⟨hcz16_0, hcz16_1, hfz16_0, hfz16_1⟩ := cbf2 BK407) | ((with_reducible refine gate_callee (f := 93) rfl ?_); refine goesL_ (some 14) rfl rfl Try.func93 (by kernel_rfl) rfl #[.slice A0_1 l0_1.length c0_1, .slice A1_1 l1_1.length c1_1] rfl z2 ?_; (with_reducible refine (laws_eqValS.calls k _ _ l0_1 _ _ l1_1 false _ ?side1 ?side2 ?side3 ?side4 A4.out).mono ?_); (case side1 => repeat (first | exact (Kd.C_below HR0_1.out HB.out) | (with_reducible refine Kd.C_alloc ?_ _) | (with_reducible refine Kd.C_drewN ?_ _) | (with_reducible refine Kd.C_drew ?_))); (case side2 => exact HC0_1.out); (case side3 => repeat (first | exact (Kd.C_below HR1_1.out HB.out) | (with_reducible refine Kd.C_alloc ?_ _) | (with_reducible refine Kd.C_drewN ?_ _) | (with_reducible refine Kd.C_drew ?_))); (case side4 => exact HC1_1.out); rintro e w17 ⟨rfl, hb⟩; refine ⟨_, rfl, ?_⟩; replace BK406 := Aside0.mk (blk_below (g := gb406) (o := .cells #[.int .i64 a0_0, .slice A0_1 l0_1.length c0_1] 86 (0, 0)) z25 hb); replace BK407 := Aside0.mk (blk_below (g := gb407) (o := .cells #[.int .i64 a1_0, .slice A1_1 l1_1.length c1_1] 86 (0, 0)) (by (with_reducible repeat (first | refine blk_drewN ?_ _ | refine blk_drew ?_ | refine blk_alloc ?_ _)); exact BK407.out) hb); replace HB := Aside0.mk (below_step (by repeat (first | (with_reducible first | exact HB.out | apply below_alloc | apply pw_below_drewN | apply below_drew1 | refine below_set ?_ GE406.out | refine below_set ?_ GE407.out) | exact HB.out)) hb); (try clear hb); (try clear hb2); (try clear hk); (try clear hi)))
   go_ret
   exact ⟨by first | rfl | (simp [errW_none, errW_some] <;> rfl) | (simp [*, errW_none, errW_some] <;> rfl), by repeat (first | (with_reducible first | exact HB.out | apply below_alloc | apply pw_below_drewN | apply below_drew1 | refine below_set ?_ GE406.out | refine below_set ?_ GE407.out) | exact HB.out)⟩
 ·rw [if_neg c3] at H
  have c3b0 : (a0_0 == a1_0) = false := beq_eq_false_iff_ne.mpr c3
  have c3b1 : (a0_0 != a1_0) = true := bne_iff_ne.mpr c3
  obtain rfl := Option.some.inj H
  go_enter Try.func54, Try.ntmps54
  go_wp2_with (first | ((with_reducible refine gate_dst (N := 2) rfl ?_); refine box_event ?hg (N := 2) ?hd (cs := #[.int .i64 a0_0, .slice A0_1 l0_1.length c0_1]) (t := 86) ?hr ?_; (case hd => rfl); (case hg => rfl); (case hr => first | (go_simp; done) | (go_simp; rfl)); intro gb406 hg w18 hbox hb; have BK406 := Aside0.mk (hbox); have GW406 := Aside0.mk ((by rw [hg]; exact (below_size z1) : w.heap.size ≤ gb406)); have GE406 := Aside0.mk ((by rw [hg]; exact (below_size z1) : w.heap.size ≤ gb406)); replace HB := Aside0.mk (below_step z1 hb); clear hb hbox hg) | ((with_reducible refine gate_dst (N := 3) rfl ?_); refine box_event ?hg (N := 3) ?hd (cs := #[.int .i64 a1_0, .slice A1_1 l1_1.length c1_1]) (t := 86) ?hr ?_; (case hd => rfl); (case hg => rfl); (case hr => first | (go_simp; done) | (go_simp; rfl)); intro gb407 hg w19 hbox hb; have BK407 := Aside0.mk (hbox); have GW407 := Aside0.mk ((by rw [hg]; exact (below_size z19) : w.heap.size ≤ gb407)); have GE407 := Aside0.mk ((by rw [hg]; exact (below_size z19) : w.heap.size ≤ gb407)); have NB406_407 := Aside0.mk ((by rw [hg]; exact Nat.ne_of_lt (blk_lt (g := gb406) (o := .cells #[.int .i64 a0_0, .slice A0_1 l0_1.length c0_1] 86 (0, 0)) z25) : gb406 ≠ gb407)); have NB407_406 := Aside0.mk ((by rw [hg]; exact Nat.ne_of_gt (blk_lt (g := gb406) (o := .cells #[.int .i64 a0_0, .slice A0_1 l0_1.length c0_1] 86 (0, 0)) z25) : gb407 ≠ gb406)); replace BK406 := Aside0.mk (blk_below (g := gb406) (o := .cells #[.int .i64 a0_0, .slice A0_1 l0_1.length c0_1] 86 (0, 0)) z25 hb); replace HB := Aside0.mk (below_step z19 hb); clear hb hbox hg; have hnb20 := NB406_407.out; have hnc20 := NB407_406.out; obtain ⟨hcz21_0, hcz21_1, hfz21_0, hfz21_1⟩ := cbf2 BK406; obtain ⟨hcz22_0, hcz22_1, hfz22_0, hfz22_1⟩ := cbf2 BK407))
  go_ret
  exact ⟨by first | rfl | (simp [errW_none, errW_some] <;> rfl) | (simp [*, errW_none, errW_some] <;> rfl), by repeat (first | (with_reducible first | exact HB.out | apply below_alloc | apply pw_below_drewN | apply below_drew1 | refine below_set ?_ GE406.out | refine below_set ?_ GE407.out) | exact HB.out)⟩
end Go.Proofs.Ytmniglgahodghaa.K
namespace Go.Proofs.Ytmniglgahodghaa.K
open Go.RowKit Go.Proofs.YtmniglgahodghaaW.PrintWords Go.Proofs.YtmniglgahodghaaW.PrintLast Go.Proofs.YtmniglgahodghaaW.PrintMore
attribute [local go_sem] max2_int min2_int max_two min_two max_three min_three max_four min_four
set_option linter.unusedVariables false
set_option linter.unusedSimpArgs false
def laws_eqObjS.l0 : Nat → List (S86) → List (S86) → Int → Option (Bool)
  | 0, _, _, _ => none
  | k + 1, x0, x1, x5 => if x5 < (x0.length : Int) then (if 0 ≤ x5 then (if x5 < (x1.length : Int) then ((laws_eqObj.f k ((rd_T86 x0 x5).f0) ((rd_T86 x0 x5).f1) ((rd_T86 x1 x5).f0) ((rd_T86 x1 x5).f1)).bind fun t411 => (if t411 = true then (laws_eqObjS.l0 k x0 x1 (wrap64 (x5 + 1))) else (some false))) else (none)) else (none)) else (some true)
def laws_eqObjS.f (k : Nat) (l0 : List (S86)) (l1 : List (S86)) : Option (Bool) := if (l0.length : Int) = (l1.length : Int) then (laws_eqObjS.l0 k l0 l1 0) else (some false)
def laws_eqObjS.T6 : Bool × List (List Nat × List Nat) := (true, [([], []), ([], []), ([0, 1], [0, 1]), ([2], [2]), ([], []), ([], []), ([4, 5], [4, 5]), ([6], [6]), ([3, 7], [3, 7]), ([8], [8])])
def laws_eqObjS.B6 : List Nat := [0, 0, 3, 7, 0, 0, 48, 112, 255, 511]
theorem laws_eqObjS.tab6 : rtab .any (opsOf Try.f20 6) = laws_eqObjS.T6 := by kernel_rfl
theorem laws_eqObjS.bits6 : waitsOk laws_eqObjS.T6.2 laws_eqObjS.B6 = true := by kernel_rfl
set_option maxHeartbeats 8000000 in
set_option maxRecDepth 100000 in
theorem laws_eqObjS.calls (k : Nat) (A0 : Option Addr) (c0 : Nat) (l0 : List (S86)) (A1 : Option Addr) (c1 : Nat) (l1 : List (S86)) (r : Bool) (w : World) (hr0 : Kd.C k86 w A0 l0.length l0) (hc0 : l0.length ≤ c0) (hr1 : Kd.C k86 w A1 l1.length l1) (hc1 : l1.length ≤ c1) (h : laws_eqObjS.f k l0 l1 = some r) :
  Calls Try.prog 20 #[.slice A0 l0.length c0, .slice A1 l1.length c1] w fun e w' => e = .returned (.bool r) ∧ Below w.heap.size w w' := by
 have hu86 := Try.underlying86
 have HR0 := Aside0.mk hr0
 have HC0 := Aside0.mk hc0
 clear hr0 hc0
 have HR1 := Aside0.mk hr1
 have HC1 := Aside0.mk hc1
 clear hr1 hc1
 have HB := Aside0.mk (Below.refl w.heap.size w)
 have H : (if (l0.length : Int) = (l1.length : Int) then (laws_eqObjS.l0 k l0 l1 0) else (some false)) = some r := h
 clear h
 by_cases c3 : (l0.length : Int) = (l1.length : Int)
 ·rw [if_pos c3] at H
  have c3b0 : ((l0.length : Int) == (l1.length : Int)) = true := beq_iff_eq.mpr c3
  have c3b1 : ((l0.length : Int) != (l1.length : Int)) = false := bne_eq_false_iff_eq.mpr c3
  have c3b2 : (l0.length == l1.length) = true := by first | simpa using c3 | (simp at c3 ⊢; omega)
  clear c3
  have H' := Aside0.mk H
  clear H
  go_enter Try.func20, Try.ntmps20
  go_wp2
  go_loopg [5] k (fun kq v5 w' => ∃ (x5_1 : Int), v5 = .int .i64 x5_1 ∧ Aside0 (laws_eqObjS.l0 kq l0 l1 x5_1 = some r) ∧ Aside0 (kq ≤ k) ∧ Aside0 (Below w.heap.size w w'))
  case atStart => exact ⟨(0), z5, H', ⟨Nat.le_refl _⟩, ⟨by repeat (first | (with_reducible first | exact HB.out | apply below_alloc | apply pw_below_drewN | apply below_drew1) | exact HB.out)⟩⟩
  case round =>
   clear H'
   try clear c1
   try clear c2
   try clear p2
   try clear c3
   try clear c3b0
   try clear c3b1
   try clear c3b2
   obtain ⟨x5_1, rfl, HA, HK1, HB⟩ := hrel
   cases gk with
   | zero => exact absurd HA.out (by simp [laws_eqObjS.l0])
   | succ k1 =>
    have H := HA.out
    clear HA
    simp only [laws_eqObjS.l0] at H
    by_cases c4 : x5_1 < (l0.length : Int)
    ·rw [if_pos c4] at H
     have c4b0 : decide (x5_1 < (l0.length : Int)) = true := decide_eq_true c4
     clear c4
     by_cases c5 : 0 ≤ x5_1
     ·rw [if_pos c5] at H
      have c5b0 : decide (0 ≤ x5_1) = true := decide_eq_true c5
      clear c5
      by_cases c6 : x5_1 < (l1.length : Int)
      ·rw [if_pos c6] at H
       have c6b0 : decide (x5_1 < (l1.length : Int)) = true := decide_eq_true c6
       clear c6
       replace H := Option.bind_eq_some_iff.mp H
       obtain ⟨t411, A70, H⟩ := H
       try dsimp only at H
       have A7 := Aside0.mk A70
       clear A70
       by_cases c8 : t411 = true
       ·subst c8
        rw [if_pos rfl] at H
        have H' := Aside0.mk H
        clear H
        try go_wp2
        have n0_ := Aside0.mk (below_drew1 HB.out)
        clear HB
        have HB := n0_
        clear n0_
        have p409 : 0 ≤ (x5_1 : Int) := of_decide_eq_true z3
        have q409 : x5_1 < (l0.length : Int) := of_decide_eq_true z3
        obtain ⟨ad409, A409_1, c409_1, e409, hx409_0, hx409_1, hl409_1, hi409_1⟩ := at_T86 HR0.out x5_1 p409 q409
        have hw409_1 := hx409_1
        have hw409_0 := hx409_0
        cases e409
        replace hx409_0 := (HB.out.cell (World.block_lt_of_cell? w _ hx409_0)).trans hx409_0
        replace hx409_1 := (HB.out.cell (World.block_lt_of_cell? w _ hx409_1)).trans hx409_1
        have HR409_1 := Aside0.mk hi409_1
        have HC409_1 := Aside0.mk hl409_1
        clear hi409_1 hl409_1
        replace p409 := eq_true p409
        replace q409 := eq_true q409
        have p410 : 0 ≤ (x5_1 : Int) := of_decide_eq_true z3
        have q410 : x5_1 < (l1.length : Int) := of_decide_eq_true z3
        obtain ⟨ad410, A410_1, c410_1, e410, hx410_0, hx410_1, hl410_1, hi410_1⟩ := at_T86 HR1.out x5_1 p410 q410
        have hw410_1 := hx410_1
        have hw410_0 := hx410_0
        cases e410
        replace hx410_0 := (HB.out.cell (World.block_lt_of_cell? w _ hx410_0)).trans hx410_0
        replace hx410_1 := (HB.out.cell (World.block_lt_of_cell? w _ hx410_1)).trans hx410_1
        have HR410_1 := Aside0.mk hi410_1
        have HC410_1 := Aside0.mk hl410_1
        clear hi410_1 hl410_1
        replace p410 := eq_true p410
        replace q410 := eq_true q410
        refine start_ (n := 10) (S := fun w' => w'.cell? (ad409.add ((x5_1).toNat * 2)) = some (.int .i64 ((rd_T86 l0 x5_1).f0)) ∧ w'.cell? ⟨(ad409.add ((x5_1).toNat * 2)).block, (ad409.add ((x5_1).toNat * 2)).off + 1, none⟩ = some (.slice A409_1 ((rd_T86 l0 x5_1).f1).length c409_1) ∧ w'.cell? (ad410.add ((x5_1).toNat * 2)) = some (.int .i64 ((rd_T86 l1 x5_1).f0)) ∧ w'.cell? ⟨(ad410.add ((x5_1).toNat * 2)).block, (ad410.add ((x5_1).toNat * 2)).off + 1, none⟩ = some (.slice A410_1 ((rd_T86 l1 x5_1).f1).length c410_1)) (ds := []) #[false, false, false, false, false, false, false, false, false, false] (by kernel_rfl) rfl rfl ⟨((HB.out.cell (World.block_lt_of_cell? w _ hw409_0)).trans hw409_0), ((HB.out.cell (World.block_lt_of_cell? w _ hw409_1)).trans hw409_1), ((HB.out.cell (World.block_lt_of_cell? w _ hw410_0)).trans hw410_0), ((HB.out.cell (World.block_lt_of_cell? w _ hw410_1)).trans hw410_1)⟩ (fun hHeld => ?_); refine with_tabW laws_eqObjS.tab6 laws_eqObjS.bits6 (fun HT_ HW_ => ?_)
        generalize wr.drew = w9 at HB HR409_1 HR410_1 hx409_0 hx409_1 hx410_0 hx410_1 hHeld ⊢
        refine pS 0 17 #[true, false, false, false, false, false, false, false, false, false] ?_ (hc := (any_of HT_.out (by kernel_rfl)))
        refine pS 1 18 #[true, true, false, false, false, false, false, false, false, false] ?_ (hc := (any_of HT_.out (by kernel_rfl)))
        refine pS 2 19 #[true, true, true, false, false, false, false, false, false, false] ?_ (hc := (any_of HT_.out (by kernel_rfl)))
        refine pS 4 21 #[true, true, true, false, true, false, false, false, false, false] ?_ (hc := (any_of HT_.out (by kernel_rfl)))
        refine pS 5 22 #[true, true, true, false, true, true, false, false, false, false] ?_ (hc := (any_of HT_.out (by kernel_rfl)))
        refine pS 6 23 #[true, true, true, false, true, true, true, false, false, false] ?_ (hc := (any_of HT_.out (by kernel_rfl)))
        refine tS 3 20 #[true, true, true, true, true, true, true, false, false, false] rfl rfl (take_ofW HT_.out HW_.out (by kernel_rfl)) hHeld z18 ?_
        refine tS 7 24 #[true, true, true, true, true, true, true, true, false, false] rfl rfl (take_ofW HT_.out HW_.out (by kernel_rfl)) hHeld z18 ?_
        refine one_ (i := 8) (N := some 25) #[true, true, true, true, true, true, true, true, true, false] rfl rfl (one_of HT_.out (by kernel_rfl)) (by decide) (fun K hK => ?_)
        refine goes_ Try.func54 (by kernel_rfl) rfl #[.agg #[.int .i64 ((rd_T86 l0 x5_1).f0), .slice A409_1 ((rd_T86 l0 x5_1).f1).length c409_1], .agg #[.int .i64 ((rd_T86 l1 x5_1).f0), .slice A410_1 ((rd_T86 l1 x5_1).f1).length c410_1]] (by rfl) rfl rfl z2 ?_
        with_reducible refine (laws_eqObj.calls k1 ((rd_T86 l0 x5_1).f0) _ _ ((rd_T86 l0 x5_1).f1) ((rd_T86 l1 x5_1).f0) _ _ ((rd_T86 l1 x5_1).f1) true _ ?side1 ?side2 ?side3 ?side4 A7.out).mono ?_
        (case side1 => repeat (first | exact (Kd.C_below HR409_1.out HB.out) | (with_reducible refine Kd.C_alloc ?_ _) | (with_reducible refine Kd.C_drewN ?_ _) | (with_reducible refine Kd.C_drew ?_)))
        (case side2 => exact HC409_1.out)
        (case side3 => repeat (first | exact (Kd.C_below HR410_1.out HB.out) | (with_reducible refine Kd.C_alloc ?_ _) | (with_reducible refine Kd.C_drewN ?_ _) | (with_reducible refine Kd.C_drew ?_)))
        (case side4 => exact HC410_1.out)
        rintro e w10 ⟨rfl, hb⟩
        refine ⟨_, rfl, ?_⟩
        have n0_ := Aside0.mk (below_step z1 hb)
        clear HB
        have HB := n0_
        clear n0_
        (try clear hb)
        (try clear hb2)
        (try clear hk)
        (try clear hi)
        refine hK.out _ _ ⟨((HB.out.cell (World.block_lt_of_cell? w _ hw409_0)).trans hw409_0), ((HB.out.cell (World.block_lt_of_cell? w _ hw409_1)).trans hw409_1), ((HB.out.cell (World.block_lt_of_cell? w _ hw410_0)).trans hw410_0), ((HB.out.cell (World.block_lt_of_cell? w _ hw410_1)).trans hw410_1)⟩ (fun hHeld => ?_)
        clear hK K
        refine norm_ (a' := ?_) ?_ ?_
        rotate_left
        ·show Act.put _ (some 25) _ = _
         simp only [Act.put, lA1, lA2, lA3, i64_w, i32_w]
         rfl
        refine pS 9 26 #[true, true, true, true, true, true, true, true, true, true] ?_ (hc := (any_of HT_.out (by kernel_rfl)))
        refine done_ (done_of HT_.out (by kernel_rfl)) ?_
        try go_wp2
        go_roundg k1
        case measure => have := HK1.out; omega
        case rel => exact ⟨(wrap64 (x5_1 + 1)), z5, H', ⟨by have := HK1.out; omega⟩, ⟨by repeat (first | (with_reducible first | exact HB.out | apply below_alloc | apply pw_below_drewN | apply below_drew1) | exact HB.out)⟩⟩
       ·replace c8 := Bool.eq_false_iff.mpr c8
        subst c8
        rw [if_neg (show ¬ (false = true) by decide)] at H
        obtain rfl := Option.some.inj H
        try go_wp2
        have n0_ := Aside0.mk (below_drew1 HB.out)
        clear HB
        have HB := n0_
        clear n0_
        have p409 : 0 ≤ (x5_1 : Int) := of_decide_eq_true z3
        have q409 : x5_1 < (l0.length : Int) := of_decide_eq_true z3
        obtain ⟨ad409, A409_1, c409_1, e409, hx409_0, hx409_1, hl409_1, hi409_1⟩ := at_T86 HR0.out x5_1 p409 q409
        have hw409_1 := hx409_1
        have hw409_0 := hx409_0
        cases e409
        replace hx409_0 := (HB.out.cell (World.block_lt_of_cell? w _ hx409_0)).trans hx409_0
        replace hx409_1 := (HB.out.cell (World.block_lt_of_cell? w _ hx409_1)).trans hx409_1
        have HR409_1 := Aside0.mk hi409_1
        have HC409_1 := Aside0.mk hl409_1
        clear hi409_1 hl409_1
        replace p409 := eq_true p409
        replace q409 := eq_true q409
        have p410 : 0 ≤ (x5_1 : Int) := of_decide_eq_true z3
        have q410 : x5_1 < (l1.length : Int) := of_decide_eq_true z3
        obtain ⟨ad410, A410_1, c410_1, e410, hx410_0, hx410_1, hl410_1, hi410_1⟩ := at_T86 HR1.out x5_1 p410 q410
        have hw410_1 := hx410_1
        have hw410_0 := hx410_0
        cases e410
        replace hx410_0 := (HB.out.cell (World.block_lt_of_cell? w _ hx410_0)).trans hx410_0
        replace hx410_1 := (HB.out.cell (World.block_lt_of_cell? w _ hx410_1)).trans hx410_1
        have HR410_1 := Aside0.mk hi410_1
        have HC410_1 := Aside0.mk hl410_1
        clear hi410_1 hl410_1
        replace p410 := eq_true p410
        replace q410 := eq_true q410
        refine start_ (n := 10) (S := fun w' => w'.cell? (ad409.add ((x5_1).toNat * 2)) = some (.int .i64 ((rd_T86 l0 x5_1).f0)) ∧ w'.cell? ⟨(ad409.add ((x5_1).toNat * 2)).block, (ad409.add ((x5_1).toNat * 2)).off + 1, none⟩ = some (.slice A409_1 ((rd_T86 l0 x5_1).f1).length c409_1) ∧ w'.cell? (ad410.add ((x5_1).toNat * 2)) = some (.int .i64 ((rd_T86 l1 x5_1).f0)) ∧ w'.cell? ⟨(ad410.add ((x5_1).toNat * 2)).block, (ad410.add ((x5_1).toNat * 2)).off + 1, none⟩ = some (.slice A410_1 ((rd_T86 l1 x5_1).f1).length c410_1)) (ds := []) #[false, false, false, false, false, false, false, false, false, false] (by kernel_rfl) rfl rfl ⟨((HB.out.cell (World.block_lt_of_cell? w _ hw409_0)).trans hw409_0), ((HB.out.cell (World.block_lt_of_cell? w _ hw409_1)).trans hw409_1), ((HB.out.cell (World.block_lt_of_cell? w _ hw410_0)).trans hw410_0), ((HB.out.cell (World.block_lt_of_cell? w _ hw410_1)).trans hw410_1)⟩ (fun hHeld => ?_); refine with_tabW laws_eqObjS.tab6 laws_eqObjS.bits6 (fun HT_ HW_ => ?_)
        generalize wr.drew = w11 at HB HR409_1 HR410_1 hx409_0 hx409_1 hx410_0 hx410_1 hHeld ⊢
        refine pS 0 17 #[true, false, false, false, false, false, false, false, false, false] ?_ (hc := (any_of HT_.out (by kernel_rfl)))
        refine pS 1 18 #[true, true, false, false, false, false, false, false, false, false] ?_ (hc := (any_of HT_.out (by kernel_rfl)))
        refine pS 2 19 #[true, true, true, false, false, false, false, false, false, false] ?_ (hc := (any_of HT_.out (by kernel_rfl)))
        refine pS 4 21 #[true, true, true, false, true, false, false, false, false, false] ?_ (hc := (any_of HT_.out (by kernel_rfl)))
        refine pS 5 22 #[true, true, true, false, true, true, false, false, false, false] ?_ (hc := (any_of HT_.out (by kernel_rfl)))
        refine pS 6 23 #[true, true, true, false, true, true, true, false, false, false] ?_ (hc := (any_of HT_.out (by kernel_rfl)))
        refine tS 3 20 #[true, true, true, true, true, true, true, false, false, false] rfl rfl (take_ofW HT_.out HW_.out (by kernel_rfl)) hHeld z18 ?_
        refine tS 7 24 #[true, true, true, true, true, true, true, true, false, false] rfl rfl (take_ofW HT_.out HW_.out (by kernel_rfl)) hHeld z18 ?_
        refine one_ (i := 8) (N := some 25) #[true, true, true, true, true, true, true, true, true, false] rfl rfl (one_of HT_.out (by kernel_rfl)) (by decide) (fun K hK => ?_)
        refine goes_ Try.func54 (by kernel_rfl) rfl #[.agg #[.int .i64 ((rd_T86 l0 x5_1).f0), .slice A409_1 ((rd_T86 l0 x5_1).f1).length c409_1], .agg #[.int .i64 ((rd_T86 l1 x5_1).f0), .slice A410_1 ((rd_T86 l1 x5_1).f1).length c410_1]] (by rfl) rfl rfl z2 ?_
        with_reducible refine (laws_eqObj.calls k1 ((rd_T86 l0 x5_1).f0) _ _ ((rd_T86 l0 x5_1).f1) ((rd_T86 l1 x5_1).f0) _ _ ((rd_T86 l1 x5_1).f1) false _ ?side1 ?side2 ?side3 ?side4 A7.out).mono ?_
        (case side1 => repeat (first | exact (Kd.C_below HR409_1.out HB.out) | (with_reducible refine Kd.C_alloc ?_ _) | (with_reducible refine Kd.C_drewN ?_ _) | (with_reducible refine Kd.C_drew ?_)))
        (case side2 => exact HC409_1.out)
        (case side3 => repeat (first | exact (Kd.C_below HR410_1.out HB.out) | (with_reducible refine Kd.C_alloc ?_ _) | (with_reducible refine Kd.C_drewN ?_ _) | (with_reducible refine Kd.C_drew ?_)))
        (case side4 => exact HC410_1.out)
        rintro e w12 ⟨rfl, hb⟩
        refine ⟨_, rfl, ?_⟩
        have n0_ := Aside0.mk (below_step z1 hb)
        clear HB
        have HB := n0_
        clear n0_
        (try clear hb)
        (try clear hb2)
        (try clear hk)
        (try clear hi)
        refine hK.out _ _ ⟨((HB.out.cell (World.block_lt_of_cell? w _ hw409_0)).trans hw409_0), ((HB.out.cell (World.block_lt_of_cell? w _ hw409_1)).trans hw409_1), ((HB.out.cell (World.block_lt_of_cell? w _ hw410_0)).trans hw410_0), ((HB.out.cell (World.block_lt_of_cell? w _ hw410_1)).trans hw410_1)⟩ (fun hHeld => ?_)
        clear hK K
        refine norm_ (a' := ?_) ?_ ?_
        rotate_left
        ·show Act.put _ (some 25) _ = _
         simp only [Act.put, lA1, lA2, lA3, i64_w, i32_w]
         rfl
        refine pS 9 26 #[true, true, true, true, true, true, true, true, true, true] ?_ (hc := (any_of HT_.out (by kernel_rfl)))
        refine done_ (done_of HT_.out (by kernel_rfl)) ?_
        try go_wp2
        go_ret
        exact ⟨by first | rfl | (simp [errW_none, errW_some] <;> rfl) | (simp [*, errW_none, errW_some] <;> rfl), by repeat (first | (with_reducible first | exact HB.out | apply below_alloc | apply pw_below_drewN | apply below_drew1) | exact HB.out)⟩
      ·rw [if_neg c6] at H
       exact absurd H (by simp)
     ·rw [if_neg c5] at H
      exact absurd H (by simp)
    ·rw [if_neg c4] at H
     have c4b0 : decide (x5_1 < (l0.length : Int)) = false := decide_eq_false c4
     clear c4
     obtain rfl := Option.some.inj H
     go_wp2
     go_ret
     exact ⟨by first | rfl | (simp [errW_none, errW_some] <;> rfl) | (simp [*, errW_none, errW_some] <;> rfl), by repeat (first | (with_reducible first | exact HB.out | apply below_alloc | apply pw_below_drewN | apply below_drew1) | exact HB.out)⟩
 ·rw [if_neg c3] at H
  have c3b0 : ((l0.length : Int) == (l1.length : Int)) = false := beq_eq_false_iff_ne.mpr c3
  have c3b1 : ((l0.length : Int) != (l1.length : Int)) = true := bne_iff_ne.mpr c3
  have c3b2 : (l0.length == l1.length) = false := by first | simpa using c3 | (simp at c3 ⊢; omega)
  obtain rfl := Option.some.inj H
  go_enter Try.func20, Try.ntmps20
  go_wp2
  go_ret
  exact ⟨by first | rfl | (simp [errW_none, errW_some] <;> rfl) | (simp [*, errW_none, errW_some] <;> rfl), by repeat (first | (with_reducible first | exact HB.out | apply below_alloc | apply pw_below_drewN | apply below_drew1) | exact HB.out)⟩
end Go.Proofs.Ytmniglgahodghaa.K
namespace Go.Proofs.Ytmniglgahodghaa.K
open Go.RowKit Go.Proofs.YtmniglgahodghaaW.PrintWords Go.Proofs.YtmniglgahodghaaW.PrintLast Go.Proofs.YtmniglgahodghaaW.PrintMore
attribute [local go_sem] max2_int min2_int max_two min_two max_three min_three max_four min_four
set_option linter.unusedVariables false
set_option linter.unusedSimpArgs false
def laws_markValS.l0 : Nat → List (S112) → Int → Int → Option (Int × (List (S112)))
  | 0, _, _, _ => none
  | k + 1, x0, x1, x5 => if x5 < (x0.length : Int) then (if 0 ≤ x5 then ((some (x0.set (x5 : Int).toNat (⟨((Int.tmod x1 3) == 0), (rd_T112 x0 x5).f1⟩ : S112) : List (S112))).bind fun y412 => (laws_markValS.l0 k (y412.set (x5 : Int).toNat (⟨(rd_T112 y412 x5).f0, wrap64 (x1 + 1)⟩ : S112)) (wrap64 ((wrap64 (x1 + 1)) + 1)) (wrap64 (x5 + 1)))) else (none)) else (some (x1, x0))
def laws_markValS.f (k : Nat) (l0 : List (S112)) (a1 : Int) : Option (Int × (List (S112))) := laws_markValS.l0 k l0 a1 0
theorem laws_markValS.mono_l : ∀ k, (∀ y0 y1 y2, LeO (laws_markValS.l0 k y0 y1 y2) (laws_markValS.l0 (k + 1) y0 y1 y2))
 | 0 => fun _ _ _ r h => by simp [laws_markValS.l0] at h
 | k + 1 => by
  have ih0 := laws_markValS.mono_l k
  ·intro y0 y1 y2
   unfold laws_markValS.l0
   repeat' first
   | (with_reducible exact ih0 _ _ _)
   | (with_reducible exact LeO.refl _)
   | (with_reducible exact LeO.none _)
   | (with_reducible refine LeO.ite ?_ ?_)
   | (with_reducible refine LeO.bind ?_ (fun _ => ?_))
   | exact ih0 _ _ _
   | exact LeO.none _
   | refine LeO.ite ?_ ?_
   | refine LeO.bind ?_ (fun _ => ?_)
theorem laws_markValS.mono : ∀ a0 a1 k, LeO (laws_markValS.f k a0 a1) (laws_markValS.f (k + 1) a0 a1) := by
  intro a0 a1 k
  have ih0 := laws_markValS.mono_l k
  unfold laws_markValS.f
  repeat' first
      | (with_reducible exact ih0 _ _ _)
      | (with_reducible exact LeO.refl _)
      | (with_reducible exact LeO.none _)
      | (with_reducible refine LeO.ite ?_ ?_)
      | (with_reducible refine LeO.bind ?_ (fun _ => ?_))
      | exact ih0 _ _ _
      | exact LeO.none _
      | refine LeO.ite ?_ ?_
      | refine LeO.bind ?_ (fun _ => ?_)
set_option maxHeartbeats 8000000 in
set_option maxRecDepth 100000 in
theorem laws_markValS.calls (k : Nat) (P0_ : Nat → Prop) (u9000_ : Value) (l0 : List (S112)) (a1 : Int) (r1 : Int) (r2 : List (S112)) (w0 w : World) (hB : Below w0.heap.size w0 w) (ho0 : Kd.R k112 112 w w0.heap.size P0_ u9000_ l0) (h : laws_markValS.f k l0 a1 = some (r1, r2)) :
  Calls Try.prog 55 #[u9000_, .int .i64 a1] w fun e w' => e = .returned (.int .i64 r1) ∧ Kd.R k112 112 w' w0.heap.size (fun k_ => (P0_ k_ ∨ w.heap.size ≤ k_)) u9000_ r2 ∧ Below w0.heap.size w0 w' ∧ Kept w w' (fun k_ => P0_ k_) := by
 have HO0 := Aside0.mk (show Kd.R k112 112 w w0.heap.size (fun k_ => (P0_ k_ ∨ w.heap.size ≤ k_)) u9000_ l0 from Kd.R_mono ho0 (fun k_ hk => (.inl hk)))
 have HK := Aside0.mk (Kept.refl w (fun k_ => P0_ k_))
 have HW0 := Aside0.mk hB.size
 have HB := Aside0.mk hB
 clear hB
 have H : (laws_markValS.l0 k l0 a1 0) = some (r1, r2) := h
 clear h
 have H' := Aside0.mk H
 clear H
 go_enter Try.func55, Try.ntmps55
 go_wp2
 go_loopg [1, 5] k (fun kq v1 v5 w' => ∃ (x0_1 : List (S112)) (x1_1 : Int) (x5_1 : Int), v1 = .int .i64 x1_1 ∧ v5 = .int .i64 x5_1 ∧ Aside0 (laws_markValS.l0 kq x0_1 x1_1 x5_1 = some (r1, r2)) ∧ Aside0 (kq ≤ k) ∧ Aside0 (Kd.R k112 112 w' w0.heap.size (fun k_ => (P0_ k_ ∨ w.heap.size ≤ k_)) u9000_ x0_1) ∧ Aside0 (Kept w w' (fun k_ => P0_ k_)) ∧ Aside0 (Below w0.heap.size w0 w'))
 case atStart => exact ⟨(l0), (a1), (0), z5, z5, H', ⟨Nat.le_refl _⟩, ⟨by (with_reducible repeat (first | apply Kd.R_alloc | apply Kd.R_drewN | apply Kd.R_drew)); exact HO0.out⟩, ⟨by repeat (first | (with_reducible first | exact HK.out | apply Kept.alloc | apply Kept.drewN | apply Kept.drew) | exact HK.out)⟩, ⟨by repeat (first | (with_reducible first | exact HB.out | apply below_alloc | apply pw_below_drewN | apply below_drew1) | exact HB.out)⟩⟩
 case round =>
  clear H'
  try clear p2
  obtain ⟨x0_1, x1_1, x5_1, rfl, rfl, HA, HK1, HO_0, HK, HB⟩ := hrel
  cases gk with
  | zero => exact absurd HA.out (by simp [laws_markValS.l0])
  | succ k1 =>
   have H := HA.out
   clear HA
   simp only [laws_markValS.l0] at H
   by_cases c3 : x5_1 < (x0_1.length : Int)
   ·rw [if_pos c3] at H
    have c3b0 : decide (x5_1 < (x0_1.length : Int)) = true := decide_eq_true c3
    clear c3
    by_cases c4 : 0 ≤ x5_1
    ·rw [if_pos c4] at H
     have c4b0 : decide (0 ≤ x5_1) = true := decide_eq_true c4
     clear c4
     obtain ⟨y412, hy412⟩ : ∃ y_ : List (S112), y_ = (x0_1.set (x5_1 : Int).toNat (⟨((Int.tmod x1_1 3) == 0), (rd_T112 x0_1 x5_1).f1⟩ : S112)) := ⟨_, rfl⟩
     replace H : (laws_markValS.l0 k1 (y412.set (x5_1 : Int).toNat (⟨(rd_T112 y412 x5_1).f0, wrap64 (x1_1 + 1)⟩ : S112)) (wrap64 ((wrap64 (x1_1 + 1)) + 1)) (wrap64 (x5_1 + 1))) = some (r1, r2) := by first | (rw [hy412]; with_reducible exact H) | (have H2_ := (Option.bind_some _ _).symm.trans H; rw [hy412]; with_reducible exact H2_) | (have H2_ := (Option.bind_some _ _).symm.trans H; with_reducible exact H2_) | with_reducible exact H | (rw [hy412]; exact H) | exact H
     have Ny412 := Aside0.mk hy412
     clear hy412
     obtain ⟨y413, hy413⟩ : ∃ y_ : List (S112), y_ = (y412.set (x5_1 : Int).toNat (⟨(rd_T112 y412 x5_1).f0, wrap64 (x1_1 + 1)⟩ : S112)) := ⟨_, rfl⟩
     replace H : (laws_markValS.l0 k1 y413 (wrap64 ((wrap64 (x1_1 + 1)) + 1)) (wrap64 (x5_1 + 1))) = some (r1, r2) := by first | (rw [hy413]; with_reducible exact H) | (have H2_ := (Option.bind_some _ _).symm.trans H; rw [hy413]; with_reducible exact H2_) | (have H2_ := (Option.bind_some _ _).symm.trans H; with_reducible exact H2_) | with_reducible exact H | (rw [hy413]; exact H) | exact H
     have Ny413 := Aside0.mk hy413
     clear hy413
     have H' := Aside0.mk H
     clear H
     obtain ⟨Ao7, co7, eo7⟩ := Kd.R_slice HO_0.out
     subst eo7
     have p5 : 0 ≤ (x5_1 : Int) := of_decide_eq_true z3
     have q5 : (x5_1 : Int) < ((x0_1.length : Int) : Int) := of_decide_eq_true z3
     obtain ⟨go5, co5, eo5, gb5, gl5, cl5, HG5⟩ := Kd.R_form HO_0.out (by omega)
     (first | cases eo5 | (injection eo5 with ea_ en_ ec_; (first | subst ea_ | (injection ea_ with ea_; subst ea_)); subst ec_; clear en_))
     have GB5 := Aside0.mk gb5
     have GG5 := Aside0.mk HG5
     clear gb5 gl5 HG5
     have HMgo5 := Aside0.mk (show (P0_ go5 ∨ w.heap.size ≤ go5) from (HO_0.out.1 _ rfl))
     obtain ⟨ce5, hcl5, hM5, hcc5, hfr5⟩ := Kd.R_elem HO_0.out z112 (x5_1 : Int) p5 q5
     obtain rfl := k112_openM hM5
     have hx5_0 : wr.cell? ⟨go5, (x5_1 : Int).toNat * 2, none⟩ = some (.bool ((rd_T112 x0_1 x5_1).f0)) := hcc5 0 _ rfl
     have hx5_1 : wr.cell? ⟨go5, (x5_1 : Int).toNat * 2 + 1, none⟩ = some (.int .i64 ((rd_T112 x0_1 x5_1).f1)) := hcc5 1 _ rfl
     have hf5_0 : wr.frozen? ⟨go5, (x5_1 : Int).toNat * 2, none⟩ = false := hfr5 0
     have hf5_1 : wr.frozen? ⟨go5, (x5_1 : Int).toNat * 2 + 1, none⟩ = false := hfr5 1
     clear hcl5 hcc5 hfr5 hM5
     replace p5 := eq_true p5
     replace q5 := eq_true q5
     have HX8 := Aside0.mk (show Kd.R k112 112 wr w0.heap.size (fun k_ => (P0_ k_ ∨ w.heap.size ≤ k_)) (.slice (some ⟨go5, 0, none⟩) x0_1.length co7) x0_1 from (by (with_reducible repeat (first | apply Kd.R_alloc | apply Kd.R_drewN | apply Kd.R_drew)); exact HO_0.out))
     obtain ⟨ce8, hcl8, hM8, hcc8, hfr8⟩ := Kd.R_elem HX8.out z112 (x5_1 : Int) (of_decide_eq_true z3) z45
     obtain rfl := k112_openM hM8
     have HP8 := Kd.R_seg HX8.out (x5_1 : Int) (of_decide_eq_true z3) z45 (seg := [.bool ((Int.tmod x1_1 3) == 0)]) (j := 0) hcl8 hcc8 (show 1 ≤ 2 from by decide) (x' := (⟨((Int.tmod x1_1 3) == 0), (rd_T112 x0_1 x5_1).f1⟩ : S112)) (k112_mkM _ _ _ (⟨((Int.tmod x1_1 3) == 0), (rd_T112 x0_1 x5_1).f1⟩ : S112) ) (fun _ hk => hk)
     have hx8_0 := hcc8 0 _ rfl
     (try simp only [show (k112).sz = 2 from rfl, Nat.mul_one, Nat.add_zero] at hx8_0)
     have hf8_0 := hfr8 0
     (try simp only [show (k112).sz = 2 from rfl, Nat.mul_one, Nat.add_zero] at hf8_0)
     clear hcl8 hcc8 hfr8 hM8
     go_wp2_with (first | ((with_reducible refine gate_store (t := 4) (p := 18) rfl ?_); refine store_event (t := 4) (p := 18) (v := ?vo_w9) (w1 := (wr.setCell ⟨go5, (x5_1 : Int).toNat * 2, none⟩ (.bool ((Int.tmod x1_1 3) == 0)))) ?hg ?ho ?hn ?hr ?_; (case ho => rfl); (case hg => rfl); (case hn => rfl); (case hr => first | (go_simp; done) | (go_simp; rfl) | ((try (first | (obtain ⟨_, _, rfl⟩ := Kd.R_slice HO_0.out) | (obtain ⟨_, _, rfl⟩ := Kd.S_slice HO_0.out))); first | (go_simp; done) | (go_simp; rfl))); intro w9 hw; have hg : wr.grownBy w9 (some go5) := (by rw [hw]; exact HP8.2); have hp_ : Kd.R k112 112 w9 w0.heap.size (fun k_ => (P0_ k_ ∨ w.heap.size ≤ k_)) (.slice (some ⟨go5, 0, none⟩) x0_1.length co7) y412 := (by rw [hw, Ny412.out]; exact HP8.1); clear HP8; replace HB := Aside0.mk ((by rw [hw]; exact below_set (HB.out) GB5.out : Below w0.heap.size w0 w9)); replace HK := Aside0.mk (Kept.of_grown (S := (fun k_ => P0_ k_)) hg z44 (fun k_ e_ => (HO_0.out.1 k_ e_))); replace HO_0 := Aside0.mk (hp_); clear hg hw hp_; have p6 : 0 ≤ (x5_1 : Int) := of_decide_eq_true z3; have q6 : (x5_1 : Int) < ((x0_1.length : Int) : Int) := of_decide_eq_true z3; obtain ⟨ce6, hcl6, hM6, hcc6, hfr6⟩ := Kd.R_elem HO_0.out z112 (x5_1 : Int) p6 q6; obtain rfl := k112_openM hM6; have hx6_0 : w9.cell? ⟨go5, (x5_1 : Int).toNat * 2, none⟩ = some (.bool ((rd_T112 y412 x5_1).f0)) := hcc6 0 _ rfl; have hx6_1 : w9.cell? ⟨go5, (x5_1 : Int).toNat * 2 + 1, none⟩ = some (.int .i64 ((rd_T112 y412 x5_1).f1)) := hcc6 1 _ rfl; have hf6_0 : w9.frozen? ⟨go5, (x5_1 : Int).toNat * 2, none⟩ = false := hfr6 0; have hf6_1 : w9.frozen? ⟨go5, (x5_1 : Int).toNat * 2 + 1, none⟩ = false := hfr6 1; clear hcl6 hcc6 hfr6 hM6; replace p6 := eq_true p6; replace q6 := eq_true q6; have HX10 := Aside0.mk (show Kd.R k112 112 w9 w0.heap.size (fun k_ => (P0_ k_ ∨ w.heap.size ≤ k_)) (.slice (some ⟨go5, 0, none⟩) x0_1.length co7) y412 from (by (with_reducible repeat (first | apply Kd.R_alloc | apply Kd.R_drewN | apply Kd.R_drew)); exact HO_0.out)); obtain ⟨ce10, hcl10, hM10, hcc10, hfr10⟩ := Kd.R_elem HX10.out z112 (x5_1 : Int) (of_decide_eq_true z3) z45; obtain rfl := k112_openM hM10; have HP10 := Kd.R_seg HX10.out (x5_1 : Int) (of_decide_eq_true z3) z45 (seg := [.int .i64 (wrap64 (x1_1 + 1))]) (j := 1) hcl10 hcc10 (show 2 ≤ 2 from by decide) (x' := (⟨(rd_T112 y412 x5_1).f0, wrap64 (x1_1 + 1)⟩ : S112)) (k112_mkM _ _ _ (⟨(rd_T112 y412 x5_1).f0, wrap64 (x1_1 + 1)⟩ : S112) ) (fun _ hk => hk); have hx10_1 := hcc10 1 _ rfl; (try simp only [show (k112).sz = 2 from rfl, Nat.mul_one, Nat.add_zero] at hx10_1); have hf10_1 := hfr10 1; (try simp only [show (k112).sz = 2 from rfl, Nat.mul_one, Nat.add_zero] at hf10_1); clear hcl10 hcc10 hfr10 hM10) | ((with_reducible refine gate_store (t := 3) (p := 25) rfl ?_); refine store_event (t := 3) (p := 25) (v := ?vo_w11) (w1 := (w9.setCell ⟨go5, (x5_1 : Int).toNat * 2 + 1, none⟩ (.int .i64 (wrap64 (x1_1 + 1))))) ?hg ?ho ?hn ?hr ?_; (case ho => rfl); (case hg => rfl); (case hn => rfl); (case hr => first | (go_simp; done) | (go_simp; rfl) | ((try (first | (obtain ⟨_, _, rfl⟩ := Kd.R_slice HO_0.out) | (obtain ⟨_, _, rfl⟩ := Kd.S_slice HO_0.out))); first | (go_simp; done) | (go_simp; rfl))); intro w11 hw; have hg : w9.grownBy w11 (some go5) := (by rw [hw]; exact HP10.2); have hp_ : Kd.R k112 112 w11 w0.heap.size (fun k_ => (P0_ k_ ∨ w.heap.size ≤ k_)) (.slice (some ⟨go5, 0, none⟩) x0_1.length co7) y413 := (by rw [hw, Ny413.out]; exact HP10.1); clear HP10; replace HB := Aside0.mk ((by rw [hw]; exact below_set (HB.out) GB5.out : Below w0.heap.size w0 w11)); replace HK := Aside0.mk (Kept.of_grown (S := (fun k_ => P0_ k_)) hg z44 (fun k_ e_ => (HO_0.out.1 k_ e_))); replace HO_0 := Aside0.mk (hp_); clear hg hw hp_))
     go_roundg k1
     case measure => have := HK1.out; omega
     case rel => exact ⟨(y413), (wrap64 ((wrap64 (x1_1 + 1)) + 1)), (wrap64 (x5_1 + 1)), z5, z5, H', ⟨by have := HK1.out; omega⟩, ⟨by (with_reducible repeat (first | apply Kd.R_alloc | apply Kd.R_drewN | apply Kd.R_drew)); exact HO_0.out⟩, ⟨by repeat (first | (with_reducible first | exact HK.out | apply Kept.alloc | apply Kept.drewN | apply Kept.drew) | exact HK.out)⟩, ⟨by repeat (first | (with_reducible first | exact HB.out | apply below_alloc | apply pw_below_drewN | apply below_drew1) | exact HB.out)⟩⟩
    ·rw [if_neg c4] at H
     exact absurd H (by simp)
   ·rw [if_neg c3] at H
    have c3b0 : decide (x5_1 < (x0_1.length : Int)) = false := decide_eq_false c3
    clear c3
    simp only [Option.some.injEq, Prod.mk.injEq] at H
    obtain ⟨rfl, rfl⟩ := H
    obtain ⟨Ao12, co12, eo12⟩ := Kd.R_slice HO_0.out
    subst eo12
    go_wp2
    go_ret
    exact ⟨by first | rfl | (simp [errW_none, errW_some] <;> rfl) | (simp [*, errW_none, errW_some] <;> rfl), by (with_reducible repeat (first | apply Kd.R_alloc | apply Kd.R_drewN | apply Kd.R_drew)); exact HO_0.out, by repeat (first | (with_reducible first | exact HB.out | apply below_alloc | apply pw_below_drewN | apply below_drew1) | exact HB.out), by repeat (first | (with_reducible first | exact HK.out | apply Kept.alloc | apply Kept.drewN | apply Kept.drew) | exact HK.out)⟩
end Go.Proofs.Ytmniglgahodghaa.K
namespace Go.Proofs.Ytmniglgahodghaa.K
open Go.RowKit Go.Proofs.YtmniglgahodghaaW.PrintWords Go.Proofs.YtmniglgahodghaaW.PrintLast Go.Proofs.YtmniglgahodghaaW.PrintMore
attribute [local go_sem] max2_int min2_int max_two min_two max_three min_three max_four min_four
set_option linter.unusedVariables false
set_option linter.unusedSimpArgs false
def mobjs (K : Nat) : List S86 → Int → Option (Int × List S86)
  | [], a => some (a, [])
  | x :: r, a => (laws_markValS.f K x.f1 (wrap64 (a + 1))).bind fun p => (mobjs K r p.1).bind fun q => some (q.1, ⟨a, p.2⟩ :: q.2)
theorem take_set2 {α : Type} {l : List α} {j : Nat} {x y : α} {v : List α} (h : j < l.length) : l.take j ++ y :: v = ((l.set j x).set j y).take (j + 1) ++ v := by
  rw [List.set_set, List.take_succ_eq_append_getElem (by rw [List.length_set]; exact h), List.getElem_set_self, List.take_set_of_le (Nat.le_refl _), List.append_assoc]
  rfl
set_option maxHeartbeats 8000000 in
set_option maxRecDepth 100000 in
theorem laws_markObjS.calls (K : Nat) (P : Nat → Prop) (A : Option Addr) (n cap : Nat) (l : List S86) (a r : Int) (u : List S86) (w0 w : World) (hB : Below w0.heap.size w0 w) (hs : Kd.S k86 86 w w0.heap.size P (.slice A n cap) l) (hl : l.length ≤ 1048576) (h : mobjs K l a = some (r, u)) :
  Calls Try.prog 21 #[.slice A n cap, .int .i64 a] w fun e w' => e = .returned (.int .i64 r) ∧ Kd.S k86 86 w' w0.heap.size P (.slice A n cap) u ∧ Below w0.heap.size w0 w' ∧ Kept w w' P := by
 have HN := (Kd.R_reads' (Kd.S_R hs)).1
 subst HN
 have HS := Aside0.mk hs
 have HB := Aside0.mk hB
 have HL := Aside0.mk hl
 have HA := Aside0.mk h
 clear hs hB hl h
 go_enter Try.func21, Try.ntmps21
 go_wp2
 go_loopw [1, 5] (fun v1 v5 wr => ∃ (j : Nat) (b : Int) (l2 : List S86), v1 = .int .i64 b ∧ v5 = .int .i64 j ∧ l2.length = l.length ∧ j ≤ l.length ∧ Aside0 (∃ v, mobjs K (l2.drop j) b = some (r, v) ∧ u = l2.take j ++ v) ∧ Aside0 (Kd.S k86 86 wr w0.heap.size P (.slice A l.length cap) l2) ∧ Aside0 (Below w0.heap.size w0 wr) ∧ Aside0 (Kept w wr P)) (fun _ v5 _ => l.length - (intOf v5).toNat)
 case atStart => exact ⟨0, a, l, rfl, rfl, rfl, Nat.zero_le _, ⟨u, by rw [List.drop_zero]; exact HA.out, by rw [List.take_zero, List.nil_append]⟩, HS, HB, ⟨Kept.refl _ _⟩⟩
 case round =>
  clear HA HS HB
  obtain ⟨j, b, l2, rfl, rfl, hl2, hj, HA, HS, HB, HK⟩ := hrel
  by_cases c : j < l.length
  ·have d0 : decide ((j : Int) < l.length) = true := decide_eq_true (by omega)
   have hlt : j < l2.length := by omega
   obtain ⟨g, cp, hv, hbg, hgl, _⟩ := Kd.R_form (Kd.S_R HS.out) (by omega)
   injection hv with e1 e2 e3
   subst e1 e3
   have hPg : P g := (Kd.S_R HS.out).1 g (by simp [Value.ownBlock])
   obtain ⟨oki, cc, hcl, hM, hcc, hoki, hH⟩ := Kd.S_lend HS.out z86 (j : Int) (by omega) (by omega)
   obtain ⟨x, hx⟩ : ∃ x, x = l2.getD ((j : Int)).toNat z86 := ⟨_, rfl⟩
   rw [← hx] at hM
   obtain ⟨v1, hc1, hr1⟩ := k86_openM hM
   subst hc1
   obtain ⟨hc0, hfr⟩ := Kd.H_at hH (by omega) (by omega)
   have q0 : wr.cell? ⟨g, j * 2, none⟩ = some (.int .i64 x.f0) := hc0 0 _ rfl
   have f0 : wr.frozen? ⟨g, j * 2, none⟩ = false := hfr 0
   have hst : Kd.S k86 86 (wr.setCell ⟨g, j * 2, none⟩ (.int .i64 b)) w0.heap.size P (.slice (some ⟨g, 0, none⟩) l.length cap) (l2.set j ⟨b, x.f1⟩) := (Kd.S_seg0 (seg := [.int .i64 b]) (j := 0) (x' := ⟨b, x.f1⟩) hH (by omega) (by omega) (show 0 + 1 ≤ 2 by omega) (k86_mkM wr w0.heap.size oki ⟨b, x.f1⟩ hr1) (fun _ h => h)).1
   obtain ⟨oki2, cc2, hcl2, hM2, hcc2, hoki2, hH2⟩ := Kd.S_lend hst z86 (j : Int) (by omega) (by omega)
   have hx2 : (l2.set j ⟨b, x.f1⟩).getD ((j : Int)).toNat z86 = ⟨b, x.f1⟩ := by
    rw [Int.toNat_natCast, List.getD_eq_getElem?_getD, List.getElem?_set_self hlt]; rfl
   rw [hx2] at hM2
   obtain ⟨v2, hc2, hr2⟩ := k86_openM hM2
   subst hc2
   obtain ⟨A2, c2, rfl⟩ := Kd.R_slice hr2
   have q3 : (wr.setCell ⟨g, j * 2, none⟩ (.int .i64 b)).cell? ⟨g, j * 2 + 1, none⟩ = some (.slice A2 x.f1.length c2) := hcc2 1 _ rfl
   have ha := HA.out
   have hxe : l2[j] = x := by rw [hx, Int.toNat_natCast, List.getD_eq_getElem?_getD, List.getElem?_eq_getElem hlt]; rfl
   obtain ⟨v_, ha, hu⟩ := ha
   rw [List.drop_eq_getElem_cons hlt, hxe, mobjs] at ha
   obtain ⟨⟨n1, n2⟩, hm, ha⟩ := Option.bind_eq_some_iff.mp ha
   obtain ⟨⟨n3, n4⟩, hrest, ha⟩ := Option.bind_eq_some_iff.mp ha
   injection ha with ha
   injection ha with ha1 ha2
   dsimp only at ha1 ha2
   subst ha1 ha2
   have HU := Aside0.mk hu
   have HM := Aside0.mk hm
   have HRest := Aside0.mk hrest
   have HH := Aside0.mk hH2
   have HO2 := Aside0.mk hoki2
   have HR2 := Aside0.mk hr2
   have HPg := Aside0.mk hPg
   have HJ := Aside0.mk (show j < l2.length ∧ l2.length = l.length ∧ j < l.length from ⟨hlt, hl2, c⟩)
   have HB2 := Aside0.mk (HB.out.setCell (p := ⟨g, j * 2, none⟩) hbg (.int .i64 b))
   have HK2 := Aside0.mk (HK.out.setCell (p := ⟨g, j * 2, none⟩) (.inl hPg) (.int .i64 b))
   have p1 := eq_true (show (0 : Int) ≤ (j : Int) by omega)
   have p2 := eq_true (show (j : Int) < (l.length : Int) by omega)
   clear hH hM hoki hr1 hx hcc hc0 hfr hcl e2 hbg hgl hlt hl2 c hj hst hcl2 hM2 hcc2 hoki2 hH2 hx2 hr2 hxe hm hrest hu hPg HA HB HK HS
   go_wp2_with fail
   go_at_call 55
   refine (laws_markValS.calls K oki2 (.slice A2 x.f1.length c2) x.f1 (wrap64 (b + 1)) n1 n2 w0 _ HB2.out HR2.out HM.out).mono ?_
   rintro e w3 ⟨rfl, hr3, hb3, hk3⟩
   have HB3 := Aside0.mk hb3
   have HK3 := Aside0.mk (HK2.out.then_ hk3 (fun k hk => .inl (HO2.out k hk).1))
   have HS3 := Aside0.mk (Kd.H_back (Kd.H_kept HH.out hk3 (fun _ _ hn => hn)) (x' := ⟨b, n2⟩) (k86_mkM w3 w0.heap.size oki2 ⟨b, n2⟩ (Kd.R_mono (Kd.R_tight rfl hr3) (fun k_ hk_ => HR2.out.1 k_ hk_.symm))) (fun _ h => h))
   clear hr3 hb3 hk3 q0 q3 f0
   go_wp2
   go_roundw
   case rel => exact ⟨j + 1, n1, _, rfl, by rw [show wrap64 ((j : Int) + 1) = ((j + 1 : Nat) : Int) by have := HL.out; have := HJ.out; unfold wrap64; omega], by rw [List.length_set, List.length_set]; exact HJ.out.2.1, by have := HJ.out; omega, ⟨n4, by rw [Int.toNat_natCast, List.drop_set_of_lt (by omega), List.drop_set_of_lt (by omega)]; exact HRest.out, by rw [HU.out, Int.toNat_natCast, take_set2 (by have := HJ.out; omega)]⟩, HS3, HB3, HK3⟩
   case measure => rw [show wrap64 ((j : Int) + 1) = ((j + 1 : Nat) : Int) by have := HL.out; have := HJ.out; unfold wrap64; omega]; have := HJ.out; simp only [intOf, Int.toNat_natCast]; omega
  ·have d0 : decide ((j : Int) < l.length) = false := decide_eq_false (by omega)
   obtain ⟨v_, ha, hu⟩ := HA.out
   rw [List.drop_eq_nil_of_le (by omega), mobjs] at ha
   injection ha with ha
   injection ha with ha1 ha2
   have HR := Aside0.mk ha1
   have HU := Aside0.mk (show u = l2 by rw [hu, ← ha2, List.append_nil, List.take_of_length_le (by omega)])
   clear ha1 ha2 hu
   go_wp2
   go_ret
   exact ⟨by rw [← HR.out]; rfl, by rw [HU.out]; exact HS.out, HB.out, HK.out⟩
end Go.Proofs.Ytmniglgahodghaa.K
namespace Go.Proofs.Ytmniglgahodghaa.K
open Go.RowKit Go.Proofs.YtmniglgahodghaaW.PrintWords Go.Proofs.YtmniglgahodghaaW.PrintLast Go.Proofs.YtmniglgahodghaaW.PrintMore
attribute [local go_sem] max2_int min2_int max_two min_two max_three min_three max_four min_four
set_option linter.unusedVariables false
set_option linter.unusedSimpArgs false
def laws_heldValS.l0 : Nat → List (S112) → Int → Int → Option (Int)
  | 0, _, _, _ => none
  | k + 1, x0, x1, x5 => if x5 < (x0.length : Int) then (if 0 ≤ x5 then (if (((rd_T112 x0 x5).f0) != ((Int.tmod x1 3) == 0)) = true then (some (-1)) else (if ((rd_T112 x0 x5).f1) = (wrap64 (x1 + 1)) then (laws_heldValS.l0 k x0 (wrap64 ((wrap64 (x1 + 1)) + 1)) (wrap64 (x5 + 1))) else (some (-1)))) else (none)) else (some x1)
def laws_heldValS.f (k : Nat) (l0 : List (S112)) (a1 : Int) : Option (Int) := laws_heldValS.l0 k l0 a1 0
set_option maxHeartbeats 8000000 in
set_option maxRecDepth 100000 in
theorem laws_heldValS.calls (k : Nat) (A0 : Option Addr) (c0 : Nat) (l0 : List (S112)) (a1 : Int) (r : Int) (w : World) (hr0 : Kd.C k112 w A0 l0.length l0) (hc0 : l0.length ≤ c0) (h : laws_heldValS.f k l0 a1 = some r) :
  Calls Try.prog 56 #[.slice A0 l0.length c0, .int .i64 a1] w fun e w' => e = .returned (.int .i64 r) ∧ Drawn0 w w' := by
 have HR0 := Aside0.mk hr0
 have HC0 := Aside0.mk hc0
 clear hr0 hc0
 have H : (laws_heldValS.l0 k l0 a1 0) = some r := h
 clear h
 have H' := Aside0.mk H
 clear H
 go_enter Try.func56, Try.ntmps56
 go_wp2
 go_loopg [1, 5] k (fun kq v1 v5 w' => ∃ (x1_1 : Int) (x5_1 : Int), v1 = .int .i64 x1_1 ∧ v5 = .int .i64 x5_1 ∧ Aside0 (laws_heldValS.l0 kq l0 x1_1 x5_1 = some r) ∧ Aside0 (kq ≤ k) ∧ Drawn0 w w')
 case atStart => exact ⟨(a1), (0), z5, z5, H', ⟨Nat.le_refl _⟩, by repeat (first | exact Drawn0.refl _ | apply Drawn0.step)⟩
 case round =>
  clear H'
  try clear p2
  obtain ⟨x1_1, x5_1, rfl, rfl, HA, HK1, ⟨m1, rfl⟩⟩ := hrel
  cases gk with
  | zero => exact absurd HA.out (by simp [laws_heldValS.l0])
  | succ k1 =>
   have H := HA.out
   clear HA
   simp only [laws_heldValS.l0] at H
   by_cases c3 : x5_1 < (l0.length : Int)
   ·rw [if_pos c3] at H
    have c3b0 : decide (x5_1 < (l0.length : Int)) = true := decide_eq_true c3
    clear c3
    by_cases c4 : 0 ≤ x5_1
    ·rw [if_pos c4] at H
     have c4b0 : decide (0 ≤ x5_1) = true := decide_eq_true c4
     clear c4
     by_cases c5 : (((rd_T112 l0 x5_1).f0) != ((Int.tmod x1_1 3) == 0)) = true
     ·rw [if_pos c5] at H
      have c5b0 : (((rd_T112 l0 x5_1).f0) != ((Int.tmod x1_1 3) == 0)) = true := c5
      (try (have c5b1 : decide (((rd_T112 l0 x5_1).f0) = ((Int.tmod x1_1 3) == 0)) = false := by simpa using c5))
      (try (have c5b2 : (((rd_T112 l0 x5_1).f0) == ((Int.tmod x1_1 3) == 0)) = false := by simpa using c5))
      (try (have c5b3 : ¬ (((rd_T112 l0 x5_1).f0) = ((Int.tmod x1_1 3) == 0)) := by simpa using c5))
      clear c5
      obtain rfl := Option.some.inj H
      have p414 : 0 ≤ (x5_1 : Int) := of_decide_eq_true z3
      have q414 : x5_1 < (l0.length : Int) := of_decide_eq_true z3
      obtain ⟨ad414, e414, hx414_0, hx414_1⟩ := at_T112 HR0.out x5_1 p414 q414
      cases e414
      replace p414 := eq_true p414
      replace q414 := eq_true q414
      go_wp2
      go_ret
      exact ⟨by first | rfl | (simp; done) | (simp [*]; done), by repeat (first | exact Drawn0.refl _ | apply Drawn0.step)⟩
     ·rw [if_neg c5] at H
      have c5b0 : (((rd_T112 l0 x5_1).f0) != ((Int.tmod x1_1 3) == 0)) = false := by simpa using c5
      (try (have c5b1 : decide (((rd_T112 l0 x5_1).f0) = ((Int.tmod x1_1 3) == 0)) = true := by simpa using c5))
      (try (have c5b2 : (((rd_T112 l0 x5_1).f0) == ((Int.tmod x1_1 3) == 0)) = true := by simpa using c5))
      clear c5
      by_cases c6 : ((rd_T112 l0 x5_1).f1) = (wrap64 (x1_1 + 1))
      ·rw [if_pos c6] at H
       have c6b0 : (((rd_T112 l0 x5_1).f1) == (wrap64 (x1_1 + 1))) = true := beq_iff_eq.mpr c6
       have c6b1 : (((rd_T112 l0 x5_1).f1) != (wrap64 (x1_1 + 1))) = false := bne_eq_false_iff_eq.mpr c6
       clear c6
       have H' := Aside0.mk H
       clear H
       have p414 : 0 ≤ (x5_1 : Int) := of_decide_eq_true z3
       have q414 : x5_1 < (l0.length : Int) := of_decide_eq_true z3
       obtain ⟨ad414, e414, hx414_0, hx414_1⟩ := at_T112 HR0.out x5_1 p414 q414
       cases e414
       replace p414 := eq_true p414
       replace q414 := eq_true q414
       have p415 : 0 ≤ (x5_1 : Int) := of_decide_eq_true z3
       have q415 : x5_1 < (l0.length : Int) := of_decide_eq_true z3
       obtain ⟨ad415, e415, hx415_0, hx415_1⟩ := at_T112 HR0.out x5_1 p415 q415
       obtain rfl : ad414 = ad415 := (by injection e415)
       replace p415 := eq_true p415
       replace q415 := eq_true q415
       go_wp2
       go_roundg k1
       case measure => have := HK1.out; omega
       case rel => exact ⟨(wrap64 ((wrap64 (x1_1 + 1)) + 1)), (wrap64 (x5_1 + 1)), z5, z5, H', ⟨by have := HK1.out; omega⟩, by repeat (first | exact Drawn0.refl _ | apply Drawn0.step)⟩
      ·rw [if_neg c6] at H
       have c6b0 : (((rd_T112 l0 x5_1).f1) == (wrap64 (x1_1 + 1))) = false := beq_eq_false_iff_ne.mpr c6
       have c6b1 : (((rd_T112 l0 x5_1).f1) != (wrap64 (x1_1 + 1))) = true := bne_iff_ne.mpr c6
       obtain rfl := Option.some.inj H
       have p414 : 0 ≤ (x5_1 : Int) := of_decide_eq_true z3
       have q414 : x5_1 < (l0.length : Int) := of_decide_eq_true z3
       obtain ⟨ad414, e414, hx414_0, hx414_1⟩ := at_T112 HR0.out x5_1 p414 q414
       cases e414
       replace p414 := eq_true p414
       replace q414 := eq_true q414
       have p415 : 0 ≤ (x5_1 : Int) := of_decide_eq_true z3
       have q415 : x5_1 < (l0.length : Int) := of_decide_eq_true z3
       obtain ⟨ad415, e415, hx415_0, hx415_1⟩ := at_T112 HR0.out x5_1 p415 q415
       obtain rfl : ad414 = ad415 := (by injection e415)
       replace p415 := eq_true p415
       replace q415 := eq_true q415
       go_wp2
       go_ret
       exact ⟨by first | rfl | (simp; done) | (simp [*]; done), by repeat (first | exact Drawn0.refl _ | apply Drawn0.step)⟩
    ·rw [if_neg c4] at H
     exact absurd H (by simp)
   ·rw [if_neg c3] at H
    have c3b0 : decide (x5_1 < (l0.length : Int)) = false := decide_eq_false c3
    clear c3
    obtain rfl := Option.some.inj H
    go_wp2
    go_ret
    exact ⟨by first | rfl | (simp; done) | (simp [*]; done), by repeat (first | exact Drawn0.refl _ | apply Drawn0.step)⟩
end Go.Proofs.Ytmniglgahodghaa.K
namespace Go.Proofs.Ytmniglgahodghaa.K
open Go.RowKit Go.Proofs.YtmniglgahodghaaW.PrintWords Go.Proofs.YtmniglgahodghaaW.PrintLast Go.Proofs.YtmniglgahodghaaW.PrintMore
attribute [local go_sem] max2_int min2_int max_two min_two max_three min_three max_four min_four
set_option linter.unusedVariables false
set_option linter.unusedSimpArgs false
def laws_heldObjS.l0 : Nat → List (S86) → Int → Int → Option (Int)
  | 0, _, _, _ => none
  | k + 1, x0, x1, x5 => if x5 < (x0.length : Int) then (if 0 ≤ x5 then (if ((rd_T86 x0 x5).f0) = x1 then ((laws_heldValS.f k ((rd_T86 x0 x5).f1) (wrap64 (x1 + 1))).bind fun t418 => (if t418 < 0 then (some (-1)) else (laws_heldObjS.l0 k x0 t418 (wrap64 (x5 + 1))))) else (some (-1))) else (none)) else (some x1)
def laws_heldObjS.f (k : Nat) (l0 : List (S86)) (a1 : Int) : Option (Int) := laws_heldObjS.l0 k l0 a1 0
set_option maxHeartbeats 8000000 in
set_option maxRecDepth 100000 in
theorem laws_heldObjS.calls (k : Nat) (A0 : Option Addr) (c0 : Nat) (l0 : List (S86)) (a1 : Int) (r : Int) (w : World) (hr0 : Kd.C k86 w A0 l0.length l0) (hc0 : l0.length ≤ c0) (h : laws_heldObjS.f k l0 a1 = some r) :
  Calls Try.prog 22 #[.slice A0 l0.length c0, .int .i64 a1] w fun e w' => e = .returned (.int .i64 r) ∧ Drawn0 w w' := by
 have HR0 := Aside0.mk hr0
 have HC0 := Aside0.mk hc0
 clear hr0 hc0
 have H : (laws_heldObjS.l0 k l0 a1 0) = some r := h
 clear h
 have H' := Aside0.mk H
 clear H
 go_enter Try.func22, Try.ntmps22
 go_wp2
 go_loopg [1, 5] k (fun kq v1 v5 w' => ∃ (x1_1 : Int) (x5_1 : Int), v1 = .int .i64 x1_1 ∧ v5 = .int .i64 x5_1 ∧ Aside0 (laws_heldObjS.l0 kq l0 x1_1 x5_1 = some r) ∧ Aside0 (kq ≤ k) ∧ Drawn0 w w')
 case atStart => exact ⟨(a1), (0), z5, z5, H', ⟨Nat.le_refl _⟩, by repeat (first | exact Drawn0.refl _ | apply Drawn0.step)⟩
 case round =>
  clear H'
  try clear c2
  try clear p2
  obtain ⟨x1_1, x5_1, rfl, rfl, HA, HK1, ⟨m1, rfl⟩⟩ := hrel
  cases gk with
  | zero => exact absurd HA.out (by simp [laws_heldObjS.l0])
  | succ k1 =>
   have H := HA.out
   clear HA
   simp only [laws_heldObjS.l0] at H
   by_cases c3 : x5_1 < (l0.length : Int)
   ·rw [if_pos c3] at H
    have c3b0 : decide (x5_1 < (l0.length : Int)) = true := decide_eq_true c3
    clear c3
    by_cases c4 : 0 ≤ x5_1
    ·rw [if_pos c4] at H
     have c4b0 : decide (0 ≤ x5_1) = true := decide_eq_true c4
     clear c4
     by_cases c5 : ((rd_T86 l0 x5_1).f0) = x1_1
     ·rw [if_pos c5] at H
      have c5b0 : (((rd_T86 l0 x5_1).f0) == x1_1) = true := beq_iff_eq.mpr c5
      have c5b1 : (((rd_T86 l0 x5_1).f0) != x1_1) = false := bne_eq_false_iff_eq.mpr c5
      clear c5
      replace H := Option.bind_eq_some_iff.mp H
      obtain ⟨t418, A60, H⟩ := H
      try dsimp only at H
      have A6 := Aside0.mk A60
      clear A60
      by_cases c7 : t418 < 0
      ·rw [if_pos c7] at H
       have c7b0 : decide (t418 < 0) = true := decide_eq_true c7
       clear c7
       obtain rfl := Option.some.inj H
       have p416 : 0 ≤ (x5_1 : Int) := of_decide_eq_true z3
       have q416 : x5_1 < (l0.length : Int) := of_decide_eq_true z3
       obtain ⟨ad416, A416_1, c416_1, e416, hx416_0, hx416_1, hl416_1, hi416_1⟩ := at_T86 HR0.out x5_1 p416 q416
       cases e416
       have HR416_1 := Aside0.mk hi416_1
       have HC416_1 := Aside0.mk hl416_1
       clear hi416_1 hl416_1
       replace p416 := eq_true p416
       replace q416 := eq_true q416
       have p417 : 0 ≤ (x5_1 : Int) := of_decide_eq_true z3
       have q417 : x5_1 < (l0.length : Int) := of_decide_eq_true z3
       obtain ⟨ad417, A417_1, c417_1, e417, hx417_0, hx417_1, hl417_1, hi417_1⟩ := at_T86 HR0.out x5_1 p417 q417
       obtain rfl : ad416 = ad417 := (by injection e417)
       have HR417_1 := Aside0.mk hi417_1
       have HC417_1 := Aside0.mk hl417_1
       clear hi417_1 hl417_1
       replace p417 := eq_true p417
       replace q417 := eq_true q417
       have ea_ := Option.some.inj (hx416_1.symm.trans hx417_1)
       injection ea_ with ea_ en_ ec_
       subst ea_
       subst ec_
       clear en_
       go_wp2_with (first | ((with_reducible refine gate_callee (f := 56) rfl ?_); refine goesL_ (some 27) rfl rfl Try.func56 (by kernel_rfl) rfl #[.slice A416_1 ((rd_T86 l0 x5_1).f1).length c416_1, .int .i64 (wrap64 (x1_1 + 1))] rfl z2 ?_; (with_reducible refine (laws_heldValS.calls k1 _ _ ((rd_T86 l0 x5_1).f1) (wrap64 (x1_1 + 1)) t418 _ ?side1 ?side2 A6.out).mono ?_); (case side1 => repeat (first | exact HR417_1.out | (with_reducible refine Kd.C_alloc ?_ _) | (with_reducible refine Kd.C_drewN ?_ _) | (with_reducible refine Kd.C_drew ?_))); (case side2 => exact HC417_1.out); rintro e w' ⟨rfl, ⟨nd, rfl⟩⟩; refine ⟨_, rfl, ?_⟩))
       go_ret
       exact ⟨by first | rfl | (simp; done) | (simp [*]; done), by repeat (first | exact Drawn0.refl _ | apply Drawn0.step)⟩
      ·rw [if_neg c7] at H
       have c7b0 : decide (t418 < 0) = false := decide_eq_false c7
       clear c7
       have H' := Aside0.mk H
       clear H
       have p416 : 0 ≤ (x5_1 : Int) := of_decide_eq_true z3
       have q416 : x5_1 < (l0.length : Int) := of_decide_eq_true z3
       obtain ⟨ad416, A416_1, c416_1, e416, hx416_0, hx416_1, hl416_1, hi416_1⟩ := at_T86 HR0.out x5_1 p416 q416
       cases e416
       have HR416_1 := Aside0.mk hi416_1
       have HC416_1 := Aside0.mk hl416_1
       clear hi416_1 hl416_1
       replace p416 := eq_true p416
       replace q416 := eq_true q416
       have p417 : 0 ≤ (x5_1 : Int) := of_decide_eq_true z3
       have q417 : x5_1 < (l0.length : Int) := of_decide_eq_true z3
       obtain ⟨ad417, A417_1, c417_1, e417, hx417_0, hx417_1, hl417_1, hi417_1⟩ := at_T86 HR0.out x5_1 p417 q417
       obtain rfl : ad416 = ad417 := (by injection e417)
       have HR417_1 := Aside0.mk hi417_1
       have HC417_1 := Aside0.mk hl417_1
       clear hi417_1 hl417_1
       replace p417 := eq_true p417
       replace q417 := eq_true q417
       have ea_ := Option.some.inj (hx416_1.symm.trans hx417_1)
       injection ea_ with ea_ en_ ec_
       subst ea_
       subst ec_
       clear en_
       go_wp2_with (first | ((with_reducible refine gate_callee (f := 56) rfl ?_); refine goesL_ (some 27) rfl rfl Try.func56 (by kernel_rfl) rfl #[.slice A416_1 ((rd_T86 l0 x5_1).f1).length c416_1, .int .i64 (wrap64 (x1_1 + 1))] rfl z2 ?_; (with_reducible refine (laws_heldValS.calls k1 _ _ ((rd_T86 l0 x5_1).f1) (wrap64 (x1_1 + 1)) t418 _ ?side1 ?side2 A6.out).mono ?_); (case side1 => repeat (first | exact HR417_1.out | (with_reducible refine Kd.C_alloc ?_ _) | (with_reducible refine Kd.C_drewN ?_ _) | (with_reducible refine Kd.C_drew ?_))); (case side2 => exact HC417_1.out); rintro e w' ⟨rfl, ⟨nd, rfl⟩⟩; refine ⟨_, rfl, ?_⟩))
       go_roundg k1
       case measure => have := HK1.out; omega
       case rel => exact ⟨(t418), (wrap64 (x5_1 + 1)), z5, z5, H', ⟨by have := HK1.out; omega⟩, by repeat (first | exact Drawn0.refl _ | apply Drawn0.step)⟩
     ·rw [if_neg c5] at H
      have c5b0 : (((rd_T86 l0 x5_1).f0) == x1_1) = false := beq_eq_false_iff_ne.mpr c5
      have c5b1 : (((rd_T86 l0 x5_1).f0) != x1_1) = true := bne_iff_ne.mpr c5
      obtain rfl := Option.some.inj H
      have p416 : 0 ≤ (x5_1 : Int) := of_decide_eq_true z3
      have q416 : x5_1 < (l0.length : Int) := of_decide_eq_true z3
      obtain ⟨ad416, A416_1, c416_1, e416, hx416_0, hx416_1, hl416_1, hi416_1⟩ := at_T86 HR0.out x5_1 p416 q416
      cases e416
      have HR416_1 := Aside0.mk hi416_1
      have HC416_1 := Aside0.mk hl416_1
      clear hi416_1 hl416_1
      replace p416 := eq_true p416
      replace q416 := eq_true q416
      go_wp2
      go_ret
      exact ⟨by first | rfl | (simp; done) | (simp [*]; done), by repeat (first | exact Drawn0.refl _ | apply Drawn0.step)⟩
    ·rw [if_neg c4] at H
     exact absurd H (by simp)
   ·rw [if_neg c3] at H
    have c3b0 : decide (x5_1 < (l0.length : Int)) = false := decide_eq_false c3
    clear c3
    obtain rfl := Option.some.inj H
    go_wp2
    go_ret
    exact ⟨by first | rfl | (simp; done) | (simp [*]; done), by repeat (first | exact Drawn0.refl _ | apply Drawn0.step)⟩
end Go.Proofs.Ytmniglgahodghaa.K
namespace Go.Proofs.Ytmniglgahodghaa.K
open Go.RowKit Go.Proofs.YtmniglgahodghaaW.PrintWords Go.Proofs.YtmniglgahodghaaW.PrintLast Go.Proofs.YtmniglgahodghaaW.PrintMore
attribute [local go_sem] max2_int min2_int max_two min_two max_three min_three max_four min_four
set_option linter.unusedVariables false
set_option linter.unusedSimpArgs false
def laws_szIntS.f (l0 : List Int) (a1 : Int) : Option (Int) := if (wrap64 (a1 - (l0.length : Int))) < 0 then (some (-1)) else (some (wrap64 (a1 - (l0.length : Int))))
set_option maxHeartbeats 8000000 in
set_option maxRecDepth 100000 in
theorem laws_szIntS.calls (A0 : Option Addr) (c0 : Nat) (l0 : List Int) (a1 : Int) (r : Int) (w : World) (hr0 : Kd.C (Kd.int .i64) w A0 l0.length l0) (hc0 : l0.length ≤ c0) (h : laws_szIntS.f l0 a1 = some r) :
  Calls Try.prog 32 #[.slice A0 l0.length c0, .int .i64 a1] w fun e w' => e = .returned (.int .i64 r) ∧ Drawn0 w w' := by
 have HR0 := Aside0.mk hr0
 have HC0 := Aside0.mk hc0
 clear hr0 hc0
 have H : (if (wrap64 (a1 - (l0.length : Int))) < 0 then (some (-1)) else (some (wrap64 (a1 - (l0.length : Int))))) = some r := h
 clear h
 by_cases c3 : (wrap64 (a1 - (l0.length : Int))) < 0
 ·rw [if_pos c3] at H
  have c3b0 : decide ((wrap64 (a1 - (l0.length : Int))) < 0) = true := decide_eq_true c3
  clear c3
  obtain rfl := Option.some.inj H
  go_enter Try.func32, Try.ntmps32
  go_wp2
  go_ret
  exact ⟨by first | rfl | (simp; done) | (simp [*]; done), by repeat (first | exact Drawn0.refl _ | apply Drawn0.step)⟩
 ·rw [if_neg c3] at H
  have c3b0 : decide ((wrap64 (a1 - (l0.length : Int))) < 0) = false := decide_eq_false c3
  clear c3
  obtain rfl := Option.some.inj H
  go_enter Try.func32, Try.ntmps32
  go_wp2
  go_ret
  exact ⟨by first | rfl | (simp; done) | (simp [*]; done), by repeat (first | exact Drawn0.refl _ | apply Drawn0.step)⟩
end Go.Proofs.Ytmniglgahodghaa.K
namespace Go.Proofs.Ytmniglgahodghaa.K
open Go.RowKit Go.Proofs.YtmniglgahodghaaW.PrintWords Go.Proofs.YtmniglgahodghaaW.PrintLast Go.Proofs.YtmniglgahodghaaW.PrintMore
attribute [local go_sem] max2_int min2_int max_two min_two max_three min_three max_four min_four
set_option linter.unusedVariables false
set_option linter.unusedSimpArgs false
def laws_szClass.f (a0_0 : Int) (l0_1 : List Int) (a1 : Int) : Option (Int) := (laws_szIntS.f l0_1 a1).bind fun t102 => (if t102 < 0 then (some (-1)) else (some t102))
set_option maxHeartbeats 8000000 in
set_option maxRecDepth 100000 in
theorem laws_szClass.calls (a0_0 : Int) (A0_1 : Option Addr) (c0_1 : Nat) (l0_1 : List Int) (a1 : Int) (r : Int) (w : World) (hr0_1 : Kd.C (Kd.int .i64) w A0_1 l0_1.length l0_1) (hc0_1 : l0_1.length ≤ c0_1) (h : laws_szClass.f a0_0 l0_1 a1 = some r) :
  Calls Try.prog 31 #[.agg #[.int .i64 a0_0, .slice A0_1 l0_1.length c0_1], .int .i64 a1] w fun e w' => e = .returned (.int .i64 r) ∧ Below w.heap.size w w' := by
 have hu56 := Try.underlying56
 have HR0_1 := Aside0.mk hr0_1
 have HC0_1 := Aside0.mk hc0_1
 clear hr0_1 hc0_1
 have HB := Aside0.mk (Below.refl w.heap.size w)
 have H : ((laws_szIntS.f l0_1 a1).bind fun t102 => (if t102 < 0 then (some (-1)) else (some t102))) = some r := h
 clear h
 replace H := Option.bind_eq_some_iff.mp H
 obtain ⟨t102, A30, H⟩ := H
 try dsimp only at H
 have A3 := Aside0.mk A30
 clear A30
 by_cases c4 : t102 < 0
 ·rw [if_pos c4] at H
  have c4b0 : decide (t102 < 0) = true := decide_eq_true c4
  clear c4
  obtain rfl := Option.some.inj H
  go_enter Try.func31, Try.ntmps31
  go_wp2_with (first | ((with_reducible refine gate_dst (N := 2) rfl ?_); refine box_event ?hg (N := 2) ?hd (cs := #[.int .i64 a0_0, .slice A0_1 l0_1.length c0_1]) (t := 56) ?hr ?_; (case hd => rfl); (case hg => rfl); (case hr => first | (go_simp; done) | (go_simp; rfl)); intro gb101 hg w5 hbox hb; have BK101 := Aside0.mk (hbox); have GW101 := Aside0.mk ((by rw [hg]; exact (below_size z1) : w.heap.size ≤ gb101)); have GE101 := Aside0.mk ((by rw [hg]; exact (below_size z1) : w.heap.size ≤ gb101)); replace HB := Aside0.mk (below_step z1 hb); clear hb hbox hg; obtain ⟨hcz6_0, hcz6_1, hfz6_0, hfz6_1⟩ := cbf2 BK101) | ((with_reducible refine gate_callee (f := 32) rfl ?_); refine goesL_ (some 8) rfl rfl Try.func32 (by kernel_rfl) rfl #[.slice A0_1 l0_1.length c0_1, .int .i64 a1] rfl z2 ?_; (with_reducible refine (laws_szIntS.calls _ _ l0_1 a1 t102 _ ?side1 ?side2 A3.out).mono ?_); (case side1 => repeat (first | exact (Kd.C_below HR0_1.out HB.out) | (with_reducible refine Kd.C_alloc ?_ _) | (with_reducible refine Kd.C_drewN ?_ _) | (with_reducible refine Kd.C_drew ?_))); (case side2 => exact HC0_1.out); rintro e w' ⟨rfl, ⟨nd, rfl⟩⟩; refine ⟨_, rfl, ?_⟩))
  go_ret
  exact ⟨by first | rfl | (simp [errW_none, errW_some] <;> rfl) | (simp [*, errW_none, errW_some] <;> rfl), by repeat (first | (with_reducible first | exact HB.out | apply below_alloc | apply pw_below_drewN | apply below_drew1 | refine below_set ?_ GE101.out) | exact HB.out)⟩
 ·rw [if_neg c4] at H
  have c4b0 : decide (t102 < 0) = false := decide_eq_false c4
  clear c4
  obtain rfl := Option.some.inj H
  go_enter Try.func31, Try.ntmps31
  go_wp2_with (first | ((with_reducible refine gate_dst (N := 2) rfl ?_); refine box_event ?hg (N := 2) ?hd (cs := #[.int .i64 a0_0, .slice A0_1 l0_1.length c0_1]) (t := 56) ?hr ?_; (case hd => rfl); (case hg => rfl); (case hr => first | (go_simp; done) | (go_simp; rfl)); intro gb101 hg w7 hbox hb; have BK101 := Aside0.mk (hbox); have GW101 := Aside0.mk ((by rw [hg]; exact (below_size z1) : w.heap.size ≤ gb101)); have GE101 := Aside0.mk ((by rw [hg]; exact (below_size z1) : w.heap.size ≤ gb101)); replace HB := Aside0.mk (below_step z1 hb); clear hb hbox hg; obtain ⟨hcz8_0, hcz8_1, hfz8_0, hfz8_1⟩ := cbf2 BK101) | ((with_reducible refine gate_callee (f := 32) rfl ?_); refine goesL_ (some 8) rfl rfl Try.func32 (by kernel_rfl) rfl #[.slice A0_1 l0_1.length c0_1, .int .i64 a1] rfl z2 ?_; (with_reducible refine (laws_szIntS.calls _ _ l0_1 a1 t102 _ ?side1 ?side2 A3.out).mono ?_); (case side1 => repeat (first | exact (Kd.C_below HR0_1.out HB.out) | (with_reducible refine Kd.C_alloc ?_ _) | (with_reducible refine Kd.C_drewN ?_ _) | (with_reducible refine Kd.C_drew ?_))); (case side2 => exact HC0_1.out); rintro e w' ⟨rfl, ⟨nd, rfl⟩⟩; refine ⟨_, rfl, ?_⟩))
  go_ret
  exact ⟨by first | rfl | (simp [errW_none, errW_some] <;> rfl) | (simp [*, errW_none, errW_some] <;> rfl), by repeat (first | (with_reducible first | exact HB.out | apply below_alloc | apply pw_below_drewN | apply below_drew1 | refine below_set ?_ GE101.out) | exact HB.out)⟩
end Go.Proofs.Ytmniglgahodghaa.K
namespace Go.Proofs.Ytmniglgahodghaa.K
open Go.RowKit Go.Proofs.YtmniglgahodghaaW.PrintWords Go.Proofs.YtmniglgahodghaaW.PrintLast Go.Proofs.YtmniglgahodghaaW.PrintMore
attribute [local go_sem] max2_int min2_int max_two min_two max_three min_three max_four min_four
set_option linter.unusedVariables false
set_option linter.unusedSimpArgs false
def laws_szClassS.l0 : Nat → List (S56) → Int → Int → Option (Int)
  | 0, _, _, _ => none
  | k + 1, x0, x1, x5 => if x5 < (x0.length : Int) then (if 0 ≤ x5 then ((laws_szClass.f ((rd_T56 x0 x5).f0) ((rd_T56 x0 x5).f1) x1).bind fun t104 => (if t104 < 0 then (some (-1)) else (laws_szClassS.l0 k x0 t104 (wrap64 (x5 + 1))))) else (none)) else (some x1)
def laws_szClassS.f (k : Nat) (l0 : List (S56)) (a1 : Int) : Option (Int) := if (wrap64 (a1 - (l0.length : Int))) < 0 then (some (-1)) else (laws_szClassS.l0 k l0 (wrap64 (a1 - (l0.length : Int))) 0)
theorem laws_szClassS.mono_l : ∀ k, (∀ y0 y1 y2, LeO (laws_szClassS.l0 k y0 y1 y2) (laws_szClassS.l0 (k + 1) y0 y1 y2))
 | 0 => fun _ _ _ r h => by simp [laws_szClassS.l0] at h
 | k + 1 => by
  have ih0 := laws_szClassS.mono_l k
  ·intro y0 y1 y2
   unfold laws_szClassS.l0
   repeat' first
   | (with_reducible exact ih0 _ _ _)
   | (with_reducible exact LeO.refl _)
   | (with_reducible exact LeO.none _)
   | (with_reducible refine LeO.ite ?_ ?_)
   | (with_reducible refine LeO.bind ?_ (fun _ => ?_))
   | exact ih0 _ _ _
   | exact LeO.none _
   | refine LeO.ite ?_ ?_
   | refine LeO.bind ?_ (fun _ => ?_)
theorem laws_szClassS.mono : ∀ a0 a1 k, LeO (laws_szClassS.f k a0 a1) (laws_szClassS.f (k + 1) a0 a1) := by
  intro a0 a1 k
  have ih0 := laws_szClassS.mono_l k
  unfold laws_szClassS.f
  repeat' first
      | (with_reducible exact ih0 _ _ _)
      | (with_reducible exact LeO.refl _)
      | (with_reducible exact LeO.none _)
      | (with_reducible refine LeO.ite ?_ ?_)
      | (with_reducible refine LeO.bind ?_ (fun _ => ?_))
      | exact ih0 _ _ _
      | exact LeO.none _
      | refine LeO.ite ?_ ?_
      | refine LeO.bind ?_ (fun _ => ?_)
set_option maxHeartbeats 8000000 in
set_option maxRecDepth 100000 in
theorem laws_szClassS.calls (k : Nat) (A0 : Option Addr) (c0 : Nat) (l0 : List (S56)) (a1 : Int) (r : Int) (w : World) (hr0 : Kd.C k56 w A0 l0.length l0) (hc0 : l0.length ≤ c0) (h : laws_szClassS.f k l0 a1 = some r) :
  Calls Try.prog 7 #[.slice A0 l0.length c0, .int .i64 a1] w fun e w' => e = .returned (.int .i64 r) ∧ Below w.heap.size w w' := by
 have hu56 := Try.underlying56
 have HR0 := Aside0.mk hr0
 have HC0 := Aside0.mk hc0
 clear hr0 hc0
 have HB := Aside0.mk (Below.refl w.heap.size w)
 have H : (if (wrap64 (a1 - (l0.length : Int))) < 0 then (some (-1)) else (laws_szClassS.l0 k l0 (wrap64 (a1 - (l0.length : Int))) 0)) = some r := h
 clear h
 by_cases c3 : (wrap64 (a1 - (l0.length : Int))) < 0
 ·rw [if_pos c3] at H
  have c3b0 : decide ((wrap64 (a1 - (l0.length : Int))) < 0) = true := decide_eq_true c3
  clear c3
  obtain rfl := Option.some.inj H
  go_enter Try.func7, Try.ntmps7
  go_wp2
  go_ret
  exact ⟨by first | rfl | (simp [errW_none, errW_some] <;> rfl) | (simp [*, errW_none, errW_some] <;> rfl), by repeat (first | (with_reducible first | exact HB.out | apply below_alloc | apply pw_below_drewN | apply below_drew1) | exact HB.out)⟩
 ·rw [if_neg c3] at H
  have c3b0 : decide ((wrap64 (a1 - (l0.length : Int))) < 0) = false := decide_eq_false c3
  clear c3
  have H' := Aside0.mk H
  clear H
  go_enter Try.func7, Try.ntmps7
  go_wp2
  go_loopg [1, 5] k (fun kq v1 v5 w' => ∃ (x1_1 : Int) (x5_1 : Int), v1 = .int .i64 x1_1 ∧ v5 = .int .i64 x5_1 ∧ Aside0 (laws_szClassS.l0 kq l0 x1_1 x5_1 = some r) ∧ Aside0 (kq ≤ k) ∧ Aside0 (Below w.heap.size w w'))
  case atStart => exact ⟨(wrap64 (a1 - (l0.length : Int))), (0), z5, z5, H', ⟨Nat.le_refl _⟩, ⟨by repeat (first | (with_reducible first | exact HB.out | apply below_alloc | apply pw_below_drewN | apply below_drew1) | exact HB.out)⟩⟩
  case round =>
   clear H'
   try clear p2
   try clear c3
   try clear c3b0
   obtain ⟨x1_1, x5_1, rfl, rfl, HA, HK1, HB⟩ := hrel
   cases gk with
   | zero => exact absurd HA.out (by simp [laws_szClassS.l0])
   | succ k1 =>
    have H := HA.out
    clear HA
    simp only [laws_szClassS.l0] at H
    by_cases c4 : x5_1 < (l0.length : Int)
    ·rw [if_pos c4] at H
     have c4b0 : decide (x5_1 < (l0.length : Int)) = true := decide_eq_true c4
     clear c4
     by_cases c5 : 0 ≤ x5_1
     ·rw [if_pos c5] at H
      have c5b0 : decide (0 ≤ x5_1) = true := decide_eq_true c5
      clear c5
      replace H := Option.bind_eq_some_iff.mp H
      obtain ⟨t104, A60, H⟩ := H
      try dsimp only at H
      have A6 := Aside0.mk A60
      clear A60
      by_cases c7 : t104 < 0
      ·rw [if_pos c7] at H
       have c7b0 : decide (t104 < 0) = true := decide_eq_true c7
       clear c7
       obtain rfl := Option.some.inj H
       have p103 : 0 ≤ (x5_1 : Int) := of_decide_eq_true z3
       have q103 : x5_1 < (l0.length : Int) := of_decide_eq_true z3
       obtain ⟨ad103, A103_1, c103_1, e103, hx103_0, hx103_1, hl103_1, hi103_1⟩ := at_T56 HR0.out x5_1 p103 q103
       cases e103
       replace hx103_0 := (HB.out.cell (World.block_lt_of_cell? w _ hx103_0)).trans hx103_0
       replace hx103_1 := (HB.out.cell (World.block_lt_of_cell? w _ hx103_1)).trans hx103_1
       have HR103_1 := Aside0.mk hi103_1
       have HC103_1 := Aside0.mk hl103_1
       clear hi103_1 hl103_1
       replace p103 := eq_true p103
       replace q103 := eq_true q103
       go_wp2_with (first | ((with_reducible refine gate_callee (f := 31) rfl ?_); refine goesL_ (some 23) rfl rfl Try.func31 (by kernel_rfl) rfl #[.agg #[.int .i64 ((rd_T56 l0 x5_1).f0), .slice A103_1 ((rd_T56 l0 x5_1).f1).length c103_1], .int .i64 x1_1] rfl z2 ?_; (with_reducible refine (laws_szClass.calls ((rd_T56 l0 x5_1).f0) _ _ ((rd_T56 l0 x5_1).f1) x1_1 t104 _ ?side1 ?side2 A6.out).mono ?_); (case side1 => repeat (first | exact (Kd.C_below HR103_1.out HB.out) | (with_reducible refine Kd.C_alloc ?_ _) | (with_reducible refine Kd.C_drewN ?_ _) | (with_reducible refine Kd.C_drew ?_))); (case side2 => exact HC103_1.out); rintro e w8 ⟨rfl, hb⟩; refine ⟨_, rfl, ?_⟩; replace HB := Aside0.mk (below_step z1 hb); (try clear hb); (try clear hb2); (try clear hk); (try clear hi)))
       go_ret
       exact ⟨by first | rfl | (simp [errW_none, errW_some] <;> rfl) | (simp [*, errW_none, errW_some] <;> rfl), by repeat (first | (with_reducible first | exact HB.out | apply below_alloc | apply pw_below_drewN | apply below_drew1) | exact HB.out)⟩
      ·rw [if_neg c7] at H
       have c7b0 : decide (t104 < 0) = false := decide_eq_false c7
       clear c7
       have H' := Aside0.mk H
       clear H
       have p103 : 0 ≤ (x5_1 : Int) := of_decide_eq_true z3
       have q103 : x5_1 < (l0.length : Int) := of_decide_eq_true z3
       obtain ⟨ad103, A103_1, c103_1, e103, hx103_0, hx103_1, hl103_1, hi103_1⟩ := at_T56 HR0.out x5_1 p103 q103
       cases e103
       replace hx103_0 := (HB.out.cell (World.block_lt_of_cell? w _ hx103_0)).trans hx103_0
       replace hx103_1 := (HB.out.cell (World.block_lt_of_cell? w _ hx103_1)).trans hx103_1
       have HR103_1 := Aside0.mk hi103_1
       have HC103_1 := Aside0.mk hl103_1
       clear hi103_1 hl103_1
       replace p103 := eq_true p103
       replace q103 := eq_true q103
       go_wp2_with (first | ((with_reducible refine gate_callee (f := 31) rfl ?_); refine goesL_ (some 23) rfl rfl Try.func31 (by kernel_rfl) rfl #[.agg #[.int .i64 ((rd_T56 l0 x5_1).f0), .slice A103_1 ((rd_T56 l0 x5_1).f1).length c103_1], .int .i64 x1_1] rfl z2 ?_; (with_reducible refine (laws_szClass.calls ((rd_T56 l0 x5_1).f0) _ _ ((rd_T56 l0 x5_1).f1) x1_1 t104 _ ?side1 ?side2 A6.out).mono ?_); (case side1 => repeat (first | exact (Kd.C_below HR103_1.out HB.out) | (with_reducible refine Kd.C_alloc ?_ _) | (with_reducible refine Kd.C_drewN ?_ _) | (with_reducible refine Kd.C_drew ?_))); (case side2 => exact HC103_1.out); rintro e w9 ⟨rfl, hb⟩; refine ⟨_, rfl, ?_⟩; replace HB := Aside0.mk (below_step z1 hb); (try clear hb); (try clear hb2); (try clear hk); (try clear hi)))
       go_roundg k1
       case measure => have := HK1.out; omega
       case rel => exact ⟨(t104), (wrap64 (x5_1 + 1)), z5, z5, H', ⟨by have := HK1.out; omega⟩, ⟨by repeat (first | (with_reducible first | exact HB.out | apply below_alloc | apply pw_below_drewN | apply below_drew1) | exact HB.out)⟩⟩
     ·rw [if_neg c5] at H
      exact absurd H (by simp)
    ·rw [if_neg c4] at H
     have c4b0 : decide (x5_1 < (l0.length : Int)) = false := decide_eq_false c4
     clear c4
     obtain rfl := Option.some.inj H
     go_wp2
     go_ret
     exact ⟨by first | rfl | (simp [errW_none, errW_some] <;> rfl) | (simp [*, errW_none, errW_some] <;> rfl), by repeat (first | (with_reducible first | exact HB.out | apply below_alloc | apply pw_below_drewN | apply below_drew1) | exact HB.out)⟩
end Go.Proofs.Ytmniglgahodghaa.K
namespace Go.Proofs.Ytmniglgahodghaa.K
open Go.RowKit Go.Proofs.YtmniglgahodghaaW.PrintWords Go.Proofs.YtmniglgahodghaaW.PrintLast Go.Proofs.YtmniglgahodghaaW.PrintMore
attribute [local go_sem] max2_int min2_int max_two min_two max_three min_three max_four min_four
set_option linter.unusedVariables false
set_option linter.unusedSimpArgs false
def laws_szBoolS.f (l0 : List Bool) (a1 : Int) : Option (Int) := if (wrap64 (a1 - (l0.length : Int))) < 0 then (some (-1)) else (some (wrap64 (a1 - (l0.length : Int))))
set_option maxHeartbeats 8000000 in
set_option maxRecDepth 100000 in
theorem laws_szBoolS.calls (A0 : Option Addr) (c0 : Nat) (l0 : List Bool) (a1 : Int) (r : Int) (w : World) (hr0 : Kd.C Kd.bool w A0 l0.length l0) (hc0 : l0.length ≤ c0) (h : laws_szBoolS.f l0 a1 = some r) :
  Calls Try.prog 33 #[.slice A0 l0.length c0, .int .i64 a1] w fun e w' => e = .returned (.int .i64 r) ∧ Drawn0 w w' := by
 have HR0 := Aside0.mk hr0
 have HC0 := Aside0.mk hc0
 clear hr0 hc0
 have H : (if (wrap64 (a1 - (l0.length : Int))) < 0 then (some (-1)) else (some (wrap64 (a1 - (l0.length : Int))))) = some r := h
 clear h
 by_cases c3 : (wrap64 (a1 - (l0.length : Int))) < 0
 ·rw [if_pos c3] at H
  have c3b0 : decide ((wrap64 (a1 - (l0.length : Int))) < 0) = true := decide_eq_true c3
  clear c3
  obtain rfl := Option.some.inj H
  go_enter Try.func33, Try.ntmps33
  go_wp2
  go_ret
  exact ⟨by first | rfl | (simp; done) | (simp [*]; done), by repeat (first | exact Drawn0.refl _ | apply Drawn0.step)⟩
 ·rw [if_neg c3] at H
  have c3b0 : decide ((wrap64 (a1 - (l0.length : Int))) < 0) = false := decide_eq_false c3
  clear c3
  obtain rfl := Option.some.inj H
  go_enter Try.func33, Try.ntmps33
  go_wp2
  go_ret
  exact ⟨by first | rfl | (simp; done) | (simp [*]; done), by repeat (first | exact Drawn0.refl _ | apply Drawn0.step)⟩
end Go.Proofs.Ytmniglgahodghaa.K
