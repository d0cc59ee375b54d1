import Derived.Test.YtmniglgahodghaaPr24
import Derived.Test.YtmniglgahodghaaPr33
import Derived.Test.YtmniglgahodghaaPr32
import Derived.Test.YtmniglgahodghaaPr31
import Derived.Test.YtmniglgahodghaaPr28
namespace Go.Proofs.Ytmniglgahodghaa.K
open Go.RowKit Go.Proofs.YtmniglgahodghaaW.PrintWords Go.Proofs.YtmniglgahodghaaW.PrintLast Go.Proofs.YtmniglgahodghaaW.PrintMore
attribute [local go_sem] max2_int min2_int max_two min_two max_three min_three max_four min_four
set_option linter.unusedVariables false
set_option linter.unusedSimpArgs false
def spec_l21Copy.f (l0_0 : List Int) (a0_1 : Int) (a0_2 : Int) (a0_3 : Int) (l0_4 : List Bool) : Option (List Int × Int × Int × Int × List Bool) := (some (([] : List Int) : List Int)).bind fun y239 => (if y239.length + l0_0.length < 17592186044416 then ((some (([] : List Bool) : List Bool)).bind fun y245 => (if y245.length + l0_4.length < 140737488355328 then (some ((y239 ++ l0_0), a0_1, a0_2, a0_3, (y245 ++ l0_4))) else (none))) else (none))
set_option maxHeartbeats 8000000 in
set_option maxRecDepth 100000 in
theorem spec_l21Copy.calls (A0_0 : Option Addr) (c0_0 : Nat) (l0_0 : List Int) (a0_1 : Int) (a0_2 : Int) (a0_3 : Int) (A0_4 : Option Addr) (c0_4 : Nat) (l0_4 : List Bool) (r1 : List Int) (r2 : Int) (r3 : Int) (r4 : Int) (r5 : List Bool) (w : World) (hr0_0 : Kd.C (Kd.int .i64) w A0_0 l0_0.length l0_0) (hc0_0 : l0_0.length ≤ c0_0) (hr0_4 : Kd.C Kd.bool w A0_4 l0_4.length l0_4) (hc0_4 : l0_4.length ≤ c0_4) (h : spec_l21Copy.f l0_0 a0_1 a0_2 a0_3 l0_4 = some (r1, r2, r3, r4, r5)) :
  Calls Try.prog 42 #[.agg #[.slice A0_0 l0_0.length c0_0, .int .i64 a0_1, .int .i64 a0_2, .int .i64 a0_3, .slice A0_4 l0_4.length c0_4]] w fun e w' => ∃ v0_ v4_ : Value, e = .returned (.agg #[v0_, .int .i64 r2, .int .i64 r3, .int .i64 r4, v4_]) ∧ Kd.R (Kd.int .i64) 3 w' w.heap.size (fun _ => True) v0_ r1 ∧ Kd.R Kd.bool 4 w' w.heap.size (fun _ => True) v4_ r5 ∧ Below w.heap.size w w' := by
 have hu29 := Try.underlying29
 have HR0_0 := Aside0.mk hr0_0
 have HC0_0 := Aside0.mk hc0_0
 clear hr0_0 hc0_0
 have HR0_4 := Aside0.mk hr0_4
 have HC0_4 := Aside0.mk hc0_4
 clear hr0_4 hc0_4
 have HB := Aside0.mk (Below.refl w.heap.size w)
 have H : ((some (([] : List Int) : List Int)).bind fun y239 => (if y239.length + l0_0.length < 17592186044416 then ((some (([] : List Bool) : List Bool)).bind fun y245 => (if y245.length + l0_4.length < 140737488355328 then (some ((y239 ++ l0_0), a0_1, a0_2, a0_3, (y245 ++ l0_4))) else (none))) else (none))) = some (r1, r2, r3, r4, r5) := h
 clear h
 obtain ⟨y239, hy239⟩ : ∃ y_ : List Int, y_ = (([] : List Int)) := ⟨_, rfl⟩
 replace H : (if y239.length + l0_0.length < 17592186044416 then ((some (([] : List Bool) : List Bool)).bind fun y245 => (if y245.length + l0_4.length < 140737488355328 then (some ((y239 ++ l0_0), a0_1, a0_2, a0_3, (y245 ++ l0_4))) else (none))) else (none)) = some (r1, r2, r3, r4, r5) := by first | (rw [hy239]; with_reducible exact H) | (have H2_ := (Option.bind_some _ _).symm.trans H; rw [hy239]; with_reducible exact H2_) | (have H2_ := (Option.bind_some _ _).symm.trans H; with_reducible exact H2_) | with_reducible exact H | (rw [hy239]; exact H) | exact H
 have Ny239 := Aside0.mk hy239
 clear hy239
 by_cases c2 : y239.length + l0_0.length < 17592186044416
 ·rw [if_pos c2] at H
  have LMc2 := Aside0.mk c2
  clear c2
  obtain ⟨y242, hy242⟩ : ∃ y_ : List Int, y_ = (y239 ++ l0_0) := ⟨_, rfl⟩
  replace H : ((some (([] : List Bool) : List Bool)).bind fun y245 => (if y245.length + l0_4.length < 140737488355328 then (some (y242, a0_1, a0_2, a0_3, (y245 ++ l0_4))) else (none))) = some (r1, r2, r3, r4, r5) := by first | (rw [hy242]; with_reducible exact H) | (have H2_ := (Option.bind_some _ _).symm.trans H; rw [hy242]; with_reducible exact H2_) | (have H2_ := (Option.bind_some _ _).symm.trans H; with_reducible exact H2_) | with_reducible exact H | (rw [hy242]; exact H) | exact H
  have Ny242 := Aside0.mk hy242
  clear hy242
  obtain ⟨y245, hy245⟩ : ∃ y_ : List Bool, y_ = (([] : List Bool)) := ⟨_, rfl⟩
  replace H : (if y245.length + l0_4.length < 140737488355328 then (some (y242, a0_1, a0_2, a0_3, (y245 ++ l0_4))) else (none)) = some (r1, r2, r3, r4, r5) := by first | (rw [hy245]; with_reducible exact H) | (have H2_ := (Option.bind_some _ _).symm.trans H; rw [hy245]; with_reducible exact H2_) | (have H2_ := (Option.bind_some _ _).symm.trans H; with_reducible exact H2_) | with_reducible exact H | (rw [hy245]; exact H) | exact H
  have Ny245 := Aside0.mk hy245
  clear hy245
  by_cases c3 : y245.length + l0_4.length < 140737488355328
  ·rw [if_pos c3] at H
   have LMc3 := Aside0.mk c3
   clear c3
   obtain ⟨y248, hy248⟩ : ∃ y_ : List Bool, y_ = (y245 ++ l0_4) := ⟨_, rfl⟩
   replace H : (some (y242, a0_1, a0_2, a0_3, y248)) = some (r1, r2, r3, r4, r5) := by first | (rw [hy248]; with_reducible exact H) | (have H2_ := (Option.bind_some _ _).symm.trans H; rw [hy248]; with_reducible exact H2_) | (have H2_ := (Option.bind_some _ _).symm.trans H; with_reducible exact H2_) | with_reducible exact H | (rw [hy248]; exact H) | exact H
   have Ny248 := Aside0.mk hy248
   clear hy248
   simp only [Option.some.injEq, Prod.mk.injEq] at H
   obtain ⟨rfl, rfl, rfl, rfl, rfl⟩ := H
   go_enter Try.func42, Try.ntmps42
   go_wp2_with (first | ((with_reducible refine gate_dst (N := 1) rfl ?_); refine box_event ?hg (N := 1) ?hd (cs := #[.slice A0_0 l0_0.length c0_0, .int .i64 a0_1, .int .i64 a0_2, .int .i64 a0_3, .slice A0_4 l0_4.length c0_4]) (t := 29) ?hr ?_; (case hd => rfl); (case hg => rfl); (case hr => first | (go_simp; done) | (go_simp; rfl)); intro gb236 hg w4 hbox hb; have BK236 := Aside0.mk (hbox); have GW236 := Aside0.mk ((by rw [hg]; exact (below_size z1) : w.heap.size ≤ gb236)); have GE236 := Aside0.mk ((by rw [hg]; exact (below_size z1) : w.heap.size ≤ gb236)); replace HB := Aside0.mk (below_step z1 hb); clear hb hbox hg) | ((with_reducible refine gate_dst (N := 2) rfl ?_); refine box_event ?hg (N := 2) ?hd (cs := #[.slice none 0 0, .int .i64 0, .int .i64 0, .int .i64 0, .slice none 0 0]) (t := 29) ?hr ?_; (case hd => rfl); (case hg => rfl); (case hr => first | (go_simp; done) | (go_simp; rfl)); intro gb237 hg w5 hbox hb; have BK237 := Aside0.mk (hbox); have GW237 := Aside0.mk ((by rw [hg]; exact (below_size (by repeat (first | (with_reducible first | exact HB.out | apply below_alloc | apply pw_below_drewN | apply below_drew1 | refine below_set ?_ GE236.out) | exact HB.out))) : w.heap.size ≤ gb237)); have GE237 := Aside0.mk ((by rw [hg]; exact (below_size (by repeat (first | (with_reducible first | exact HB.out | apply below_alloc | apply pw_below_drewN | apply below_drew1 | refine below_set ?_ GE236.out) | exact HB.out))) : w.heap.size ≤ gb237)); have NB236_237 := Aside0.mk ((by rw [hg]; exact Nat.ne_of_lt (blk_lt (g := gb236) (o := .cells #[.slice A0_0 l0_0.length c0_0, .int .i64 a0_1, .int .i64 a0_2, .int .i64 a0_3, .slice A0_4 l0_4.length c0_4] 29 (0, 0)) z22) : gb236 ≠ gb237)); have NB237_236 := Aside0.mk ((by rw [hg]; exact Nat.ne_of_gt (blk_lt (g := gb236) (o := .cells #[.slice A0_0 l0_0.length c0_0, .int .i64 a0_1, .int .i64 a0_2, .int .i64 a0_3, .slice A0_4 l0_4.length c0_4] 29 (0, 0)) z22) : gb237 ≠ gb236)); replace BK236 := Aside0.mk (blk_below (g := gb236) (o := .cells #[.slice A0_0 l0_0.length c0_0, .int .i64 a0_1, .int .i64 a0_2, .int .i64 a0_3, .slice A0_4 l0_4.length c0_4] 29 (0, 0)) z22 hb); replace HB := Aside0.mk (below_step (by repeat (first | (with_reducible first | exact HB.out | apply below_alloc | apply pw_below_drewN | apply below_drew1 | refine below_set ?_ GE236.out) | exact HB.out)) hb); clear hb hbox hg; have hnb6 := NB236_237.out; have hnc6 := NB237_236.out; obtain ⟨hcz7_0, hcz7_1, hcz7_2, hcz7_3, hcz7_4, hfz7_0, hfz7_1, hfz7_2, hfz7_3, hfz7_4⟩ := cbf5 BK236) | ((with_reducible refine gate_dst (N := 3) rfl ?_); refine box_event ?hg (N := 3) ?hd (cs := #[.slice none 0 0, .int .i64 0, .int .i64 0, .int .i64 0, .slice none 0 0]) (t := 29) ?hr ?_; (case hd => rfl); (case hg => rfl); (case hr => first | (go_simp; done) | (go_simp; rfl)); intro gb238 hg w8 hbox hb; have BK238 := Aside0.mk (hbox); have GW238 := Aside0.mk ((by rw [hg]; exact (below_size z38) : w.heap.size ≤ gb238)); have GE238 := Aside0.mk ((by rw [hg]; exact (below_size z38) : w.heap.size ≤ gb238)); have NB236_238 := Aside0.mk ((by rw [hg]; exact Nat.ne_of_lt (blk_lt (g := gb236) (o := .cells #[.slice A0_0 l0_0.length c0_0, .int .i64 a0_1, .int .i64 a0_2, .int .i64 a0_3, .slice A0_4 l0_4.length c0_4] 29 (0, 0)) z22) : gb236 ≠ gb238)); have NB238_236 := Aside0.mk ((by rw [hg]; exact Nat.ne_of_gt (blk_lt (g := gb236) (o := .cells #[.slice A0_0 l0_0.length c0_0, .int .i64 a0_1, .int .i64 a0_2, .int .i64 a0_3, .slice A0_4 l0_4.length c0_4] 29 (0, 0)) z22) : gb238 ≠ gb236)); have NB237_238 := Aside0.mk ((by rw [hg]; exact Nat.ne_of_lt (blk_lt (g := gb237) (o := .cells #[.slice none 0 0, .int .i64 0, .int .i64 0, .int .i64 0, .slice none 0 0] 29 (0, 0)) z34) : gb237 ≠ gb238)); have NB238_237 := Aside0.mk ((by rw [hg]; exact Nat.ne_of_gt (blk_lt (g := gb237) (o := .cells #[.slice none 0 0, .int .i64 0, .int .i64 0, .int .i64 0, .slice none 0 0] 29 (0, 0)) z34) : gb238 ≠ gb237)); replace BK236 := Aside0.mk (blk_below (g := gb236) (o := .cells #[.slice A0_0 l0_0.length c0_0, .int .i64 a0_1, .int .i64 a0_2, .int .i64 a0_3, .slice A0_4 l0_4.length c0_4] 29 (0, 0)) z22 hb); replace BK237 := Aside0.mk (blk_below (g := gb237) (o := .cells #[.slice none 0 0, .int .i64 0, .int .i64 0, .int .i64 0, .slice none 0 0] 29 (0, 0)) z34 hb); replace HB := Aside0.mk (below_step z38 hb); clear hb hbox hg; have hnb9 := NB238_236.out; have hnc9 := NB236_238.out; have hnb10 := NB238_237.out; have hnc10 := NB237_238.out; obtain ⟨hcz11_0, hcz11_1, hcz11_2, hcz11_3, hcz11_4, hfz11_0, hfz11_1, hfz11_2, hfz11_3, hfz11_4⟩ := cbf5 BK238) | ((with_reducible refine gate_dst (N := 5) rfl ?_); refine Kd.R_lit (Kd.int .i64) _ 3 ?hg (N := 5) ?hd (xs := ([] : List Int)) (inner := []) (ok := fun _ => True) (okp := fun _ => True) ?hr ?hp (fun _ hk => hk) trivial (Below.refl _ _) (Nat.le_refl _) (by simp) ?_; (case hd => rfl); (case hg => rfl); (case hr => first | (go_simp; done) | (go_simp; rfl)); (case hp => exact (Reps.none _ _)); intro v240 w12 ho13 hb hg_ hnew_; clear hg_ hnew_; (first | rw [← Ny239.out] at ho13 | (simp only [Int.reduceToNat] at ho13; rw [← Ny239.out] at ho13)); have HO241 := Aside0.mk (Kd.R_lower ho13 (below_size z12)); replace BK236 := Aside0.mk (blk_below (g := gb236) (o := .cells #[.slice A0_0 l0_0.length c0_0, .int .i64 a0_1, .int .i64 a0_2, .int .i64 a0_3, .slice A0_4 l0_4.length c0_4] 29 (0, 0)) (by (with_reducible repeat (first | refine blk_drewN ?_ _ | refine blk_drew ?_ | refine blk_alloc ?_ _)); refine blk_far ?_ NB236_238.out _; (with_reducible repeat (first | refine blk_drewN ?_ _ | refine blk_drew ?_ | refine blk_alloc ?_ _)); refine blk_far ?_ NB236_238.out _; (with_reducible repeat (first | refine blk_drewN ?_ _ | refine blk_drew ?_ | refine blk_alloc ?_ _)); refine blk_far ?_ NB236_238.out _; (with_reducible repeat (first | refine blk_drewN ?_ _ | refine blk_drew ?_ | refine blk_alloc ?_ _)); refine blk_far ?_ NB236_238.out _; (with_reducible repeat (first | refine blk_drewN ?_ _ | refine blk_drew ?_ | refine blk_alloc ?_ _)); refine blk_far ?_ NB236_238.out _; (with_reducible repeat (first | refine blk_drewN ?_ _ | refine blk_drew ?_ | refine blk_alloc ?_ _)); exact BK236.out) hb); replace BK237 := Aside0.mk (blk_below (g := gb237) (o := .cells #[.slice none 0 0, .int .i64 0, .int .i64 0, .int .i64 0, .slice none 0 0] 29 (0, 0)) (by (with_reducible repeat (first | refine blk_drewN ?_ _ | refine blk_drew ?_ | refine blk_alloc ?_ _)); refine blk_far ?_ NB237_238.out _; (with_reducible repeat (first | refine blk_drewN ?_ _ | refine blk_drew ?_ | refine blk_alloc ?_ _)); refine blk_far ?_ NB237_238.out _; (with_reducible repeat (first | refine blk_drewN ?_ _ | refine blk_drew ?_ | refine blk_alloc ?_ _)); refine blk_far ?_ NB237_238.out _; (with_reducible repeat (first | refine blk_drewN ?_ _ | refine blk_drew ?_ | refine blk_alloc ?_ _)); refine blk_far ?_ NB237_238.out _; (with_reducible repeat (first | refine blk_drewN ?_ _ | refine blk_drew ?_ | refine blk_alloc ?_ _)); refine blk_far ?_ NB237_238.out _; (with_reducible repeat (first | refine blk_drewN ?_ _ | refine blk_drew ?_ | refine blk_alloc ?_ _)); exact BK237.out) hb); replace BK238 := Aside0.mk (blk_below (g := gb238) (o := .cells #[.slice A0_0 l0_0.length c0_0, .int .i64 a0_1, .int .i64 a0_2, .int .i64 a0_3, .slice A0_4 l0_4.length c0_4] 29 (0, 0)) (by (with_reducible repeat (first | refine blk_drewN ?_ _ | refine blk_drew ?_ | refine blk_alloc ?_ _)); refine blk_put (cs := #[.slice A0_0 l0_0.length c0_0, .int .i64 a0_1, .int .i64 a0_2, .int .i64 a0_3, .slice none 0 0]) ?_ 4 _ rfl; (with_reducible repeat (first | refine blk_drewN ?_ _ | refine blk_drew ?_ | refine blk_alloc ?_ _)); refine blk_put (cs := #[.slice A0_0 l0_0.length c0_0, .int .i64 a0_1, .int .i64 a0_2, .int .i64 0, .slice none 0 0]) ?_ 3 _ rfl; (with_reducible repeat (first | refine blk_drewN ?_ _ | refine blk_drew ?_ | refine blk_alloc ?_ _)); refine blk_put (cs := #[.slice A0_0 l0_0.length c0_0, .int .i64 a0_1, .int .i64 0, .int .i64 0, .slice none 0 0]) ?_ 2 _ rfl; (with_reducible repeat (first | refine blk_drewN ?_ _ | refine blk_drew ?_ | refine blk_alloc ?_ _)); refine blk_put (cs := #[.slice A0_0 l0_0.length c0_0, .int .i64 0, .int .i64 0, .int .i64 0, .slice none 0 0]) ?_ 1 _ rfl; (with_reducible repeat (first | refine blk_drewN ?_ _ | refine blk_drew ?_ | refine blk_alloc ?_ _)); refine blk_put (cs := #[.slice none 0 0, .int .i64 0, .int .i64 0, .int .i64 0, .slice none 0 0]) ?_ 0 _ rfl; (with_reducible repeat (first | refine blk_drewN ?_ _ | refine blk_drew ?_ | refine blk_alloc ?_ _)); exact BK238.out) hb); replace HB := Aside0.mk (below_step z12 hb); clear hb ho13; obtain ⟨hcz14_0, hcz14_1, hcz14_2, hcz14_3, hcz14_4, hfz14_0, hfz14_1, hfz14_2, hfz14_3, hfz14_4⟩ := cbf5 BK236) | ((with_reducible refine gate_builtin (b := .append) (xs := #[.tmp 5, .tmp 7]) rfl ?_); at_builtin; refine Kd.R_append_rows (Kd.int .i64) (w0 := w) w.heap.size rfl (.tmp 5) (.tmp 7) 23 3 (.int .i64 0) 8 rfl Try.underlying23 info3 rfl (by decide) (by omega) v240 y239 l0_0 _ _ _ (fun _ => True) (fun _ => False) rfl rfl ?aO ?aR (fun _ _ h => h) (fun _ h => h.elim) ?aF ?aB ?aS ?aL ?_; (case aR => repeat (first | exact (Kd.C_below HR0_0.out HB.out) | (with_reducible refine Kd.C_alloc ?_ _) | (with_reducible refine Kd.C_drewN ?_ _) | (with_reducible refine Kd.C_drew ?_))); (case aB => exact z12); (case aF => exact (fun _ _ => trivial)); (case aO => exact (by (with_reducible repeat (first | apply Kd.R_alloc | apply Kd.R_drewN | apply Kd.R_drew)); exact HO241.out)); (case aS => exact (below_size z12)); (case aL => have := LMc2.out; omega); intro v243 w15 ho hb hg hat; rw [← Ny242.out] at ho; have n0_ := Aside0.mk (blk_grown (g := gb236) (o := .cells #[.slice A0_0 l0_0.length c0_0, .int .i64 a0_1, .int .i64 a0_2, .int .i64 a0_3, .slice A0_4 l0_4.length c0_4] 29 (0, 0)) z22 hg (Kd.R_ne HO241.out BK236.out (by decide))); have n1_ := Aside0.mk (blk_grown (g := gb237) (o := .cells #[.slice none 0 0, .int .i64 0, .int .i64 0, .int .i64 0, .slice none 0 0] 29 (0, 0)) z34 hg (Kd.R_ne HO241.out BK237.out (by decide))); have n2_ := Aside0.mk (blk_grown (g := gb238) (o := .cells #[.slice A0_0 l0_0.length c0_0, .int .i64 a0_1, .int .i64 a0_2, .int .i64 a0_3, .slice A0_4 l0_4.length c0_4] 29 (0, 0)) (by (with_reducible repeat (first | refine blk_drewN ?_ _ | refine blk_drew ?_ | refine blk_alloc ?_ _)); exact BK238.out) hg (Kd.R_ne HO241.out BK238.out (by decide))); have n3_ := Aside0.mk (hb); have n4_ := Aside0.mk (ho); clear BK236; clear BK237; clear BK238; clear HB; clear HO241; have BK236 := n0_; have BK237 := n1_; have BK238 := n2_; have HB := n3_; have HO244 := n4_; clear n0_ n1_ n2_ n3_ n4_; clear ho hb hg hat; obtain ⟨Ao16, co16, eo16⟩ := Kd.R_slice HO244.out; subst eo16; obtain ⟨hcz17_0, hcz17_1, hcz17_2, hcz17_3, hcz17_4, hfz17_0, hfz17_1, hfz17_2, hfz17_3, hfz17_4⟩ := cbf5 BK238) | ((with_reducible refine gate_dst (N := 10) rfl ?_); refine Kd.R_lit Kd.bool _ 4 ?hg (N := 10) ?hd (xs := ([] : List Bool)) (inner := []) (ok := fun _ => True) (okp := fun _ => True) ?hr ?hp (fun _ hk => hk) trivial (Below.refl _ _) (Nat.le_refl _) (by simp) ?_; (case hd => rfl); (case hg => rfl); (case hr => first | (go_simp; done) | (go_simp; rfl)); (case hp => exact (Reps.none _ _)); intro v246 w18 ho19 hb hg_ hnew_; clear hg_ hnew_; (first | rw [← Ny245.out] at ho19 | (simp only [Int.reduceToNat] at ho19; rw [← Ny245.out] at ho19)); have HO247 := Aside0.mk (Kd.R_lower ho19 (below_size z12)); replace HO244 := Aside0.mk (Kd.R_below (by (with_reducible repeat (first | apply Kd.R_alloc | apply Kd.R_drewN | apply Kd.R_drew)); exact (Kd.R_mono (Kd.R_far (p := ⟨gb238, 0, none⟩) (Kd.R_types HO244.out BK238.out (by decide)) (fun _ hk => hk.2) (.slice Ao16 y242.length co16)) (fun _ h_ => h_.1))) hb); replace BK236 := Aside0.mk (blk_below (g := gb236) (o := .cells #[.slice A0_0 l0_0.length c0_0, .int .i64 a0_1, .int .i64 a0_2, .int .i64 a0_3, .slice A0_4 l0_4.length c0_4] 29 (0, 0)) (by (with_reducible repeat (first | refine blk_drewN ?_ _ | refine blk_drew ?_ | refine blk_alloc ?_ _)); refine blk_far ?_ NB236_238.out _; (with_reducible repeat (first | refine blk_drewN ?_ _ | refine blk_drew ?_ | refine blk_alloc ?_ _)); exact BK236.out) hb); replace BK237 := Aside0.mk (blk_below (g := gb237) (o := .cells #[.slice none 0 0, .int .i64 0, .int .i64 0, .int .i64 0, .slice none 0 0] 29 (0, 0)) (by (with_reducible repeat (first | refine blk_drewN ?_ _ | refine blk_drew ?_ | refine blk_alloc ?_ _)); refine blk_far ?_ NB237_238.out _; (with_reducible repeat (first | refine blk_drewN ?_ _ | refine blk_drew ?_ | refine blk_alloc ?_ _)); exact BK237.out) hb); replace BK238 := Aside0.mk (blk_below (g := gb238) (o := .cells #[.slice Ao16 y242.length co16, .int .i64 a0_1, .int .i64 a0_2, .int .i64 a0_3, .slice A0_4 l0_4.length c0_4] 29 (0, 0)) (by (with_reducible repeat (first | refine blk_drewN ?_ _ | refine blk_drew ?_ | refine blk_alloc ?_ _)); refine blk_put (cs := #[.slice A0_0 l0_0.length c0_0, .int .i64 a0_1, .int .i64 a0_2, .int .i64 a0_3, .slice A0_4 l0_4.length c0_4]) ?_ 0 _ rfl; (with_reducible repeat (first | refine blk_drewN ?_ _ | refine blk_drew ?_ | refine blk_alloc ?_ _)); exact BK238.out) hb); replace HB := Aside0.mk (below_step z12 hb); clear hb ho19; obtain ⟨hcz20_0, hcz20_1, hcz20_2, hcz20_3, hcz20_4, hfz20_0, hfz20_1, hfz20_2, hfz20_3, hfz20_4⟩ := cbf5 BK236) | ((with_reducible refine gate_builtin (b := .append) (xs := #[.tmp 10, .tmp 12]) rfl ?_); at_builtin; refine Kd.R_append_rows Kd.bool (w0 := w) w.heap.size rfl (.tmp 10) (.tmp 12) 24 4 (.bool false) 1 rfl Try.underlying24 info4 rfl (by decide) (by omega) v246 y245 l0_4 _ _ _ (fun _ => True) (fun _ => False) rfl rfl ?aO ?aR (fun _ _ h => h) (fun _ h => h.elim) ?aF ?aB ?aS ?aL ?_; (case aR => repeat (first | exact (Kd.C_below HR0_4.out HB.out) | (with_reducible refine Kd.C_alloc ?_ _) | (with_reducible refine Kd.C_drewN ?_ _) | (with_reducible refine Kd.C_drew ?_))); (case aB => exact z12); (case aF => exact (fun _ _ => trivial)); (case aO => exact (by (with_reducible repeat (first | apply Kd.R_alloc | apply Kd.R_drewN | apply Kd.R_drew)); exact HO247.out)); (case aS => exact (below_size z12)); (case aL => have := LMc3.out; omega); intro v249 w21 ho hb hg hat; rw [← Ny248.out] at ho; have n0_ := Aside0.mk (blk_grown (g := gb236) (o := .cells #[.slice A0_0 l0_0.length c0_0, .int .i64 a0_1, .int .i64 a0_2, .int .i64 a0_3, .slice A0_4 l0_4.length c0_4] 29 (0, 0)) z22 hg (Kd.R_ne HO247.out BK236.out (by decide))); have n1_ := Aside0.mk (blk_grown (g := gb237) (o := .cells #[.slice none 0 0, .int .i64 0, .int .i64 0, .int .i64 0, .slice none 0 0] 29 (0, 0)) z34 hg (Kd.R_ne HO247.out BK237.out (by decide))); have n2_ := Aside0.mk (blk_grown (g := gb238) (o := .cells #[.slice Ao16 y242.length co16, .int .i64 a0_1, .int .i64 a0_2, .int .i64 a0_3, .slice A0_4 l0_4.length c0_4] 29 (0, 0)) (by (with_reducible repeat (first | refine blk_drewN ?_ _ | refine blk_drew ?_ | refine blk_alloc ?_ _)); exact BK238.out) hg (Kd.R_ne HO247.out BK238.out (by decide))); have n3_ := Aside0.mk (Kd.R_over' (by (with_reducible repeat (first | apply Kd.R_alloc | apply Kd.R_drewN | apply Kd.R_drew)); exact HO244.out) (Kd.R_typed (by (with_reducible repeat (first | apply Kd.R_alloc | apply Kd.R_drewN | apply Kd.R_drew)); exact HO247.out)) (by decide) hg); have n4_ := Aside0.mk (hb); have n5_ := Aside0.mk (ho); clear BK236; clear BK237; clear BK238; clear HO244; clear HB; clear HO247; have BK236 := n0_; have BK237 := n1_; have BK238 := n2_; have HO244 := n3_; have HB := n4_; have HO250 := n5_; clear n0_ n1_ n2_ n3_ n4_ n5_; clear ho hb hg hat; obtain ⟨Ao22, co22, eo22⟩ := Kd.R_slice HO250.out; subst eo22; obtain ⟨hcz23_0, hcz23_1, hcz23_2, hcz23_3, hcz23_4, hfz23_0, hfz23_1, hfz23_2, hfz23_3, hfz23_4⟩ := cbf5 BK238; obtain ⟨hcz24_0, hcz24_1, hcz24_2, hcz24_3, hcz24_4, hfz24_0, hfz24_1, hfz24_2, hfz24_3, hfz24_4⟩ := cbf5 BK237))
   refine bodyPost_ret (results_cell_row rfl _ _ gb237 29 #[.slice Ao16 y242.length co16, .int .i64 a0_1, .int .i64 a0_2, .int .i64 a0_3, .slice Ao22 y248.length co22] (0, 0) _ rfl (by (with_reducible repeat (first | refine blk_drewN ?_ _ | refine blk_drew ?_ | refine blk_alloc ?_ _)); refine blk_put (cs := #[.slice Ao16 y242.length co16, .int .i64 a0_1, .int .i64 a0_2, .int .i64 a0_3, .slice none 0 0]) ?_ 4 _ rfl; (with_reducible repeat (first | refine blk_drewN ?_ _ | refine blk_drew ?_ | refine blk_alloc ?_ _)); refine blk_put (cs := #[.slice Ao16 y242.length co16, .int .i64 a0_1, .int .i64 a0_2, .int .i64 0, .slice none 0 0]) ?_ 3 _ rfl; (with_reducible repeat (first | refine blk_drewN ?_ _ | refine blk_drew ?_ | refine blk_alloc ?_ _)); refine blk_put (cs := #[.slice Ao16 y242.length co16, .int .i64 a0_1, .int .i64 0, .int .i64 0, .slice none 0 0]) ?_ 2 _ rfl; (with_reducible repeat (first | refine blk_drewN ?_ _ | refine blk_drew ?_ | refine blk_alloc ?_ _)); refine blk_put (cs := #[.slice Ao16 y242.length co16, .int .i64 0, .int .i64 0, .int .i64 0, .slice none 0 0]) ?_ 1 _ rfl; (with_reducible repeat (first | refine blk_drewN ?_ _ | refine blk_drew ?_ | refine blk_alloc ?_ _)); refine blk_put (cs := #[.slice none 0 0, .int .i64 0, .int .i64 0, .int .i64 0, .slice none 0 0]) ?_ 0 _ rfl; (with_reducible repeat (first | refine blk_drewN ?_ _ | refine blk_drew ?_ | refine blk_alloc ?_ _)); refine blk_far ?_ NB237_238.out _; (with_reducible repeat (first | refine blk_drewN ?_ _ | refine blk_drew ?_ | refine blk_alloc ?_ _)); exact BK237.out) Try.underlying29 rfl (by kernel_rfl)) rfl ?_
   exact ⟨_, _, by first | rfl | (simp [errW_none, errW_some] <;> rfl) | (simp [*, errW_none, errW_some] <;> rfl), by (with_reducible repeat (first | apply Kd.R_alloc | apply Kd.R_drewN | apply Kd.R_drew)); exact Kd.R_mono (Kd.R_far (p := ⟨gb237, 4, none⟩) (Kd.R_far (p := ⟨gb237, 3, none⟩) (Kd.R_far (p := ⟨gb237, 2, none⟩) (Kd.R_far (p := ⟨gb237, 1, none⟩) (Kd.R_far (p := ⟨gb237, 0, none⟩) (Kd.R_far (p := ⟨gb238, 4, none⟩) (Kd.R_types (Kd.R_types HO244.out BK238.out (by decide)) BK237.out (by decide)) (fun _ hk => hk.1.2) (.slice Ao22 y248.length co22)) (fun _ hk => hk.2) (.slice Ao16 y242.length co16)) (fun _ hk => hk.2) (.int .i64 a0_1)) (fun _ hk => hk.2) (.int .i64 a0_2)) (fun _ hk => hk.2) (.int .i64 a0_3)) (fun _ hk => hk.2) (.slice Ao22 y248.length co22)) (fun _ hk => trivial), by (with_reducible repeat (first | apply Kd.R_alloc | apply Kd.R_drewN | apply Kd.R_drew)); exact Kd.R_mono (Kd.R_far (p := ⟨gb237, 4, none⟩) (Kd.R_far (p := ⟨gb237, 3, none⟩) (Kd.R_far (p := ⟨gb237, 2, none⟩) (Kd.R_far (p := ⟨gb237, 1, none⟩) (Kd.R_far (p := ⟨gb237, 0, none⟩) (Kd.R_far (p := ⟨gb238, 4, none⟩) (Kd.R_types (Kd.R_types HO250.out BK238.out (by decide)) BK237.out (by decide)) (fun _ hk => hk.1.2) (.slice Ao22 y248.length co22)) (fun _ hk => hk.2) (.slice Ao16 y242.length co16)) (fun _ hk => hk.2) (.int .i64 a0_1)) (fun _ hk => hk.2) (.int .i64 a0_2)) (fun _ hk => hk.2) (.int .i64 a0_3)) (fun _ hk => hk.2) (.slice Ao22 y248.length co22)) (fun _ hk => trivial), by repeat (first | (with_reducible first | exact HB.out | apply below_alloc | apply pw_below_drewN | apply below_drew1 | refine below_set ?_ GE236.out | refine below_set ?_ GE237.out | refine below_set ?_ GE238.out) | exact HB.out)⟩
  ·rw [if_neg c3] at H
   exact absurd H (by simp)
 ·rw [if_neg c2] at H
  exact absurd H (by simp)
end Go.Proofs.Ytmniglgahodghaa.K
namespace Go.Proofs.Ytmniglgahodghaa.K
open Go.RowKit Go.Proofs.YtmniglgahodghaaW.PrintWords Go.Proofs.YtmniglgahodghaaW.PrintLast Go.Proofs.YtmniglgahodghaaW.PrintMore
attribute [local go_sem] max2_int min2_int max_two min_two max_three min_three max_four min_four
set_option linter.unusedVariables false
set_option linter.unusedSimpArgs false
def sput_end (k : Nat) (ok : Bool) (m_0 : List Int) (y t o : Int) (m_4 : List Bool) (x v : Int) (ref : Bool) : Option (List Int × Int × Int × Int × List Bool × Bool) :=
  if ok = true then (spec_l21Copy.f m_0 y t o m_4).bind fun c => (spec_l21Put.f c.1 c.2.1 c.2.2.1 c.2.2.2.1 c.2.2.2.2 x v ref).bind fun p => some (p.1, p.2.1, p.2.2.1, p.2.2.2.1, p.2.2.2.2, true) else some ([], 0, 0, 0, [], false)
def spec_MemPut.f (k : Nat) (l0 : List (S69)) (l1_0 : List Int) (a1_1 : Int) (a1_2 : Int) (a1_3 : Int) (l1_4 : List Bool) (a2 a3 a4 : Int) : Option (List Int × Int × Int × Int × List Bool × Bool) :=
 (spec_MemOk.f k l0 l1_0 a1_1 a1_2 a1_3 l1_4).bind fun b => if b = true then (spec_l21Inside.f k l0 l1_0 a1_1 a1_2 a1_3 l1_4 a2 a3).bind fun i => if i.2 = true then (spec_l21Refs.f k l0 l1_0 (wrap64 (a2 - 1))).bind fun R =>
  if 0 ≤ wrap64 (wrap64 (i.1 - a2) + 1) ∧ wrap64 (wrap64 (i.1 - a2) + 1) < (R.length : Int) then (spec_l21Walk.f k l0 l1_0 a1_1 a1_2 a1_3 l1_4).bind fun W =>
   if rdOf false R (wrap64 (wrap64 (i.1 - a2) + 1)) = true then (spec_l21Starts.f k (l1_0.length : Int) W.1).bind fun T => (spec_l21Lead.f T a4).bind fun ld => sput_end k ld l1_0 a1_1 a1_2 a1_3 l1_4 i.1 a4 true
   else (spec_l1Word.f a4).bind fun z => sput_end k z l1_0 a1_1 a1_2 a1_3 l1_4 i.1 a4 false
  else none
 else some ([], 0, 0, 0, [], false) else some ([], 0, 0, 0, [], false)
theorem sput_zero {r1 : List Int} {r2 r3 r4 : Int} {r5 : List Bool} {r6 : Bool} (h : some (([] : List Int), (0 : Int), (0 : Int), (0 : Int), ([] : List Bool), false) = some (r1, r2, r3, r4, r5, r6)) : [] = r1 ∧ 0 = r2 ∧ 0 = r3 ∧ 0 = r4 ∧ [] = r5 ∧ false = r6 := by
  simpa only [Option.some.injEq, Prod.mk.injEq] using h
set_option maxHeartbeats 16000000 in
set_option maxRecDepth 100000 in
theorem spec_MemPut.calls (k : Nat) (A0 : Option Addr) (c0 : Nat) (l0 : List (S69)) (A1_0 : Option Addr) (c1_0 : Nat) (l1_0 : List Int) (a1_1 : Int) (a1_2 : Int) (a1_3 : Int) (A1_4 : Option Addr) (c1_4 : Nat) (l1_4 : List Bool) (a2 a3 a4 : Int) (r1 : List Int) (r2 r3 r4 : Int) (r5 : List Bool) (r6 : Bool) (w : World) (hr0 : Kd.C k69 w A0 l0.length l0) (hc0 : l0.length ≤ c0) (hr1_0 : Kd.C (Kd.int .i64) w A1_0 l1_0.length l1_0) (hc1_0 : l1_0.length ≤ c1_0) (hr1_4 : Kd.C Kd.bool w A1_4 l1_4.length l1_4) (hc1_4 : l1_4.length ≤ c1_4) (h : spec_MemPut.f k l0 l1_0 a1_1 a1_2 a1_3 l1_4 a2 a3 a4 = some (r1, r2, r3, r4, r5, r6)) :
  Calls Try.prog 9 #[.slice A0 l0.length c0, .agg #[.slice A1_0 l1_0.length c1_0, .int .i64 a1_1, .int .i64 a1_2, .int .i64 a1_3, .slice A1_4 l1_4.length c1_4], .int .i64 a2, .int .i64 a3, .int .i64 a4] w fun e w' => ∃ v0_ v4_ : Value, e = .returned (.tuple #[.agg #[v0_, .int .i64 r2, .int .i64 r3, .int .i64 r4, v4_], .bool r6]) ∧ Kd.R (Kd.int .i64) 3 w' w.heap.size (fun _ => True) v0_ r1 ∧ Kd.R Kd.bool 4 w' w.heap.size (fun _ => True) v4_ r5 ∧ Below w.heap.size w w' := by
 unfold spec_MemPut.f at h
 have HR0 := Aside0.mk hr0
 have HC0 := Aside0.mk hc0
 have HR1 := Aside0.mk hr1_0
 have HC1 := Aside0.mk hc1_0
 have HR4 := Aside0.mk hr1_4
 have HC4 := Aside0.mk hc1_4
 have HB := Aside0.mk (below_alloc (below_alloc (Below.refl w.heap.size w) (.cells #[.slice A1_0 l1_0.length c1_0, .int .i64 a1_1, .int .i64 a1_2, .int .i64 a1_3, .slice A1_4 l1_4.length c1_4] 29 (0, 0))) (.cells #[.slice none 0 0, .int .i64 0, .int .i64 0, .int .i64 0, .slice none 0 0] 29 (0, 0)))
 have BM := Aside0.mk (blk_alloc (blk_new w (.cells #[.slice A1_0 l1_0.length c1_0, .int .i64 a1_1, .int .i64 a1_2, .int .i64 a1_3, .slice A1_4 l1_4.length c1_4] 29 (0, 0))) (.cells #[.slice none 0 0, .int .i64 0, .int .i64 0, .int .i64 0, .slice none 0 0] 29 (0, 0)))
 have BR := Aside0.mk (alloc_two w (.cells #[.slice A1_0 l1_0.length c1_0, .int .i64 a1_1, .int .i64 a1_2, .int .i64 a1_3, .slice A1_4 l1_4.length c1_4] 29 (0, 0)) (.cells #[.slice none 0 0, .int .i64 0, .int .i64 0, .int .i64 0, .slice none 0 0] 29 (0, 0)))
 obtain ⟨b, h1, h⟩ := Option.bind_eq_some_iff.mp h
 have H1 := Aside0.mk h1
 have HH := Aside0.mk h
 clear hr0 hc0 hr1_0 hc1_0 hr1_4 hc1_4 h h1
 go_enter Try.func9, Try.ntmps9
 go_wp2_with fail
 go_at_call 34
 refine (spec_MemOk.calls k A0 c0 l0 A1_0 c1_0 l1_0 a1_1 a1_2 a1_3 A1_4 c1_4 l1_4 b _ (Kd.C_below HR0.out HB.out) HC0.out (Kd.C_below HR1.out HB.out) HC1.out (Kd.C_below HR4.out HB.out) HC4.out H1.out).mono ?_
 rintro e w2 ⟨rfl, hb⟩
 replace HB := Aside0.mk (below_step HB.out hb)
 replace BM := Aside0.mk (blk_below BM.out hb)
 replace BR := Aside0.mk (blk_below BR.out hb)
 clear hb
 cases b with
 | false =>
  have hz := HH.out
  obtain ⟨rfl, rfl, rfl, rfl, rfl, rfl⟩ := sput_zero hz
  have z0 := (blk_cell BR.out 0).trans rfl; have z1 := (blk_cell BR.out 1).trans rfl; have z2 := (blk_cell BR.out 2).trans rfl; have z3 := (blk_cell BR.out 3).trans rfl; have z4 := (blk_cell BR.out 4).trans rfl
  have y0 := blk_frozen BR.out 0; have y1 := blk_frozen BR.out 1; have y2 := blk_frozen BR.out 2; have y3 := blk_frozen BR.out 3; have y4 := blk_frozen BR.out 4
  go_wp2
  refine bodyPost_ret (results_ct rfl _ _ (w.heap.size + 1) 29 #[.slice none 0 0, .int .i64 0, .int .i64 0, .int .i64 0, .slice none 0 0] (0, 0) _ rfl (blk_box5 BR.out) Try.underlying29 rfl (by kernel_rfl)) rfl ?_
  exact ⟨_, _, rfl, Kd.R_nil _ _ _ _ _, Kd.R_nil _ _ _ _ _, below_box5 HB.out (by omega)⟩
 | true =>
  have hh := HH.out
  clear HH
  rw [if_pos rfl] at hh
  obtain ⟨⟨x, i2⟩, h2, hh⟩ := Option.bind_eq_some_iff.mp hh
  have H2 := Aside0.mk h2
  have HH := Aside0.mk hh
  clear h2 hh
  have m0 := (blk_cell BM.out 0).trans rfl; have m1 := (blk_cell BM.out 1).trans rfl; have m2 := (blk_cell BM.out 2).trans rfl; have m3 := (blk_cell BM.out 3).trans rfl; have m4 := (blk_cell BM.out 4).trans rfl
  go_wp2_with fail
  go_at_call 35
  refine (spec_l21Inside.calls k A0 c0 l0 A1_0 c1_0 l1_0 a1_1 a1_2 a1_3 A1_4 c1_4 l1_4 a2 a3 x i2 _ (Kd.C_below HR0.out HB.out) HC0.out (Kd.C_below HR1.out HB.out) HC1.out (Kd.C_below HR4.out HB.out) HC4.out H2.out).mono ?_
  rintro e w2 ⟨rfl, hb⟩
  clear m0 m1 m2 m3 m4
  replace HB := Aside0.mk (below_step HB.out hb)
  replace BM := Aside0.mk (blk_below BM.out hb)
  replace BR := Aside0.mk (blk_below BR.out hb)
  clear hb
  cases i2 with
  | false =>
   have hz := HH.out
   obtain ⟨rfl, rfl, rfl, rfl, rfl, rfl⟩ := sput_zero hz
   have z0 := (blk_cell BR.out 0).trans rfl; have z1 := (blk_cell BR.out 1).trans rfl; have z2 := (blk_cell BR.out 2).trans rfl; have z3 := (blk_cell BR.out 3).trans rfl; have z4 := (blk_cell BR.out 4).trans rfl
   have y0 := blk_frozen BR.out 0; have y1 := blk_frozen BR.out 1; have y2 := blk_frozen BR.out 2; have y3 := blk_frozen BR.out 3; have y4 := blk_frozen BR.out 4
   go_wp2
   refine bodyPost_ret (results_ct rfl _ _ (w.heap.size + 1) 29 #[.slice none 0 0, .int .i64 0, .int .i64 0, .int .i64 0, .slice none 0 0] (0, 0) _ rfl (blk_box5 BR.out) Try.underlying29 rfl (by kernel_rfl)) rfl ?_
   exact ⟨_, _, rfl, Kd.R_nil _ _ _ _ _, Kd.R_nil _ _ _ _ _, below_box5 HB.out (by omega)⟩
  | true =>
   have hh := HH.out
   clear HH
   rw [if_pos rfl] at hh
   obtain ⟨R, h3, hh⟩ := Option.bind_eq_some_iff.mp hh
   have H3 := Aside0.mk h3
   split at hh
   case isFalse => simp at hh
   case isTrue hj =>
   obtain ⟨⟨W, W2⟩, h4, hh⟩ := Option.bind_eq_some_iff.mp hh
   have H4 := Aside0.mk h4
   dsimp only at hj hh
   obtain ⟨j, hjj⟩ : ∃ j, j = wrap64 (wrap64 (x - a2) + 1) := ⟨_, rfl⟩
   rw [← hjj] at hj hh
   have q1 : IntKind.i64.wrap (wrap64 (x - a2) + 1) = j := (i64_w _).trans hjj.symm
   have HJ := Aside0.mk hj
   have HH := Aside0.mk hh
   clear h3 h4 hh hj hjj
   have m0 := (blk_cell BM.out 0).trans rfl; have m1 := (blk_cell BM.out 1).trans rfl; have m2 := (blk_cell BM.out 2).trans rfl; have m3 := (blk_cell BM.out 3).trans rfl; have m4 := (blk_cell BM.out 4).trans rfl
   go_wp2_with fail
   go_at_call 36
   refine (spec_l21Refs.calls k A0 c0 l0 A1_0 c1_0 l1_0 (wrap64 (a2 - 1)) R _ (Kd.C_below HR0.out HB.out) HC0.out (Kd.C_below HR1.out HB.out) HC1.out H3.out).mono ?_
   rintro e w2 ⟨vR, rfl, hR, hb⟩
   clear m0 m1 m2 m3 m4
   replace HB := Aside0.mk (below_step HB.out hb)
   replace BM := Aside0.mk (blk_below BM.out hb)
   replace BR := Aside0.mk (blk_below BR.out hb)
   clear hb
   have HRf := Aside0.mk hR
   obtain ⟨gR, cR, hv, _⟩ := Kd.R_form hR (by have := HJ.out; omega)
   subst hv
   obtain ⟨xq, _⟩ := Kd.R_cell (enc := Value.bool) (h1 := fun _ => rfl) false hR j HJ.out.1 HJ.out.2
   clear hR
   have p1 := eq_true HJ.out.1
   have p2 := eq_true HJ.out.2
   obtain ⟨d, hd⟩ : ∃ d, d = rdOf false R j := ⟨_, rfl⟩
   have hh := HH.out
   clear HH
   rw [← hd] at hh xq
   clear hd
   have m0 := (blk_cell BM.out 0).trans rfl; have m1 := (blk_cell BM.out 1).trans rfl; have m2 := (blk_cell BM.out 2).trans rfl; have m3 := (blk_cell BM.out 3).trans rfl; have m4 := (blk_cell BM.out 4).trans rfl
   go_wp2_with fail
   go_at_call 37
   refine (spec_l21Walk.calls k A0 c0 l0 A1_0 c1_0 l1_0 a1_1 a1_2 a1_3 A1_4 c1_4 l1_4 W W2 _ (Kd.C_below HR0.out HB.out) HC0.out (Kd.C_below HR1.out HB.out) HC1.out (Kd.C_below HR4.out HB.out) HC4.out H4.out).mono ?_
   rintro e w2 ⟨vW, rfl, hW, hb⟩
   clear m0 m1 m2 m3 m4
   replace HB := Aside0.mk (below_step HB.out hb)
   replace BM := Aside0.mk (blk_below BM.out hb)
   replace BR := Aside0.mk (blk_below BR.out hb)
   clear hb
   have HWl := Aside0.mk hW
   obtain ⟨AW, cW, rfl⟩ := Kd.R_slice hW
   clear hW xq p1 p2 HRf
   cases d with
   | true =>
    rw [if_pos rfl] at hh
    obtain ⟨T, h5, hh⟩ := Option.bind_eq_some_iff.mp hh
    obtain ⟨ld, h6, hh⟩ := Option.bind_eq_some_iff.mp hh
    have H5 := Aside0.mk h5
    have H6 := Aside0.mk h6
    have HH := Aside0.mk hh
    clear h5 h6 hh
    have m0 := (blk_cell BM.out 0).trans rfl; have m1 := (blk_cell BM.out 1).trans rfl; have m2 := (blk_cell BM.out 2).trans rfl; have m3 := (blk_cell BM.out 3).trans rfl; have m4 := (blk_cell BM.out 4).trans rfl
    go_wp2_with fail
    go_at_call 39
    refine (spec_l21Starts.calls k (l1_0.length : Int) AW cW W T _ (Kd.R_reads' HWl.out).2.2 (Kd.R_reads' HWl.out).2.1 H5.out).mono ?_
    rintro e w2 ⟨vT, rfl, hT, hb⟩
    clear m0 m1 m2 m3 m4
    replace HB := Aside0.mk (below_step HB.out hb)
    replace BM := Aside0.mk (blk_below BM.out hb)
    replace BR := Aside0.mk (blk_below BR.out hb)
    clear hb
    have HTl := Aside0.mk hT
    obtain ⟨AT, cT, rfl⟩ := Kd.R_slice hT
    clear hT
    have m0 := (blk_cell BM.out 0).trans rfl; have m1 := (blk_cell BM.out 1).trans rfl; have m2 := (blk_cell BM.out 2).trans rfl; have m3 := (blk_cell BM.out 3).trans rfl; have m4 := (blk_cell BM.out 4).trans rfl
    go_wp2_with fail
    go_at_call 38
    refine (spec_l21Lead.calls AT cT T a4 ld _ (Kd.R_reads' HTl.out).2.2 (Kd.R_reads' HTl.out).2.1 H6.out).mono ?_
    rintro e w2 ⟨rfl, hd_⟩
    have hb := hd_.below
    clear hd_
    clear m0 m1 m2 m3 m4
    replace HB := Aside0.mk (below_step HB.out hb)
    replace BM := Aside0.mk (blk_below BM.out hb)
    replace BR := Aside0.mk (blk_below BR.out hb)
    clear hb
    cases ld with
    | false =>
     have HH' := Aside0.mk (show some (([] : List Int), (0 : Int), (0 : Int), (0 : Int), ([] : List Bool), false) = some (r1, r2, r3, r4, r5, r6) from HH.out)
     clear HH
     have HH := HH'
     have hz := HH.out
     obtain ⟨rfl, rfl, rfl, rfl, rfl, rfl⟩ := sput_zero hz
     have z0 := (blk_cell BR.out 0).trans rfl; have z1 := (blk_cell BR.out 1).trans rfl; have z2 := (blk_cell BR.out 2).trans rfl; have z3 := (blk_cell BR.out 3).trans rfl; have z4 := (blk_cell BR.out 4).trans rfl
     have y0 := blk_frozen BR.out 0; have y1 := blk_frozen BR.out 1; have y2 := blk_frozen BR.out 2; have y3 := blk_frozen BR.out 3; have y4 := blk_frozen BR.out 4
     go_wp2
     refine bodyPost_ret (results_ct rfl _ _ (w.heap.size + 1) 29 #[.slice none 0 0, .int .i64 0, .int .i64 0, .int .i64 0, .slice none 0 0] (0, 0) _ rfl (blk_box5 BR.out) Try.underlying29 rfl (by kernel_rfl)) rfl ?_
     exact ⟨_, _, rfl, Kd.R_nil _ _ _ _ _, Kd.R_nil _ _ _ _ _, below_box5 HB.out (by omega)⟩
    | true =>
     have hh := HH.out
     clear HH
     unfold sput_end at hh
     rw [if_pos rfl] at hh
     obtain ⟨⟨n1, n2, n3, n4, n5⟩, h7, hh⟩ := Option.bind_eq_some_iff.mp hh
     obtain ⟨⟨u1, u2, u3, u4, u5⟩, h8, hh⟩ := Option.bind_eq_some_iff.mp hh
     have H7 := Aside0.mk h7
     have H8 := Aside0.mk h8
     simp only [Option.some.injEq, Prod.mk.injEq] at hh
     obtain ⟨rfl, rfl, rfl, rfl, rfl, rfl⟩ := hh
     clear h7 h8
     have HG := Aside0.mk (show w.heap.size + 1 < w2.heap.size from blk_lt BR.out)
     have HBc := Aside0.mk HB.out
     have BRc := Aside0.mk BR.out
     have wc_ := w2
     have m0 := (blk_cell BM.out 0).trans rfl; have m1 := (blk_cell BM.out 1).trans rfl; have m2 := (blk_cell BM.out 2).trans rfl; have m3 := (blk_cell BM.out 3).trans rfl; have m4 := (blk_cell BM.out 4).trans rfl
     go_wp2_with fail
     go_at_call 42
     refine (spec_l21Copy.calls A1_0 c1_0 l1_0 a1_1 a1_2 a1_3 A1_4 c1_4 l1_4 n1 n2 n3 n4 n5 _ (Kd.C_below HR1.out HB.out) HC1.out (Kd.C_below HR4.out HB.out) HC4.out H7.out).mono ?_
     rintro e w3 ⟨vc0, vc4, rfl, hc0, hc4, hb⟩
     clear m0 m1 m2 m3 m4
     have BR3 := Aside0.mk (blk_below BR.out hb)
     have HB3 := Aside0.mk (below_step HB.out hb)
     have Hc0 := Aside0.mk hc0
     have Hc4 := Aside0.mk hc4
     have hb2 := hb
     clear hc0 hc4 BRc HBc wc_
     go_wp2_with fail
     go_at_call 41
     refine (spec_l21Put.calls (fun _ => True) vc0 n1 n2 n3 n4 (fun _ => True) vc4 n5 x a4 true u1 u2 u3 u4 u5 w2 _ hb2 Hc0.out Hc4.out H8.out).mono ?_
     rintro e w4 ⟨vp0, vp4, rfl, hp0, hp4, hb4, _⟩
     have BR4 := Aside0.mk ((hb4.block _ (blk_lt BR.out)).trans BR.out)
     have HB4 := Aside0.mk (below_step HB.out hb4)
     have Hp0 := Aside0.mk hp0
     have Hp4 := Aside0.mk hp4
     obtain ⟨Ap0, cp0, rfl⟩ := Kd.R_slice hp0
     obtain ⟨Ap4, cp4, rfl⟩ := Kd.R_slice hp4
     clear hp0 hp4 hb hb2 hb4 BR3 HB3 Hc0 Hc4
     have z0 := (blk_cell BR4.out 0).trans rfl; have z1 := (blk_cell BR4.out 1).trans rfl; have z2 := (blk_cell BR4.out 2).trans rfl; have z3 := (blk_cell BR4.out 3).trans rfl; have z4 := (blk_cell BR4.out 4).trans rfl
     have y0 := blk_frozen BR4.out 0; have y1 := blk_frozen BR4.out 1; have y2 := blk_frozen BR4.out 2; have y3 := blk_frozen BR4.out 3; have y4 := blk_frozen BR4.out 4
     go_wp2
     refine bodyPost_ret (results_ct rfl _ _ (w.heap.size + 1) 29 #[.slice Ap0 u1.length cp0, .int .i64 u2, .int .i64 u3, .int .i64 u4, .slice Ap4 u5.length cp4] (0, 0) _ rfl (blk_box5 BR4.out) Try.underlying29 rfl (by kernel_rfl)) rfl ?_
     exact ⟨_, _, rfl, R_box5 Hp0.out HG.out (by have := HG.out; omega), R_box5 Hp4.out HG.out (by have := HG.out; omega), below_box5 HB4.out (by omega)⟩
   | false =>
    rw [if_neg (by simp)] at hh
    obtain ⟨z, h6, hh⟩ := Option.bind_eq_some_iff.mp hh
    have H6 := Aside0.mk h6
    have HH := Aside0.mk hh
    clear h6 hh
    have m0 := (blk_cell BM.out 0).trans rfl; have m1 := (blk_cell BM.out 1).trans rfl; have m2 := (blk_cell BM.out 2).trans rfl; have m3 := (blk_cell BM.out 3).trans rfl; have m4 := (blk_cell BM.out 4).trans rfl
    go_wp2_with fail
    go_at_call 40
    refine (spec_l1Word.calls a4 z _ H6.out).mono ?_
    rintro e w2 ⟨rfl, hd_⟩
    have hb := hd_.below
    clear hd_
    clear m0 m1 m2 m3 m4
    replace HB := Aside0.mk (below_step HB.out hb)
    replace BM := Aside0.mk (blk_below BM.out hb)
    replace BR := Aside0.mk (blk_below BR.out hb)
    clear hb
    cases z with
    | false =>
     have HH' := Aside0.mk (show some (([] : List Int), (0 : Int), (0 : Int), (0 : Int), ([] : List Bool), false) = some (r1, r2, r3, r4, r5, r6) from HH.out)
     clear HH
     have HH := HH'
     have hz := HH.out
     obtain ⟨rfl, rfl, rfl, rfl, rfl, rfl⟩ := sput_zero hz
     have z0 := (blk_cell BR.out 0).trans rfl; have z1 := (blk_cell BR.out 1).trans rfl; have z2 := (blk_cell BR.out 2).trans rfl; have z3 := (blk_cell BR.out 3).trans rfl; have z4 := (blk_cell BR.out 4).trans rfl
     have y0 := blk_frozen BR.out 0; have y1 := blk_frozen BR.out 1; have y2 := blk_frozen BR.out 2; have y3 := blk_frozen BR.out 3; have y4 := blk_frozen BR.out 4
     go_wp2
     refine bodyPost_ret (results_ct rfl _ _ (w.heap.size + 1) 29 #[.slice none 0 0, .int .i64 0, .int .i64 0, .int .i64 0, .slice none 0 0] (0, 0) _ rfl (blk_box5 BR.out) Try.underlying29 rfl (by kernel_rfl)) rfl ?_
     exact ⟨_, _, rfl, Kd.R_nil _ _ _ _ _, Kd.R_nil _ _ _ _ _, below_box5 HB.out (by omega)⟩
    | true =>
     have hh := HH.out
     clear HH
     unfold sput_end at hh
     rw [if_pos rfl] at hh
     obtain ⟨⟨n1, n2, n3, n4, n5⟩, h7, hh⟩ := Option.bind_eq_some_iff.mp hh
     obtain ⟨⟨u1, u2, u3, u4, u5⟩, h8, hh⟩ := Option.bind_eq_some_iff.mp hh
     have H7 := Aside0.mk h7
     have H8 := Aside0.mk h8
     simp only [Option.some.injEq, Prod.mk.injEq] at hh
     obtain ⟨rfl, rfl, rfl, rfl, rfl, rfl⟩ := hh
     clear h7 h8
     have HG := Aside0.mk (show w.heap.size + 1 < w2.heap.size from blk_lt BR.out)
     have HBc := Aside0.mk HB.out
     have BRc := Aside0.mk BR.out
     have wc_ := w2
     have m0 := (blk_cell BM.out 0).trans rfl; have m1 := (blk_cell BM.out 1).trans rfl; have m2 := (blk_cell BM.out 2).trans rfl; have m3 := (blk_cell BM.out 3).trans rfl; have m4 := (blk_cell BM.out 4).trans rfl
     go_wp2_with fail
     go_at_call 42
     refine (spec_l21Copy.calls A1_0 c1_0 l1_0 a1_1 a1_2 a1_3 A1_4 c1_4 l1_4 n1 n2 n3 n4 n5 _ (Kd.C_below HR1.out HB.out) HC1.out (Kd.C_below HR4.out HB.out) HC4.out H7.out).mono ?_
     rintro e w3 ⟨vc0, vc4, rfl, hc0, hc4, hb⟩
     clear m0 m1 m2 m3 m4
     have BR3 := Aside0.mk (blk_below BR.out hb)
     have HB3 := Aside0.mk (below_step HB.out hb)
     have Hc0 := Aside0.mk hc0
     have Hc4 := Aside0.mk hc4
     have hb2 := hb
     clear hc0 hc4 BRc HBc wc_
     go_wp2_with fail
     go_at_call 41
     refine (spec_l21Put.calls (fun _ => True) vc0 n1 n2 n3 n4 (fun _ => True) vc4 n5 x a4 false u1 u2 u3 u4 u5 w2 _ hb2 Hc0.out Hc4.out H8.out).mono ?_
     rintro e w4 ⟨vp0, vp4, rfl, hp0, hp4, hb4, _⟩
     have BR4 := Aside0.mk ((hb4.block _ (blk_lt BR.out)).trans BR.out)
     have HB4 := Aside0.mk (below_step HB.out hb4)
     have Hp0 := Aside0.mk hp0
     have Hp4 := Aside0.mk hp4
     obtain ⟨Ap0, cp0, rfl⟩ := Kd.R_slice hp0
     obtain ⟨Ap4, cp4, rfl⟩ := Kd.R_slice hp4
     clear hp0 hp4 hb hb2 hb4 BR3 HB3 Hc0 Hc4
     have z0 := (blk_cell BR4.out 0).trans rfl; have z1 := (blk_cell BR4.out 1).trans rfl; have z2 := (blk_cell BR4.out 2).trans rfl; have z3 := (blk_cell BR4.out 3).trans rfl; have z4 := (blk_cell BR4.out 4).trans rfl
     have y0 := blk_frozen BR4.out 0; have y1 := blk_frozen BR4.out 1; have y2 := blk_frozen BR4.out 2; have y3 := blk_frozen BR4.out 3; have y4 := blk_frozen BR4.out 4
     go_wp2
     refine bodyPost_ret (results_ct rfl _ _ (w.heap.size + 1) 29 #[.slice Ap0 u1.length cp0, .int .i64 u2, .int .i64 u3, .int .i64 u4, .slice Ap4 u5.length cp4] (0, 0) _ rfl (blk_box5 BR4.out) Try.underlying29 rfl (by kernel_rfl)) rfl ?_
     exact ⟨_, _, rfl, R_box5 Hp0.out HG.out (by have := HG.out; omega), R_box5 Hp4.out HG.out (by have := HG.out; omega), below_box5 HB4.out (by omega)⟩
end Go.Proofs.Ytmniglgahodghaa.K
