import Derived.Test.YtmniglgahodghaaPs24
import Derived.Test.YtmniglgahodghaaPs27
import Derived.Test.YtmniglgahodghaaPs26
import Derived.Test.YtmniglgahodghaaPs28
namespace Go.Proofs.Ytmniglgahodghaa.K
open Go.RowKit Go.Proofs.YtmniglgahodghaaW.PrintWords Go.Proofs.YtmniglgahodghaaW.PrintLast Go.Proofs.YtmniglgahodghaaW.PrintMore
attribute [local go_sem] max2_int min2_int max_two min_two max_three min_three max_four min_four
set_option linter.unusedVariables false
set_option linter.unusedSimpArgs false
def spec_l21Obj.l0 : Nat → List Int → Int → List Bool → Int → List Int → Int → Int → Int → List Bool → Int → List (S112) → Option (Int × (List (S112)))
  | 0, _, _, _, _, _, _, _, _, _, _, _ => none
  | k + 1, x2, x3, x9, x11, x350000, x350001, x350002, x350003, x350004, x359000, x359001 => if x11 < (x9.length : Int) then (if 0 ≤ x11 then (if 0 ≤ (wrap64 (x3 + x11)) then (if (wrap64 (x3 + x11)) < (x350000.length : Int) then (if rdOf false x9 x11 = true then (if (rd x350000 (wrap64 (x3 + x11))) > 0 then (if 0 ≤ (wrap64 ((rd x350000 (wrap64 (x3 + x11))) - 1)) then (if (wrap64 ((rd x350000 (wrap64 (x3 + x11))) - 1)) < (x2.length : Int) then (if x359001.length < 8796093022208 then (spec_l21Obj.l0 k x2 x3 x9 (wrap64 (x11 + 1)) x350000 x350001 x350002 x350003 x350004 x359000 (x359001 ++ [(⟨rdOf false x9 x11, rd x2 (wrap64 ((rd x350000 (wrap64 (x3 + x11))) - 1))⟩ : S112)])) else (none)) else (none)) else (none)) else (if x359001.length < 8796093022208 then (spec_l21Obj.l0 k x2 x3 x9 (wrap64 (x11 + 1)) x350000 x350001 x350002 x350003 x350004 x359000 (x359001 ++ [(⟨rdOf false x9 x11, rd x350000 (wrap64 (x3 + x11))⟩ : S112)])) else (none))) else (if x359001.length < 8796093022208 then (spec_l21Obj.l0 k x2 x3 x9 (wrap64 (x11 + 1)) x350000 x350001 x350002 x350003 x350004 x359000 (x359001 ++ [(⟨rdOf false x9 x11, rd x350000 (wrap64 (x3 + x11))⟩ : S112)])) else (none))) else (none)) else (none)) else (none)) else (some (x359000, x359001))
def spec_l21Obj.f (k : Nat) (l0 : List (S69)) (l1_0 : List Int) (a1_1 : Int) (a1_2 : Int) (a1_3 : Int) (l1_4 : List Bool) (l2 : List Int) (a3 : Int) : Option (Int × (List (S112))) := (spec_l21Refs.f k l0 l1_0 a3).bind fun t351 => (if 0 ≤ a3 then (if a3 < (l1_0.length : Int) then ((spec_l21Head.f (rd l1_0 a3)).bind fun t359 => (spec_l21Obj.l0 k l2 a3 t351 t359 l1_0 a1_1 a1_2 a1_3 l1_4 (rd l1_0 a3) (([] : List (S112))))) else (none)) else (none))
def spec_l21Obj.T6 : Bool × List (List Nat × List Nat) := (true, [([], []), ([], []), ([0, 1], [0, 1]), ([2], [2]), ([], []), ([4], [4]), ([], []), ([], []), ([6, 7], [6, 7]), ([5, 8], [5, 8]), ([9], [9]), ([3, 10], [3, 10]), ([], []), ([12, 11, 0, 1, 2, 3, 4, 5, 6, 7, 8, 9, 10, 11, 12], [11, 12])])
def spec_l21Obj.B6 : List Nat := [0, 0, 3, 7, 0, 16, 0, 0, 192, 496, 1008, 2047, 0, 8191]
theorem spec_l21Obj.tab6 : rtab .any (opsOf Try.f88 6) = spec_l21Obj.T6 := by kernel_rfl
theorem spec_l21Obj.bits6 : waitsOk spec_l21Obj.T6.2 spec_l21Obj.B6 = true := by kernel_rfl
set_option maxHeartbeats 8000000 in
set_option maxRecDepth 100000 in
theorem spec_l21Obj.calls (k : Nat) (A0 : Option Addr) (c0 : Nat) (l0 : List (S69)) (A1_0 : Option Addr) (c1_0 : Nat) (l1_0 : List Int) (a1_1 : Int) (a1_2 : Int) (a1_3 : Int) (A1_4 : Option Addr) (c1_4 : Nat) (l1_4 : List Bool) (A2 : Option Addr) (c2 : Nat) (l2 : List Int) (a3 : Int) (r1 : Int) (r2 : List (S112)) (w : World) (hr0 : Kd.C k69 w A0 l0.length l0) (hc0 : l0.length ≤ c0) (hr1_0 : Kd.C (Kd.int .i64) w A1_0 l1_0.length l1_0) (hc1_0 : l1_0.length ≤ c1_0) (hr1_4 : Kd.C Kd.bool w A1_4 l1_4.length l1_4) (hc1_4 : l1_4.length ≤ c1_4) (hr2 : Kd.C (Kd.int .i64) w A2 l2.length l2) (hc2 : l2.length ≤ c2) (h : spec_l21Obj.f k l0 l1_0 a1_1 a1_2 a1_3 l1_4 l2 a3 = some (r1, r2)) :
  Calls Try.prog 88 #[.slice A0 l0.length c0, .agg #[.slice A1_0 l1_0.length c1_0, .int .i64 a1_1, .int .i64 a1_2, .int .i64 a1_3, .slice A1_4 l1_4.length c1_4], .slice A2 l2.length c2, .int .i64 a3] w fun e w' => ∃ v1_ : Value, e = .returned (.agg #[.int .i64 r1, v1_]) ∧ Kd.R k112 112 w' w.heap.size (fun _ => True) v1_ r2 ∧ Below w.heap.size w w' := by
 have hu29 := Try.underlying29
 have hu86 := Try.underlying86
 have hu112 := Try.underlying112
 have HR0 := Aside0.mk hr0
 have HC0 := Aside0.mk hc0
 clear hr0 hc0
 have HR1_0 := Aside0.mk hr1_0
 have HC1_0 := Aside0.mk hc1_0
 clear hr1_0 hc1_0
 have HR1_4 := Aside0.mk hr1_4
 have HC1_4 := Aside0.mk hc1_4
 clear hr1_4 hc1_4
 have HR2 := Aside0.mk hr2
 have HC2 := Aside0.mk hc2
 clear hr2 hc2
 have HB := Aside0.mk (Below.refl w.heap.size w)
 have H : ((spec_l21Refs.f k l0 l1_0 a3).bind fun t351 => (if 0 ≤ a3 then (if a3 < (l1_0.length : Int) then ((spec_l21Head.f (rd l1_0 a3)).bind fun t359 => (spec_l21Obj.l0 k l2 a3 t351 t359 l1_0 a1_1 a1_2 a1_3 l1_4 (rd l1_0 a3) (([] : List (S112))))) else (none)) else (none))) = some (r1, r2) := h
 clear h
 replace H := Option.bind_eq_some_iff.mp H
 obtain ⟨t351, A50, H⟩ := H
 try dsimp only at H
 have A5 := Aside0.mk A50
 clear A50
 by_cases c6 : 0 ≤ a3
 ·rw [if_pos c6] at H
  have c6b0 : decide (0 ≤ a3) = true := decide_eq_true c6
  clear c6
  by_cases c7 : a3 < (l1_0.length : Int)
  ·rw [if_pos c7] at H
   have c7b0 : decide (a3 < (l1_0.length : Int)) = true := decide_eq_true c7
   clear c7
   obtain ⟨y355, hy355⟩ : ∃ y_ : List (S112), y_ = (([] : List (S112))) := ⟨_, rfl⟩
   replace H : ((spec_l21Head.f (rd l1_0 a3)).bind fun t359 => (spec_l21Obj.l0 k l2 a3 t351 t359 l1_0 a1_1 a1_2 a1_3 l1_4 (rd l1_0 a3) y355)) = some (r1, r2) := by first | (rw [hy355]; with_reducible exact H) | (have H2_ := (Option.bind_some _ _).symm.trans H; rw [hy355]; with_reducible exact H2_) | (have H2_ := (Option.bind_some _ _).symm.trans H; with_reducible exact H2_) | with_reducible exact H | (rw [hy355]; exact H) | exact H
   have Ny355 := Aside0.mk hy355
   clear hy355
   replace H := Option.bind_eq_some_iff.mp H
   obtain ⟨t359, A80, H⟩ := H
   try dsimp only at H
   have A8 := Aside0.mk A80
   clear A80
   have H' := Aside0.mk H
   clear H
   go_enter Try.func88, Try.ntmps88
   go_wp2_with (first | ((with_reducible refine gate_dst (N := 5) rfl ?_); refine box_event ?hg (N := 5) ?hd (cs := #[.slice A1_0 l1_0.length c1_0, .int .i64 a1_1, .int .i64 a1_2, .int .i64 a1_3, .slice A1_4 l1_4.length c1_4]) (t := 29) ?hr ?_; (case hd => rfl); (case hg => rfl); (case hr => first | (go_simp; done) | (go_simp; rfl)); intro gb349 hg w9 hbox hb; have BK349 := Aside0.mk (hbox); have GW349 := Aside0.mk ((by rw [hg]; exact (below_size z1) : w.heap.size ≤ gb349)); have GE349 := Aside0.mk ((by rw [hg]; exact (below_size z1) : w.heap.size ≤ gb349)); replace HB := Aside0.mk (below_step z1 hb); clear hb hbox hg) | ((with_reducible refine gate_dst (N := 8) rfl ?_); refine box_event ?hg (N := 8) ?hd (cs := #[.int .i64 0, .slice none 0 0]) (t := 86) ?hr ?_; (case hd => rfl); (case hg => rfl); (case hr => first | (go_simp; done) | (go_simp; rfl)); intro gb350 hg w10 hbox hb; have BK350 := Aside0.mk (hbox); have GW350 := Aside0.mk ((by rw [hg]; exact (below_size (by repeat (first | (with_reducible first | exact HB.out | apply below_alloc | apply pw_below_drewN | apply below_drew1 | refine below_set ?_ GE349.out) | exact HB.out))) : w.heap.size ≤ gb350)); have GE350 := Aside0.mk ((by rw [hg]; exact (below_size (by repeat (first | (with_reducible first | exact HB.out | apply below_alloc | apply pw_below_drewN | apply below_drew1 | refine below_set ?_ GE349.out) | exact HB.out))) : w.heap.size ≤ gb350)); have NB349_350 := Aside0.mk ((by rw [hg]; exact Nat.ne_of_lt (blk_lt (g := gb349) (o := .cells #[.slice A1_0 l1_0.length c1_0, .int .i64 a1_1, .int .i64 a1_2, .int .i64 a1_3, .slice A1_4 l1_4.length c1_4] 29 (0, 0)) z10) : gb349 ≠ gb350)); have NB350_349 := Aside0.mk ((by rw [hg]; exact Nat.ne_of_gt (blk_lt (g := gb349) (o := .cells #[.slice A1_0 l1_0.length c1_0, .int .i64 a1_1, .int .i64 a1_2, .int .i64 a1_3, .slice A1_4 l1_4.length c1_4] 29 (0, 0)) z10) : gb350 ≠ gb349)); replace BK349 := Aside0.mk (blk_below (g := gb349) (o := .cells #[.slice A1_0 l1_0.length c1_0, .int .i64 a1_1, .int .i64 a1_2, .int .i64 a1_3, .slice A1_4 l1_4.length c1_4] 29 (0, 0)) z10 hb); replace HB := Aside0.mk (below_step (by repeat (first | (with_reducible first | exact HB.out | apply below_alloc | apply pw_below_drewN | apply below_drew1 | refine below_set ?_ GE349.out) | exact HB.out)) hb); clear hb hbox hg; have hnb11 := NB349_350.out; have hnc11 := NB350_349.out; obtain ⟨hcz12_0, hcz12_1, hcz12_2, hcz12_3, hcz12_4, hfz12_0, hfz12_1, hfz12_2, hfz12_3, hfz12_4⟩ := cbf5 BK349) | ((with_reducible refine gate_callee (f := 36) rfl ?_); refine goesL_ (some 17) rfl rfl Try.func36 (by kernel_rfl) rfl #[.slice A0 l0.length c0, .slice A1_0 l1_0.length c1_0, .int .i64 a3] rfl z2 ?_; (with_reducible refine (spec_l21Refs.calls k _ _ l0 _ _ l1_0 a3 t351 _ ?side1 ?side2 ?side3 ?side4 A5.out).mono ?_); (case side1 => repeat (first | exact (Kd.C_below HR0.out HB.out) | (with_reducible refine Kd.C_alloc ?_ _) | (with_reducible refine Kd.C_drewN ?_ _) | (with_reducible refine Kd.C_drew ?_))); (case side2 => exact HC0.out); (case side3 => repeat (first | exact (Kd.C_below HR1_0.out HB.out) | (with_reducible refine Kd.C_alloc ?_ _) | (with_reducible refine Kd.C_drewN ?_ _) | (with_reducible refine Kd.C_drew ?_))); (case side4 => exact HC1_0.out); rintro e w13 ⟨v352, rfl, ho0, hb⟩; refine ⟨_, rfl, ?_⟩; have HO353 := Aside0.mk (Kd.R_lower ho0 (below_size z24)); replace BK349 := Aside0.mk (blk_below (g := gb349) (o := .cells #[.slice A1_0 l1_0.length c1_0, .int .i64 a1_1, .int .i64 a1_2, .int .i64 a1_3, .slice A1_4 l1_4.length c1_4] 29 (0, 0)) z10 hb); replace BK350 := Aside0.mk (blk_below (g := gb350) (o := .cells #[.int .i64 0, .slice none 0 0] 86 (0, 0)) z16 hb); replace HB := Aside0.mk (below_step z24 hb); (try clear hb); (try clear hb2); (try clear hk); (try clear hi); (try clear ho0); obtain ⟨hcz14_0, hcz14_1, hcz14_2, hcz14_3, hcz14_4, hfz14_0, hfz14_1, hfz14_2, hfz14_3, hfz14_4⟩ := cbf5 BK349; have p354 : 0 ≤ (a3 : Int) := of_decide_eq_true z3; have q354 : a3 < (l1_0.length : Int) := of_decide_eq_true z3; obtain ⟨ad354, e354, hx354_0⟩ := Kd.at_int HR1_0.out a3 p354 q354; cases e354; replace hx354_0 := (HB.out.cell (World.block_lt_of_cell? w _ hx354_0)).trans hx354_0; replace p354 := eq_true p354; replace q354 := eq_true q354) | ((with_reducible refine gate_dst (N := 23) rfl ?_); refine Kd.R_lit k112 _ 112 ?hg (N := 23) ?hd (xs := ([] : List (S112))) (inner := []) (ok := fun _ => True) (okp := fun _ => True) ?hr ?hp (fun _ hk => hk) trivial (Below.refl _ _) (Nat.le_refl _) (by simp) ?_; (case hd => rfl); (case hg => rfl); (case hr => first | (go_simp; done) | (go_simp; rfl)); (case hp => exact (Reps.none _ _)); intro v356 w15 ho16 hb hg_ hnew_; clear hg_ hnew_; (first | rw [← Ny355.out] at ho16 | (simp only [Int.reduceToNat] at ho16; rw [← Ny355.out] at ho16)); have HO357 := Aside0.mk (Kd.R_lower ho16 (below_size z24)); replace HO353 := Aside0.mk (Kd.R_below (by (with_reducible repeat (first | apply Kd.R_alloc | apply Kd.R_drewN | apply Kd.R_drew)); exact HO353.out) hb); replace BK349 := Aside0.mk (blk_below (g := gb349) (o := .cells #[.slice (some ad354) l1_0.length c1_0, .int .i64 a1_1, .int .i64 a1_2, .int .i64 a1_3, .slice A1_4 l1_4.length c1_4] 29 (0, 0)) z10 hb); replace BK350 := Aside0.mk (blk_below (g := gb350) (o := .cells #[.int .i64 0, .slice none 0 0] 86 (0, 0)) z16 hb); replace HB := Aside0.mk (below_step z24 hb); clear hb ho16; obtain ⟨Ao17, co17, eo17⟩ := Kd.R_slice HO357.out; subst eo17) | ((with_reducible refine gate_dst (N := 10) rfl ?_); refine box_event ?hg (N := 10) ?hd (cs := #[.int .i64 0, .slice none 0 0]) (t := 86) ?hr ?_; (case hd => rfl); (case hg => rfl); (case hr => first | (go_simp; done) | (go_simp; rfl)); intro gb358 hg w18 hbox hb; have BK358 := Aside0.mk (hbox); have GW358 := Aside0.mk ((by rw [hg]; exact (below_size z24) : w.heap.size ≤ gb358)); have GE358 := Aside0.mk ((by rw [hg]; exact (below_size z24) : w.heap.size ≤ gb358)); have NB349_358 := Aside0.mk ((by rw [hg]; exact Nat.ne_of_lt (blk_lt (g := gb349) (o := .cells #[.slice (some ad354) l1_0.length c1_0, .int .i64 a1_1, .int .i64 a1_2, .int .i64 a1_3, .slice A1_4 l1_4.length c1_4] 29 (0, 0)) z10) : gb349 ≠ gb358)); have NB358_349 := Aside0.mk ((by rw [hg]; exact Nat.ne_of_gt (blk_lt (g := gb349) (o := .cells #[.slice (some ad354) l1_0.length c1_0, .int .i64 a1_1, .int .i64 a1_2, .int .i64 a1_3, .slice A1_4 l1_4.length c1_4] 29 (0, 0)) z10) : gb358 ≠ gb349)); have NB350_358 := Aside0.mk ((by rw [hg]; exact Nat.ne_of_lt (blk_lt (g := gb350) (o := .cells #[.int .i64 0, .slice none 0 0] 86 (0, 0)) z16) : gb350 ≠ gb358)); have NB358_350 := Aside0.mk ((by rw [hg]; exact Nat.ne_of_gt (blk_lt (g := gb350) (o := .cells #[.int .i64 0, .slice none 0 0] 86 (0, 0)) z16) : gb358 ≠ gb350)); replace HO353 := Aside0.mk (Kd.R_below (by (with_reducible repeat (first | apply Kd.R_alloc | apply Kd.R_drewN | apply Kd.R_drew)); exact HO353.out) hb); replace HO357 := Aside0.mk (Kd.R_below (by (with_reducible repeat (first | apply Kd.R_alloc | apply Kd.R_drewN | apply Kd.R_drew)); exact HO357.out) hb); replace BK349 := Aside0.mk (blk_below (g := gb349) (o := .cells #[.slice (some ad354) l1_0.length c1_0, .int .i64 a1_1, .int .i64 a1_2, .int .i64 a1_3, .slice A1_4 l1_4.length c1_4] 29 (0, 0)) z10 hb); replace BK350 := Aside0.mk (blk_below (g := gb350) (o := .cells #[.int .i64 0, .slice none 0 0] 86 (0, 0)) z16 hb); replace HB := Aside0.mk (below_step z24 hb); clear hb hbox hg; have hnb19 := NB358_349.out; have hnc19 := NB349_358.out; have hnb20 := NB358_350.out; have hnc20 := NB350_358.out; obtain ⟨hcz21_0, hcz21_1, hfz21_0, hfz21_1⟩ := cbf2 BK358) | ((with_reducible refine gate_callee (f := 68) rfl ?_); refine goesL_ (some 27) rfl rfl Try.func68 (by kernel_rfl) rfl #[.int .i64 (rd l1_0 a3)] rfl z2 ?_; (with_reducible refine (spec_l21Head.calls (rd l1_0 a3) t359 _ A8.out).mono ?_); rintro e w' ⟨rfl, ⟨nd, rfl⟩⟩; refine ⟨_, rfl, ?_⟩))
   go_loopg [11] k (fun kq v11 w' => ∃ (x11_1 : Int) (x359001_1 : List (S112)) (u359001 : Value), v11 = .int .i64 x11_1 ∧ Aside0 (spec_l21Obj.l0 kq l2 a3 t351 x11_1 l1_0 a1_1 a1_2 a1_3 l1_4 (rd l1_0 a3) x359001_1 = some (r1, r2)) ∧ Aside0 (kq ≤ k) ∧ Aside0 (Kd.R Kd.bool 4 w' w.heap.size (fun _ => True) v352 t351) ∧ Aside0 (Kd.R k112 112 w' w.heap.size (fun _ => True) u359001 x359001_1) ∧ Aside0 (w'.heap[gb349]? = some (.cells #[(.slice (some ad354) l1_0.length c1_0), .int .i64 a1_1, .int .i64 a1_2, .int .i64 a1_3, (.slice A1_4 l1_4.length c1_4)] 29 (0, 0))) ∧ Aside0 (w'.heap[gb350]? = some (.cells #[.int .i64 0, (.slice none 0 0)] 86 (0, 0))) ∧ Aside0 (w'.heap[gb358]? = some (.cells #[.int .i64 (rd l1_0 a3), u359001] 86 (0, 0))) ∧ Aside0 (Below w.heap.size w w'))
   case atStart => exact ⟨(t359), (y355), (.slice Ao17 y355.length co17), z5, H', ⟨Nat.le_refl _⟩, ⟨by (with_reducible repeat (first | apply Kd.R_alloc | apply Kd.R_drewN | apply Kd.R_drew)); exact Kd.R_mono (Kd.R_far (p := ⟨gb358, 1, none⟩) (Kd.R_far (p := ⟨gb358, 0, none⟩) (Kd.R_types HO353.out BK358.out (by decide)) (fun _ hk => hk.2) (.int .i64 (rd l1_0 a3))) (fun _ hk => hk.2) (.slice Ao17 y355.length co17)) (fun _ hk => trivial)⟩, ⟨by (with_reducible repeat (first | apply Kd.R_alloc | apply Kd.R_drewN | apply Kd.R_drew)); exact Kd.R_mono (Kd.R_far (p := ⟨gb358, 1, none⟩) (Kd.R_far (p := ⟨gb358, 0, none⟩) (Kd.R_types HO357.out BK358.out (by decide)) (fun _ hk => hk.2) (.int .i64 (rd l1_0 a3))) (fun _ hk => hk.2) (.slice Ao17 y355.length co17)) (fun _ hk => trivial)⟩, ⟨by (with_reducible repeat (first | refine blk_drewN ?_ _ | refine blk_drew ?_ | refine blk_alloc ?_ _)); refine blk_far ?_ NB349_358.out _; (with_reducible repeat (first | refine blk_drewN ?_ _ | refine blk_drew ?_ | refine blk_alloc ?_ _)); refine blk_far ?_ NB349_358.out _; (with_reducible repeat (first | refine blk_drewN ?_ _ | refine blk_drew ?_ | refine blk_alloc ?_ _)); exact BK349.out⟩, ⟨by (with_reducible repeat (first | refine blk_drewN ?_ _ | refine blk_drew ?_ | refine blk_alloc ?_ _)); refine blk_far ?_ NB350_358.out _; (with_reducible repeat (first | refine blk_drewN ?_ _ | refine blk_drew ?_ | refine blk_alloc ?_ _)); refine blk_far ?_ NB350_358.out _; (with_reducible repeat (first | refine blk_drewN ?_ _ | refine blk_drew ?_ | refine blk_alloc ?_ _)); exact BK350.out⟩, ⟨by (with_reducible repeat (first | refine blk_drewN ?_ _ | refine blk_drew ?_ | refine blk_alloc ?_ _)); refine blk_put (cs := #[.int .i64 (rd l1_0 a3), .slice none 0 0]) ?_ 1 _ rfl; (with_reducible repeat (first | refine blk_drewN ?_ _ | refine blk_drew ?_ | refine blk_alloc ?_ _)); refine blk_put (cs := #[.int .i64 0, .slice none 0 0]) ?_ 0 _ rfl; (with_reducible repeat (first | refine blk_drewN ?_ _ | refine blk_drew ?_ | refine blk_alloc ?_ _)); exact BK358.out⟩, ⟨by repeat (first | (with_reducible first | exact HB.out | apply below_alloc | apply pw_below_drewN | apply below_drew1 | refine below_set ?_ GE349.out | refine below_set ?_ GE350.out | refine below_set ?_ GE358.out) | exact HB.out)⟩⟩
   case round =>
    clear H'
    try clear c1
    try clear c2
    try clear p2
    try clear c3
    try clear p3
    try clear q3
    try clear hx3
    try clear c6
    try clear c6b0
    try clear c7
    try clear c7b0
    try clear c8
    try clear c11
    try clear c19
    try clear c20
    try clear hcz12_0
    try clear hcz12_1
    try clear hcz12_2
    try clear hcz12_3
    try clear hcz12_4
    try clear hcz14_0
    try clear hcz14_1
    try clear hcz14_2
    try clear hcz14_3
    try clear hcz14_4
    try clear hcz21_0
    try clear hcz21_1
    try clear hfz12_0
    try clear hfz12_1
    try clear hfz12_2
    try clear hfz12_3
    try clear hfz12_4
    try clear hfz14_0
    try clear hfz14_1
    try clear hfz14_2
    try clear hfz14_3
    try clear hfz14_4
    try clear hfz21_0
    try clear hfz21_1
    try clear hx354_0
    try clear p354
    try clear q354
    obtain ⟨x11_1, x359001_1, u359001, rfl, HA, HK1, HO_9, HO_359001, BK349, BK350, BK358, HB⟩ := hrel
    cases gk with
    | zero => exact absurd HA.out (by simp [spec_l21Obj.l0])
    | succ k1 =>
     have H := HA.out
     clear HA
     simp only [spec_l21Obj.l0] at H
     by_cases c22 : x11_1 < (t351.length : Int)
     ·rw [if_pos c22] at H
      have c22b0 : decide (x11_1 < (t351.length : Int)) = true := decide_eq_true c22
      clear c22
      by_cases c23 : 0 ≤ x11_1
      ·rw [if_pos c23] at H
       have c23b0 : decide (0 ≤ x11_1) = true := decide_eq_true c23
       clear c23
       obtain ⟨ji24, hji24⟩ : ∃ j_ : Int, (wrap64 (a3 + x11_1)) = j_ := ⟨_, rfl⟩
       replace H : (if 0 ≤ (ji24) then (if (ji24) < (l1_0.length : Int) then (if rdOf false t351 x11_1 = true then (if (rd l1_0 (ji24)) > 0 then (if 0 ≤ (wrap64 ((rd l1_0 (ji24)) - 1)) then (if (wrap64 ((rd l1_0 (ji24)) - 1)) < (l2.length : Int) then (if x359001_1.length < 8796093022208 then (spec_l21Obj.l0 k1 l2 a3 t351 (wrap64 (x11_1 + 1)) l1_0 a1_1 a1_2 a1_3 l1_4 (rd l1_0 a3) (x359001_1 ++ [(⟨rdOf false t351 x11_1, rd l2 (wrap64 ((rd l1_0 (ji24)) - 1))⟩ : S112)])) else (none)) else (none)) else (none)) else (if x359001_1.length < 8796093022208 then (spec_l21Obj.l0 k1 l2 a3 t351 (wrap64 (x11_1 + 1)) l1_0 a1_1 a1_2 a1_3 l1_4 (rd l1_0 a3) (x359001_1 ++ [(⟨rdOf false t351 x11_1, rd l1_0 (ji24)⟩ : S112)])) else (none))) else (if x359001_1.length < 8796093022208 then (spec_l21Obj.l0 k1 l2 a3 t351 (wrap64 (x11_1 + 1)) l1_0 a1_1 a1_2 a1_3 l1_4 (rd l1_0 a3) (x359001_1 ++ [(⟨rdOf false t351 x11_1, rd l1_0 (ji24)⟩ : S112)])) else (none))) else (none)) else (none)) = some (r1, r2) := by first | (rw [hji24] at H; exact H) | (simp only [hji24] at H ⊢; exact H)
       have hji24w : (IntKind.i64.wrap (a3 + x11_1)) = ji24 := (i64_w _).trans hji24
       by_cases c25 : 0 ≤ (ji24)
       ·rw [if_pos c25] at H
        have c25b0 : decide (0 ≤ (ji24)) = true := decide_eq_true c25
        clear c25
        by_cases c26 : (ji24) < (l1_0.length : Int)
        ·rw [if_pos c26] at H
         have c26b0 : decide ((ji24) < (l1_0.length : Int)) = true := decide_eq_true c26
         clear c26
         obtain ⟨bq27, hbq27⟩ : ∃ b_ : Bool, b_ = (rdOf false t351 x11_1) := ⟨_, rfl⟩
         replace H : (if bq27 = true then (if (rd l1_0 (ji24)) > 0 then (if 0 ≤ (wrap64 ((rd l1_0 (ji24)) - 1)) then (if (wrap64 ((rd l1_0 (ji24)) - 1)) < (l2.length : Int) then (if x359001_1.length < 8796093022208 then (spec_l21Obj.l0 k1 l2 a3 t351 (wrap64 (x11_1 + 1)) l1_0 a1_1 a1_2 a1_3 l1_4 (rd l1_0 a3) (x359001_1 ++ [(⟨bq27, rd l2 (wrap64 ((rd l1_0 (ji24)) - 1))⟩ : S112)])) else (none)) else (none)) else (none)) else (if x359001_1.length < 8796093022208 then (spec_l21Obj.l0 k1 l2 a3 t351 (wrap64 (x11_1 + 1)) l1_0 a1_1 a1_2 a1_3 l1_4 (rd l1_0 a3) (x359001_1 ++ [(⟨bq27, rd l1_0 (ji24)⟩ : S112)])) else (none))) else (if x359001_1.length < 8796093022208 then (spec_l21Obj.l0 k1 l2 a3 t351 (wrap64 (x11_1 + 1)) l1_0 a1_1 a1_2 a1_3 l1_4 (rd l1_0 a3) (x359001_1 ++ [(⟨bq27, rd l1_0 (ji24)⟩ : S112)])) else (none))) = some (r1, r2) := by rw [← hbq27] at H; exact H
         have Nbq27 := Aside0.mk hbq27
         clear hbq27
         by_cases c28 : bq27 = true
         ·subst c28
          rw [if_pos rfl] at H
          by_cases c29 : (rd l1_0 (ji24)) > 0
          ·rw [if_pos c29] at H
           have c29b0 : decide (0 < (rd l1_0 (ji24))) = true := decide_eq_true c29
           clear c29
           obtain ⟨ji30, hji30⟩ : ∃ j_ : Int, (wrap64 ((rd l1_0 (ji24)) - 1)) = j_ := ⟨_, rfl⟩
           replace H : (if 0 ≤ (ji30) then (if (ji30) < (l2.length : Int) then (if x359001_1.length < 8796093022208 then (spec_l21Obj.l0 k1 l2 a3 t351 (wrap64 (x11_1 + 1)) l1_0 a1_1 a1_2 a1_3 l1_4 (rd l1_0 a3) (x359001_1 ++ [(⟨true, rd l2 (ji30)⟩ : S112)])) else (none)) else (none)) else (none)) = some (r1, r2) := by first | (rw [hji30] at H; exact H) | (simp only [hji30] at H ⊢; exact H)
           have hji30w : (IntKind.i64.wrap ((rd l1_0 (ji24)) - 1)) = ji30 := (i64_w _).trans hji30
           by_cases c31 : 0 ≤ (ji30)
           ·rw [if_pos c31] at H
            have c31b0 : decide (0 ≤ (ji30)) = true := decide_eq_true c31
            clear c31
            by_cases c32 : (ji30) < (l2.length : Int)
            ·rw [if_pos c32] at H
             have c32b0 : decide ((ji30) < (l2.length : Int)) = true := decide_eq_true c32
             clear c32
             by_cases c33 : x359001_1.length < 8796093022208
             ·rw [if_pos c33] at H
              have LMc33 := Aside0.mk c33
              clear c33
              obtain ⟨y364, hy364⟩ : ∃ y_ : List (S112), y_ = (x359001_1 ++ [(⟨true, rd l2 (ji30)⟩ : S112)]) := ⟨_, rfl⟩
              replace H : (spec_l21Obj.l0 k1 l2 a3 t351 (wrap64 (x11_1 + 1)) l1_0 a1_1 a1_2 a1_3 l1_4 (rd l1_0 a3) y364) = some (r1, r2) := by first | (rw [hy364]; with_reducible exact H) | (have H2_ := (Option.bind_some _ _).symm.trans H; rw [hy364]; with_reducible exact H2_) | (have H2_ := (Option.bind_some _ _).symm.trans H; with_reducible exact H2_) | with_reducible exact H | (rw [hy364]; exact H) | exact H
              have Ny364 := Aside0.mk hy364
              clear hy364
              have H' := Aside0.mk H
              clear H
              obtain ⟨Ao34, co34, eo34⟩ := Kd.R_slice HO_9.out
              subst eo34
              try go_wp2
              have n0_ := Aside0.mk (Kd.R_drew HO_9.out)
              have n1_ := Aside0.mk (Kd.R_drew HO_359001.out)
              have n2_ := Aside0.mk (blk_drew BK349.out)
              have n3_ := Aside0.mk (blk_drew BK350.out)
              have n4_ := Aside0.mk (blk_drew BK358.out)
              have n5_ := Aside0.mk (below_drew1 HB.out)
              clear HO_9
              clear HO_359001
              clear BK349
              clear BK350
              clear BK358
              clear HB
              have HO_9 := n0_
              have HO_359001 := n1_
              have BK349 := n2_
              have BK350 := n3_
              have BK358 := n4_
              have HB := n5_
              clear n0_ n1_ n2_ n3_ n4_ n5_
              have p360 : 0 ≤ (x11_1 : Int) := of_decide_eq_true z3
              have q360 : x11_1 < (t351.length : Int) := of_decide_eq_true z3
              obtain ⟨ad360, e360, hx360_0⟩ := Kd.at_bool (Kd.R_reads' HO_9.out).2.2 x11_1 p360 q360
              (try rw [← Nbq27.out] at hx360_0)
              cases e360
              replace p360 := eq_true p360
              replace q360 := eq_true q360
              have p361 : 0 ≤ ((ji24) : Int) := of_decide_eq_true z3
              have q361 : (ji24) < (l1_0.length : Int) := of_decide_eq_true z3
              obtain ⟨ad361, e361, hx361_0⟩ := Kd.at_int HR1_0.out (ji24) p361 q361
              have hw361_0 := hx361_0
              obtain rfl : ad354 = ad361 := (by injection e361)
              replace hx361_0 := (HB.out.cell (World.block_lt_of_cell? w _ hx361_0)).trans hx361_0
              replace p361 := eq_true p361
              replace q361 := eq_true q361
              refine start_ (n := 14) (S := fun w' => w'.cell? ⟨gb349, 0, none⟩ = some (.slice (some ad354) l1_0.length c1_0) ∧ w'.cell? ⟨gb349, 1, none⟩ = some (.int .i64 a1_1) ∧ w'.cell? ⟨gb349, 2, none⟩ = some (.int .i64 a1_2) ∧ w'.cell? ⟨gb349, 3, none⟩ = some (.int .i64 a1_3) ∧ w'.cell? ⟨gb349, 4, none⟩ = some (.slice A1_4 l1_4.length c1_4) ∧ w'.cell? (ad360.add (x11_1).toNat) = some (.bool true) ∧ w'.cell? (ad354.add ((ji24)).toNat) = some (.int .i64 (rd l1_0 (ji24)))) (ds := []) #[false, false, false, false, false, false, false, false, false, false, false, false, false, false] (by kernel_rfl) rfl rfl ⟨(blk_cell BK349.out 0).trans rfl, (blk_cell BK349.out 1).trans rfl, (blk_cell BK349.out 2).trans rfl, (blk_cell BK349.out 3).trans rfl, (blk_cell BK349.out 4).trans rfl, hx360_0, ((HB.out.cell (World.block_lt_of_cell? w _ hw361_0)).trans hw361_0)⟩ (fun hHeld => ?_); refine with_tabW spec_l21Obj.tab6 spec_l21Obj.bits6 (fun HT_ HW_ => ?_)
              generalize wr.drew = w35 at HO_9 HO_359001 BK349 BK350 BK358 HB hx360_0 hx361_0 hHeld ⊢
              refine pS 0 34 (lA 14 1) ?_ (hc := (any_of HT_.out (by kernel_rfl)))
              refine pS 1 35 (lA 14 3) ?_ (hc := (any_of HT_.out (by kernel_rfl)))
              refine pS 2 36 (lA 14 7) ?_ (hc := (any_of HT_.out (by kernel_rfl)))
              refine pS 4 38 (lA 14 23) ?_ (hc := (any_of HT_.out (by kernel_rfl)))
              refine pS 6 40 (lA 14 87) ?_ (hc := (any_of HT_.out (by kernel_rfl)))
              refine pS 7 41 (lA 14 215) ?_ (hc := (any_of HT_.out (by kernel_rfl)))
              refine pS 8 42 (lA 14 471) ?_ (hc := (any_of HT_.out (by kernel_rfl)))
              refine tS 3 37 (lA 14 479) rfl rfl (take_ofW HT_.out HW_.out (by kernel_rfl)) hHeld z31 ?_
              refine tS 5 39 (lA 14 511) rfl rfl (take_ofW HT_.out HW_.out (by kernel_rfl)) hHeld z31 ?_
              refine pS 9 43 (lA 14 1023) ?_ (hc := (any_of HT_.out (by kernel_rfl)))
              refine tS 10 44 (lA 14 2047) rfl rfl (take_ofW HT_.out HW_.out (by kernel_rfl)) hHeld z31 ?_
              refine pS 11 45 (lA 14 4095) ?_ (hc := (any_of HT_.out (by kernel_rfl)))
              refine one_ (i := 12) (N := some 12) (lA 14 8191) rfl rfl (one_of HT_.out (by kernel_rfl)) (by decide) (fun K hK => ?_)
              refine box_step ?hg (N := 12) ?hd (cs := #[.bool false, .int .i64 0]) (t := 112) ?hr ?_; (case hd => rfl); (case hg => rfl); (case hr => first | (go_simp; done) | (go_simp; rfl))
              intro gb362 hg w36 hbox hb
              have HS5_ := (hb.cell (World.block_lt_of_cell? _ _ (hHeld.2.2.2.2.2.1))).trans (hHeld.2.2.2.2.2.1)
              have n0_ := Aside0.mk (Kd.R_below (by (with_reducible repeat (first | apply Kd.R_alloc | apply Kd.R_drewN | apply Kd.R_drew)); exact HO_9.out) hb)
              have n1_ := Aside0.mk (Kd.R_below (Kd.R_elderB (by (with_reducible repeat (first | apply Kd.R_alloc | apply Kd.R_drewN | apply Kd.R_drew)); exact HO_359001.out) gb362 (Nat.le_of_eq hg.symm)) hb)
              have n2_ := Aside0.mk (blk_below (g := gb349) (o := .cells #[.slice (some ad354) l1_0.length c1_0, .int .i64 a1_1, .int .i64 a1_2, .int .i64 a1_3, .slice A1_4 l1_4.length c1_4] 29 (0, 0)) z10 hb)
              have n3_ := Aside0.mk (blk_below (g := gb350) (o := .cells #[.int .i64 0, .slice none 0 0] 86 (0, 0)) z16 hb)
              have n4_ := Aside0.mk (blk_below (g := gb358) (o := .cells #[.int .i64 (rd l1_0 a3), u359001] 86 (0, 0)) z29 hb)
              have n5_ := Aside0.mk (below_step z12 hb)
              have n6_ := Aside0.mk (hbox)
              have n7_ := Aside0.mk ((by rw [hg]; exact (below_size z12) : w.heap.size ≤ gb362))
              have n8_ := Aside0.mk ((by rw [hg]; exact (below_size z12) : w.heap.size ≤ gb362))
              have n9_ := Aside0.mk (z48)
              have n10_ := Aside0.mk (z49)
              have n11_ := Aside0.mk ((by rw [hg]; exact Nat.ne_of_lt (blk_lt (g := gb350) (o := .cells #[.int .i64 0, .slice none 0 0] 86 (0, 0)) z16) : gb350 ≠ gb362))
              have n12_ := Aside0.mk ((by rw [hg]; exact Nat.ne_of_gt (blk_lt (g := gb350) (o := .cells #[.int .i64 0, .slice none 0 0] 86 (0, 0)) z16) : gb362 ≠ gb350))
              have n13_ := Aside0.mk ((by rw [hg]; exact Nat.ne_of_lt (blk_lt (g := gb358) (o := .cells #[.int .i64 (rd l1_0 a3), u359001] 86 (0, 0)) z29) : gb358 ≠ gb362))
              have n14_ := Aside0.mk ((by rw [hg]; exact Nat.ne_of_gt (blk_lt (g := gb358) (o := .cells #[.int .i64 (rd l1_0 a3), u359001] 86 (0, 0)) z29) : gb362 ≠ gb358))
              clear HO_9
              clear HO_359001
              clear BK349
              clear BK350
              clear BK358
              clear HB
              have HO_9 := n0_
              have HO_359001 := n1_
              have BK349 := n2_
              have BK350 := n3_
              have BK358 := n4_
              have HB := n5_
              have BK362 := n6_
              have GW362 := n7_
              have GE362 := n8_
              have NB349_362 := n9_
              have NB362_349 := n10_
              have NB350_362 := n11_
              have NB362_350 := n12_
              have NB358_362 := n13_
              have NB362_358 := n14_
              clear n0_ n1_ n2_ n3_ n4_ n5_ n6_ n7_ n8_ n9_ n10_ n11_ n12_ n13_ n14_
              clear hb hbox hg
              refine hK.out _ _ ⟨(blk_cell BK349.out 0).trans rfl, (blk_cell BK349.out 1).trans rfl, (blk_cell BK349.out 2).trans rfl, (blk_cell BK349.out 3).trans rfl, (blk_cell BK349.out 4).trans rfl, HS5_, ((HB.out.cell (World.block_lt_of_cell? w _ hw361_0)).trans hw361_0)⟩ (fun hHeld => ?_)
              clear hK K
              refine norm_ (a' := ?_) ?_ ?_
              rotate_left
              ·show Act.put _ (some 12) _ = _
               simp only [Act.put, lA1, lA2, lA3, i64_w, i32_w]
               rfl
              refine one_ (i := 13) (N := none) (lA 14 16383) rfl rfl (one_of HT_.out (by kernel_rfl)) (by decide) (fun K hK => ?_)
              have hs37 : w36.cell? ⟨gb362, 0, none⟩ = some (.bool false) := (blk_cell BK362.out 0).trans rfl
              have hfs37 := blk_frozen BK362.out 0
              have hns37_0 := NB349_362.out
              have hns37_1 := NB350_362.out
              have hns37_2 := NB358_362.out
              have hms37_0 := NB362_349.out
              have hms37_1 := NB362_350.out
              have hms37_2 := NB362_358.out
              have hs38 : w36.cell? ⟨gb362, 1, none⟩ = some (.int .i64 0) := (blk_cell BK362.out 1).trans rfl
              have hfs38 := blk_frozen BK362.out 1
              have hns38_0 := NB349_362.out
              have hns38_1 := NB350_362.out
              have hns38_2 := NB358_362.out
              have hms38_0 := NB362_349.out
              have hms38_1 := NB362_350.out
              have hms38_2 := NB362_358.out
              refine skip_ (w1 := ?_) (by rfl) rfl ?_ ?_
              rotate_left
              ·go_simp
               rfl
              refine hK.out _ _ ⟨((cell_far (p := ⟨gb362, _, none⟩) NB349_362.out _).trans (((cell_far (p := ⟨gb362, _, none⟩) NB349_362.out _).trans (hHeld.1)))), ((cell_far (p := ⟨gb362, _, none⟩) NB349_362.out _).trans (((cell_far (p := ⟨gb362, _, none⟩) NB349_362.out _).trans (hHeld.2.1)))), ((cell_far (p := ⟨gb362, _, none⟩) NB349_362.out _).trans (((cell_far (p := ⟨gb362, _, none⟩) NB349_362.out _).trans (hHeld.2.2.1)))), ((cell_far (p := ⟨gb362, _, none⟩) NB349_362.out _).trans (((cell_far (p := ⟨gb362, _, none⟩) NB349_362.out _).trans (hHeld.2.2.2.1)))), ((cell_far (p := ⟨gb362, _, none⟩) NB349_362.out _).trans (((cell_far (p := ⟨gb362, _, none⟩) NB349_362.out _).trans (hHeld.2.2.2.2.1)))), ((cell_far (p := ⟨gb362, _, none⟩) z15 _).trans (((cell_far (p := ⟨gb362, _, none⟩) z15 _).trans (hHeld.2.2.2.2.2.1)))), ((cell_far (p := ⟨gb362, _, none⟩) z7 _).trans (((cell_far (p := ⟨gb362, _, none⟩) z7 _).trans (hHeld.2.2.2.2.2.2))))⟩ (fun hHeld => ?_)
              clear hK K
              refine done_ (done_of HT_.out (by kernel_rfl)) ?_
              have hnb39 := NB362_349.out
              have hnc39 := NB349_362.out
              have hnb40 := NB362_350.out
              have hnc40 := NB350_362.out
              have hnb41 := NB362_358.out
              have hnc41 := NB358_362.out
              obtain ⟨hcz42_0, hcz42_1⟩ := cb2 BK362
              have hcz42y : ∀ a_ b_ : Value, ((w36.setCell ⟨gb362, 0, none⟩ a_).setCell ⟨gb362, 1, none⟩ b_).cell? ⟨gb362, 1, none⟩ = some b_ := fun a_ b_ => World.cell?_setCell_same' _ _ _ (by rw [World.cell?_setCell_other _ ⟨gb362, 0, none⟩ _ _ (fun e_ => by cases e_), hcz42_1]; rfl)
              have hfz42_0 := blk_frozen BK362.out 0
              have hfz42_1 := blk_frozen BK362.out 1
              have p363 : 0 ≤ ((ji30) : Int) := of_decide_eq_true z3
              have q363 : (ji30) < (l2.length : Int) := of_decide_eq_true z3
              obtain ⟨ad363, e363, hx363_0⟩ := Kd.at_int HR2.out (ji30) p363 q363
              cases e363
              have hn363_0 : ad363.block ≠ gb362 := Nat.ne_of_lt (Nat.lt_of_lt_of_le (by have := World.block_lt_of_cell? _ _ hx363_0; first | rwa [add_block] at this | exact this) GW362.out)
              have hn363_1 : ad363.block ≠ gb362 := Nat.ne_of_lt (Nat.lt_of_lt_of_le (by have := World.block_lt_of_cell? _ _ hx363_0; first | rwa [add_block] at this | exact this) GW362.out)
              replace hx363_0 := (HB.out.cell (World.block_lt_of_cell? w _ hx363_0)).trans hx363_0
              replace hx363_0 := (cell_far (p := ⟨gb362, 0, none⟩) (by first | (rw [add_block]; exact hn363_0) | (show (Addr.add _ _).block ≠ _; rw [add_block]; exact hn363_0) | exact hn363_0) (.bool true)).trans hx363_0
              replace hx363_0 := (cell_far (p := ⟨gb362, 1, none⟩) (by first | (rw [add_block]; exact hn363_1) | (show (Addr.add _ _).block ≠ _; rw [add_block]; exact hn363_1) | exact hn363_1) (.int .i64 (rd l1_0 (ji24)))).trans hx363_0
              clear hn363_0
              clear hn363_1
              replace p363 := eq_true p363
              replace q363 := eq_true q363
              have hnb43 := NB358_349.out
              have hnc43 := NB349_358.out
              have hnb44 := NB358_350.out
              have hnc44 := NB350_358.out
              obtain ⟨hcz45_0, hcz45_1⟩ := cb2 BK358
              have hcz45y : ∀ a_ b_ : Value, ((w36.setCell ⟨gb358, 0, none⟩ a_).setCell ⟨gb358, 1, none⟩ b_).cell? ⟨gb358, 1, none⟩ = some b_ := fun a_ b_ => World.cell?_setCell_same' _ _ _ (by rw [World.cell?_setCell_other _ ⟨gb358, 0, none⟩ _ _ (fun e_ => by cases e_), hcz45_1]; rfl)
              have hfz45_0 := blk_frozen BK358.out 0
              have hfz45_1 := blk_frozen BK358.out 1
              try go_wp2_with (first | ((with_reducible refine gate_builtin (b := .append) (xs := #[.tmp 61, .tmp 63]) rfl ?_); at_builtin; refine Kd.R_append k112 (w0 := w) w.heap.size rfl (.tmp 61) (.tmp 63) 84 112 (.agg #[(.bool false), (.int .i64 0)]) 16 rfl Try.underlying84 info112 rfl (by decide) (by omega) u359001 x359001_1 (⟨true, rd l2 (ji30)⟩ : S112) [.bool true, .int .i64 (rd l2 (ji30))] (fun k_ => k_ ≠ gb362) (fun _ => False) rfl (by first | (go_simp; done) | (go_simp; rfl)) ?aP (fun _ hk => hk.elim) ?aF ?aO ?aB ?aS ?aL ?_; (case aP => exact k112_mkM _ _ _ (⟨true, rd l2 (ji30)⟩ : S112)); (case aB => exact z22); (case aF => exact (fun k_ hk => Kd.freshB (g := gb362) (o := .cells #[.bool true, .int .i64 (rd l2 (ji30))] 112 (0, 0)) (by (with_reducible repeat (first | refine blk_drewN ?_ _ | refine blk_drew ?_ | refine blk_alloc ?_ _)); refine blk_put (cs := #[.bool true, .int .i64 (rd l1_0 (ji24))]) ?_ 1 _ rfl; (with_reducible repeat (first | refine blk_drewN ?_ _ | refine blk_drew ?_ | refine blk_alloc ?_ _)); refine blk_put (cs := #[.bool true, .int .i64 0]) ?_ 1 _ rfl; (with_reducible repeat (first | refine blk_drewN ?_ _ | refine blk_drew ?_ | refine blk_alloc ?_ _)); refine blk_put (cs := #[.bool false, .int .i64 0]) ?_ 0 _ rfl; (with_reducible repeat (first | refine blk_drewN ?_ _ | refine blk_drew ?_ | refine blk_alloc ?_ _)); exact BK362.out) k_ hk)); (case aO => exact (by (with_reducible repeat (first | apply Kd.R_alloc | apply Kd.R_drewN | apply Kd.R_drew)); exact Kd.R_mono (Kd.R_far (p := ⟨gb362, 1, none⟩) (Kd.R_far (p := ⟨gb362, 1, none⟩) (Kd.R_far (p := ⟨gb362, 0, none⟩) (Kd.R_mono HO_359001.out (fun k_ hk => (⟨hk, hk.2⟩ : _ ∧ k_ ≠ gb362))) (fun _ hk => hk.2) (.bool true)) (fun _ hk => hk.2) (.int .i64 (rd l1_0 (ji24)))) (fun _ hk => hk.2) (.int .i64 (rd l2 (ji30)))) (fun _ hk => hk.1.2))); (case aS => exact (below_size z22)); (case aL => have := LMc33.out; omega); intro v365 w46 ho hb hg hat; rw [← Ny364.out] at ho; have n0_ := Aside0.mk (Kd.R_over' (by (with_reducible repeat (first | apply Kd.R_alloc | apply Kd.R_drewN | apply Kd.R_drew)); exact (Kd.R_mono (Kd.R_far (p := ⟨gb362, 1, none⟩) (Kd.R_far (p := ⟨gb362, 1, none⟩) (Kd.R_far (p := ⟨gb362, 0, none⟩) (Kd.R_types HO_9.out BK362.out (by decide)) (fun _ hk => hk.2) (.bool true)) (fun _ hk => hk.2) (.int .i64 (rd l1_0 (ji24)))) (fun _ hk => hk.2) (.int .i64 (rd l2 (ji30)))) (fun _ h_ => h_.1))) (Kd.R_typed (by (with_reducible repeat (first | apply Kd.R_alloc | apply Kd.R_drewN | apply Kd.R_drew)); exact (Kd.R_mono (Kd.R_far (p := ⟨gb362, 1, none⟩) (Kd.R_far (p := ⟨gb362, 1, none⟩) (Kd.R_far (p := ⟨gb362, 0, none⟩) (Kd.R_mono HO_359001.out (fun k_ hk => (⟨hk, hk.2⟩ : _ ∧ k_ ≠ gb362))) (fun _ hk => hk.2) (.bool true)) (fun _ hk => hk.2) (.int .i64 (rd l1_0 (ji24)))) (fun _ hk => hk.2) (.int .i64 (rd l2 (ji30)))) (fun _ h_ => h_.1)))) (by decide) hg); have n1_ := Aside0.mk (blk_grown (g := gb349) (o := .cells #[.slice (some ad354) l1_0.length c1_0, .int .i64 a1_1, .int .i64 a1_2, .int .i64 a1_3, .slice A1_4 l1_4.length c1_4] 29 (0, 0)) (by (with_reducible repeat (first | refine blk_drewN ?_ _ | refine blk_drew ?_ | refine blk_alloc ?_ _)); refine blk_far ?_ NB349_362.out _; (with_reducible repeat (first | refine blk_drewN ?_ _ | refine blk_drew ?_ | refine blk_alloc ?_ _)); refine blk_far ?_ NB349_362.out _; (with_reducible repeat (first | refine blk_drewN ?_ _ | refine blk_drew ?_ | refine blk_alloc ?_ _)); refine blk_far ?_ NB349_362.out _; (with_reducible repeat (first | refine blk_drewN ?_ _ | refine blk_drew ?_ | refine blk_alloc ?_ _)); exact BK349.out) hg (Kd.R_ne HO_359001.out BK349.out (by decide))); have n2_ := Aside0.mk (blk_grown (g := gb350) (o := .cells #[.int .i64 0, .slice none 0 0] 86 (0, 0)) (by (with_reducible repeat (first | refine blk_drewN ?_ _ | refine blk_drew ?_ | refine blk_alloc ?_ _)); refine blk_far ?_ NB350_362.out _; (with_reducible repeat (first | refine blk_drewN ?_ _ | refine blk_drew ?_ | refine blk_alloc ?_ _)); refine blk_far ?_ NB350_362.out _; (with_reducible repeat (first | refine blk_drewN ?_ _ | refine blk_drew ?_ | refine blk_alloc ?_ _)); refine blk_far ?_ NB350_362.out _; (with_reducible repeat (first | refine blk_drewN ?_ _ | refine blk_drew ?_ | refine blk_alloc ?_ _)); exact BK350.out) hg (Kd.R_ne HO_359001.out BK350.out (by decide))); have n3_ := Aside0.mk (blk_grown (g := gb358) (o := .cells #[.int .i64 (rd l1_0 a3), u359001] 86 (0, 0)) (by (with_reducible repeat (first | refine blk_drewN ?_ _ | refine blk_drew ?_ | refine blk_alloc ?_ _)); refine blk_far ?_ NB358_362.out _; (with_reducible repeat (first | refine blk_drewN ?_ _ | refine blk_drew ?_ | refine blk_alloc ?_ _)); refine blk_far ?_ NB358_362.out _; (with_reducible repeat (first | refine blk_drewN ?_ _ | refine blk_drew ?_ | refine blk_alloc ?_ _)); refine blk_far ?_ NB358_362.out _; (with_reducible repeat (first | refine blk_drewN ?_ _ | refine blk_drew ?_ | refine blk_alloc ?_ _)); exact BK358.out) hg (Kd.R_ne HO_359001.out BK358.out (by decide))); have n4_ := Aside0.mk (blk_grown (g := gb362) (o := .cells #[.bool true, .int .i64 (rd l2 (ji30))] 112 (0, 0)) (by (with_reducible repeat (first | refine blk_drewN ?_ _ | refine blk_drew ?_ | refine blk_alloc ?_ _)); refine blk_put (cs := #[.bool true, .int .i64 (rd l1_0 (ji24))]) ?_ 1 _ rfl; (with_reducible repeat (first | refine blk_drewN ?_ _ | refine blk_drew ?_ | refine blk_alloc ?_ _)); refine blk_put (cs := #[.bool true, .int .i64 0]) ?_ 1 _ rfl; (with_reducible repeat (first | refine blk_drewN ?_ _ | refine blk_drew ?_ | refine blk_alloc ?_ _)); refine blk_put (cs := #[.bool false, .int .i64 0]) ?_ 0 _ rfl; (with_reducible repeat (first | refine blk_drewN ?_ _ | refine blk_drew ?_ | refine blk_alloc ?_ _)); exact BK362.out) hg (Kd.R_away HO_359001.out (fun _ hk => hk.2))); have n5_ := Aside0.mk (hb); have n6_ := Aside0.mk (ho); clear HO_9; clear BK349; clear BK350; clear BK358; clear BK362; clear HB; clear HO_359001; have HO_9 := n0_; have BK349 := n1_; have BK350 := n2_; have BK358 := n3_; have BK362 := n4_; have HB := n5_; have HO366 := n6_; clear n0_ n1_ n2_ n3_ n4_ n5_ n6_; clear ho hb hg hat; obtain ⟨Ao47, co47, eo47⟩ := Kd.R_slice HO366.out; subst eo47; obtain ⟨hcz48_0, hcz48_1, hfz48_0, hfz48_1⟩ := cbf2 BK358))
              go_roundg k1
              case measure => have := HK1.out; omega
              case rel => exact ⟨(wrap64 (x11_1 + 1)), (y364), (.slice Ao47 y364.length co47), z5, H', ⟨by have := HK1.out; omega⟩, ⟨by (with_reducible repeat (first | apply Kd.R_alloc | apply Kd.R_drewN | apply Kd.R_drew)); exact Kd.R_mono (Kd.R_far (p := ⟨gb358, 1, none⟩) (Kd.R_types HO_9.out BK358.out (by decide)) (fun _ hk => hk.2) (.slice Ao47 y364.length co47)) (fun _ hk => trivial)⟩, ⟨by (with_reducible repeat (first | apply Kd.R_alloc | apply Kd.R_drewN | apply Kd.R_drew)); exact Kd.R_mono (Kd.R_far (p := ⟨gb358, 1, none⟩) (Kd.R_types HO366.out BK358.out (by decide)) (fun _ hk => hk.2) (.slice Ao47 y364.length co47)) (fun _ hk => trivial)⟩, ⟨by (with_reducible repeat (first | refine blk_drewN ?_ _ | refine blk_drew ?_ | refine blk_alloc ?_ _)); refine blk_far ?_ NB349_358.out _; (with_reducible repeat (first | refine blk_drewN ?_ _ | refine blk_drew ?_ | refine blk_alloc ?_ _)); exact BK349.out⟩, ⟨by (with_reducible repeat (first | refine blk_drewN ?_ _ | refine blk_drew ?_ | refine blk_alloc ?_ _)); refine blk_far ?_ NB350_358.out _; (with_reducible repeat (first | refine blk_drewN ?_ _ | refine blk_drew ?_ | refine blk_alloc ?_ _)); exact BK350.out⟩, ⟨by (with_reducible repeat (first | refine blk_drewN ?_ _ | refine blk_drew ?_ | refine blk_alloc ?_ _)); refine blk_put (cs := #[.int .i64 (rd l1_0 a3), u359001]) ?_ 1 _ rfl; (with_reducible repeat (first | refine blk_drewN ?_ _ | refine blk_drew ?_ | refine blk_alloc ?_ _)); exact BK358.out⟩, ⟨by repeat (first | (with_reducible first | exact HB.out | apply below_alloc | apply pw_below_drewN | apply below_drew1 | refine below_set ?_ GE349.out | refine below_set ?_ GE350.out | refine below_set ?_ GE358.out | refine below_set ?_ GE362.out) | exact HB.out)⟩⟩
             ·rw [if_neg c33] at H
              exact absurd H (by simp)
            ·rw [if_neg c32] at H
             exact absurd H (by simp)
           ·rw [if_neg c31] at H
            exact absurd H (by simp)
          ·rw [if_neg c29] at H
           have c29b0 : decide (0 < (rd l1_0 (ji24))) = false := decide_eq_false c29
           clear c29
           by_cases c49 : x359001_1.length < 8796093022208
           ·rw [if_pos c49] at H
            have LMc49 := Aside0.mk c49
            clear c49
            obtain ⟨y367, hy367⟩ : ∃ y_ : List (S112), y_ = (x359001_1 ++ [(⟨true, rd l1_0 (ji24)⟩ : S112)]) := ⟨_, rfl⟩
            replace H : (spec_l21Obj.l0 k1 l2 a3 t351 (wrap64 (x11_1 + 1)) l1_0 a1_1 a1_2 a1_3 l1_4 (rd l1_0 a3) y367) = some (r1, r2) := by first | (rw [hy367]; with_reducible exact H) | (have H2_ := (Option.bind_some _ _).symm.trans H; rw [hy367]; with_reducible exact H2_) | (have H2_ := (Option.bind_some _ _).symm.trans H; with_reducible exact H2_) | with_reducible exact H | (rw [hy367]; exact H) | exact H
            have Ny367 := Aside0.mk hy367
            clear hy367
            have H' := Aside0.mk H
            clear H
            obtain ⟨Ao50, co50, eo50⟩ := Kd.R_slice HO_9.out
            subst eo50
            try go_wp2
            have n0_ := Aside0.mk (Kd.R_drew HO_9.out)
            have n1_ := Aside0.mk (Kd.R_drew HO_359001.out)
            have n2_ := Aside0.mk (blk_drew BK349.out)
            have n3_ := Aside0.mk (blk_drew BK350.out)
            have n4_ := Aside0.mk (blk_drew BK358.out)
            have n5_ := Aside0.mk (below_drew1 HB.out)
            clear HO_9
            clear HO_359001
            clear BK349
            clear BK350
            clear BK358
            clear HB
            have HO_9 := n0_
            have HO_359001 := n1_
            have BK349 := n2_
            have BK350 := n3_
            have BK358 := n4_
            have HB := n5_
            clear n0_ n1_ n2_ n3_ n4_ n5_
            have p360 : 0 ≤ (x11_1 : Int) := of_decide_eq_true z3
            have q360 : x11_1 < (t351.length : Int) := of_decide_eq_true z3
            obtain ⟨ad360, e360, hx360_0⟩ := Kd.at_bool (Kd.R_reads' HO_9.out).2.2 x11_1 p360 q360
            (try rw [← Nbq27.out] at hx360_0)
            cases e360
            replace p360 := eq_true p360
            replace q360 := eq_true q360
            have p361 : 0 ≤ ((ji24) : Int) := of_decide_eq_true z3
            have q361 : (ji24) < (l1_0.length : Int) := of_decide_eq_true z3
            obtain ⟨ad361, e361, hx361_0⟩ := Kd.at_int HR1_0.out (ji24) p361 q361
            have hw361_0 := hx361_0
            obtain rfl : ad354 = ad361 := (by injection e361)
            replace hx361_0 := (HB.out.cell (World.block_lt_of_cell? w _ hx361_0)).trans hx361_0
            replace p361 := eq_true p361
            replace q361 := eq_true q361
            refine start_ (n := 14) (S := fun w' => w'.cell? ⟨gb349, 0, none⟩ = some (.slice (some ad354) l1_0.length c1_0) ∧ w'.cell? ⟨gb349, 1, none⟩ = some (.int .i64 a1_1) ∧ w'.cell? ⟨gb349, 2, none⟩ = some (.int .i64 a1_2) ∧ w'.cell? ⟨gb349, 3, none⟩ = some (.int .i64 a1_3) ∧ w'.cell? ⟨gb349, 4, none⟩ = some (.slice A1_4 l1_4.length c1_4) ∧ w'.cell? (ad360.add (x11_1).toNat) = some (.bool true) ∧ w'.cell? (ad354.add ((ji24)).toNat) = some (.int .i64 (rd l1_0 (ji24)))) (ds := []) #[false, false, false, false, false, false, false, false, false, false, false, false, false, false] (by kernel_rfl) rfl rfl ⟨(blk_cell BK349.out 0).trans rfl, (blk_cell BK349.out 1).trans rfl, (blk_cell BK349.out 2).trans rfl, (blk_cell BK349.out 3).trans rfl, (blk_cell BK349.out 4).trans rfl, hx360_0, ((HB.out.cell (World.block_lt_of_cell? w _ hw361_0)).trans hw361_0)⟩ (fun hHeld => ?_); refine with_tabW spec_l21Obj.tab6 spec_l21Obj.bits6 (fun HT_ HW_ => ?_)
            generalize wr.drew = w51 at HO_9 HO_359001 BK349 BK350 BK358 HB hx360_0 hx361_0 hHeld ⊢
            refine pS 0 34 (lA 14 1) ?_ (hc := (any_of HT_.out (by kernel_rfl)))
            refine pS 1 35 (lA 14 3) ?_ (hc := (any_of HT_.out (by kernel_rfl)))
            refine pS 2 36 (lA 14 7) ?_ (hc := (any_of HT_.out (by kernel_rfl)))
            refine pS 4 38 (lA 14 23) ?_ (hc := (any_of HT_.out (by kernel_rfl)))
            refine pS 6 40 (lA 14 87) ?_ (hc := (any_of HT_.out (by kernel_rfl)))
            refine pS 7 41 (lA 14 215) ?_ (hc := (any_of HT_.out (by kernel_rfl)))
            refine pS 8 42 (lA 14 471) ?_ (hc := (any_of HT_.out (by kernel_rfl)))
            refine tS 3 37 (lA 14 479) rfl rfl (take_ofW HT_.out HW_.out (by kernel_rfl)) hHeld z31 ?_
            refine tS 5 39 (lA 14 511) rfl rfl (take_ofW HT_.out HW_.out (by kernel_rfl)) hHeld z31 ?_
            refine pS 9 43 (lA 14 1023) ?_ (hc := (any_of HT_.out (by kernel_rfl)))
            refine tS 10 44 (lA 14 2047) rfl rfl (take_ofW HT_.out HW_.out (by kernel_rfl)) hHeld z31 ?_
            refine pS 11 45 (lA 14 4095) ?_ (hc := (any_of HT_.out (by kernel_rfl)))
            refine one_ (i := 12) (N := some 12) (lA 14 8191) rfl rfl (one_of HT_.out (by kernel_rfl)) (by decide) (fun K hK => ?_)
            refine box_step ?hg (N := 12) ?hd (cs := #[.bool false, .int .i64 0]) (t := 112) ?hr ?_; (case hd => rfl); (case hg => rfl); (case hr => first | (go_simp; done) | (go_simp; rfl))
            intro gb362 hg w52 hbox hb
            have HS5_ := (hb.cell (World.block_lt_of_cell? _ _ (hHeld.2.2.2.2.2.1))).trans (hHeld.2.2.2.2.2.1)
            have n0_ := Aside0.mk (Kd.R_below (by (with_reducible repeat (first | apply Kd.R_alloc | apply Kd.R_drewN | apply Kd.R_drew)); exact HO_9.out) hb)
            have n1_ := Aside0.mk (Kd.R_below (Kd.R_elderB (by (with_reducible repeat (first | apply Kd.R_alloc | apply Kd.R_drewN | apply Kd.R_drew)); exact HO_359001.out) gb362 (Nat.le_of_eq hg.symm)) hb)
            have n2_ := Aside0.mk (blk_below (g := gb349) (o := .cells #[.slice (some ad354) l1_0.length c1_0, .int .i64 a1_1, .int .i64 a1_2, .int .i64 a1_3, .slice A1_4 l1_4.length c1_4] 29 (0, 0)) z10 hb)
            have n3_ := Aside0.mk (blk_below (g := gb350) (o := .cells #[.int .i64 0, .slice none 0 0] 86 (0, 0)) z16 hb)
            have n4_ := Aside0.mk (blk_below (g := gb358) (o := .cells #[.int .i64 (rd l1_0 a3), u359001] 86 (0, 0)) z29 hb)
            have n5_ := Aside0.mk (below_step z12 hb)
            have n6_ := Aside0.mk (hbox)
            have n7_ := Aside0.mk ((by rw [hg]; exact (below_size z12) : w.heap.size ≤ gb362))
            have n8_ := Aside0.mk ((by rw [hg]; exact (below_size z12) : w.heap.size ≤ gb362))
            have n9_ := Aside0.mk (z48)
            have n10_ := Aside0.mk (z49)
            have n11_ := Aside0.mk ((by rw [hg]; exact Nat.ne_of_lt (blk_lt (g := gb350) (o := .cells #[.int .i64 0, .slice none 0 0] 86 (0, 0)) z16) : gb350 ≠ gb362))
            have n12_ := Aside0.mk ((by rw [hg]; exact Nat.ne_of_gt (blk_lt (g := gb350) (o := .cells #[.int .i64 0, .slice none 0 0] 86 (0, 0)) z16) : gb362 ≠ gb350))
            have n13_ := Aside0.mk ((by rw [hg]; exact Nat.ne_of_lt (blk_lt (g := gb358) (o := .cells #[.int .i64 (rd l1_0 a3), u359001] 86 (0, 0)) z29) : gb358 ≠ gb362))
            have n14_ := Aside0.mk ((by rw [hg]; exact Nat.ne_of_gt (blk_lt (g := gb358) (o := .cells #[.int .i64 (rd l1_0 a3), u359001] 86 (0, 0)) z29) : gb362 ≠ gb358))
            clear HO_9
            clear HO_359001
            clear BK349
            clear BK350
            clear BK358
            clear HB
            have HO_9 := n0_
            have HO_359001 := n1_
            have BK349 := n2_
            have BK350 := n3_
            have BK358 := n4_
            have HB := n5_
            have BK362 := n6_
            have GW362 := n7_
            have GE362 := n8_
            have NB349_362 := n9_
            have NB362_349 := n10_
            have NB350_362 := n11_
            have NB362_350 := n12_
            have NB358_362 := n13_
            have NB362_358 := n14_
            clear n0_ n1_ n2_ n3_ n4_ n5_ n6_ n7_ n8_ n9_ n10_ n11_ n12_ n13_ n14_
            clear hb hbox hg
            refine hK.out _ _ ⟨(blk_cell BK349.out 0).trans rfl, (blk_cell BK349.out 1).trans rfl, (blk_cell BK349.out 2).trans rfl, (blk_cell BK349.out 3).trans rfl, (blk_cell BK349.out 4).trans rfl, HS5_, ((HB.out.cell (World.block_lt_of_cell? w _ hw361_0)).trans hw361_0)⟩ (fun hHeld => ?_)
            clear hK K
            refine norm_ (a' := ?_) ?_ ?_
            rotate_left
            ·show Act.put _ (some 12) _ = _
             simp only [Act.put, lA1, lA2, lA3, i64_w, i32_w]
             rfl
            refine one_ (i := 13) (N := none) (lA 14 16383) rfl rfl (one_of HT_.out (by kernel_rfl)) (by decide) (fun K hK => ?_)
            have hs53 : w52.cell? ⟨gb362, 0, none⟩ = some (.bool false) := (blk_cell BK362.out 0).trans rfl
            have hfs53 := blk_frozen BK362.out 0
            have hns53_0 := NB349_362.out
            have hns53_1 := NB350_362.out
            have hns53_2 := NB358_362.out
            have hms53_0 := NB362_349.out
            have hms53_1 := NB362_350.out
            have hms53_2 := NB362_358.out
            have hs54 : w52.cell? ⟨gb362, 1, none⟩ = some (.int .i64 0) := (blk_cell BK362.out 1).trans rfl
            have hfs54 := blk_frozen BK362.out 1
            have hns54_0 := NB349_362.out
            have hns54_1 := NB350_362.out
            have hns54_2 := NB358_362.out
            have hms54_0 := NB362_349.out
            have hms54_1 := NB362_350.out
            have hms54_2 := NB362_358.out
            refine skip_ (w1 := ?_) (by rfl) rfl ?_ ?_
            rotate_left
            ·go_simp
             rfl
            refine hK.out _ _ ⟨((cell_far (p := ⟨gb362, _, none⟩) NB349_362.out _).trans (((cell_far (p := ⟨gb362, _, none⟩) NB349_362.out _).trans (hHeld.1)))), ((cell_far (p := ⟨gb362, _, none⟩) NB349_362.out _).trans (((cell_far (p := ⟨gb362, _, none⟩) NB349_362.out _).trans (hHeld.2.1)))), ((cell_far (p := ⟨gb362, _, none⟩) NB349_362.out _).trans (((cell_far (p := ⟨gb362, _, none⟩) NB349_362.out _).trans (hHeld.2.2.1)))), ((cell_far (p := ⟨gb362, _, none⟩) NB349_362.out _).trans (((cell_far (p := ⟨gb362, _, none⟩) NB349_362.out _).trans (hHeld.2.2.2.1)))), ((cell_far (p := ⟨gb362, _, none⟩) NB349_362.out _).trans (((cell_far (p := ⟨gb362, _, none⟩) NB349_362.out _).trans (hHeld.2.2.2.2.1)))), ((cell_far (p := ⟨gb362, _, none⟩) z15 _).trans (((cell_far (p := ⟨gb362, _, none⟩) z15 _).trans (hHeld.2.2.2.2.2.1)))), ((cell_far (p := ⟨gb362, _, none⟩) z7 _).trans (((cell_far (p := ⟨gb362, _, none⟩) z7 _).trans (hHeld.2.2.2.2.2.2))))⟩ (fun hHeld => ?_)
            clear hK K
            refine done_ (done_of HT_.out (by kernel_rfl)) ?_
            have hnb55 := NB362_349.out
            have hnc55 := NB349_362.out
            have hnb56 := NB362_350.out
            have hnc56 := NB350_362.out
            have hnb57 := NB362_358.out
            have hnc57 := NB358_362.out
            obtain ⟨hcz58_0, hcz58_1⟩ := cb2 BK362
            have hcz58y : ∀ a_ b_ : Value, ((w52.setCell ⟨gb362, 0, none⟩ a_).setCell ⟨gb362, 1, none⟩ b_).cell? ⟨gb362, 1, none⟩ = some b_ := fun a_ b_ => World.cell?_setCell_same' _ _ _ (by rw [World.cell?_setCell_other _ ⟨gb362, 0, none⟩ _ _ (fun e_ => by cases e_), hcz58_1]; rfl)
            have hfz58_0 := blk_frozen BK362.out 0
            have hfz58_1 := blk_frozen BK362.out 1
            have hnb59 := NB358_349.out
            have hnc59 := NB349_358.out
            have hnb60 := NB358_350.out
            have hnc60 := NB350_358.out
            obtain ⟨hcz61_0, hcz61_1⟩ := cb2 BK358
            have hcz61y : ∀ a_ b_ : Value, ((w52.setCell ⟨gb358, 0, none⟩ a_).setCell ⟨gb358, 1, none⟩ b_).cell? ⟨gb358, 1, none⟩ = some b_ := fun a_ b_ => World.cell?_setCell_same' _ _ _ (by rw [World.cell?_setCell_other _ ⟨gb358, 0, none⟩ _ _ (fun e_ => by cases e_), hcz61_1]; rfl)
            have hfz61_0 := blk_frozen BK358.out 0
            have hfz61_1 := blk_frozen BK358.out 1
            try go_wp2_with (first | ((with_reducible refine gate_builtin (b := .append) (xs := #[.tmp 61, .tmp 63]) rfl ?_); at_builtin; refine Kd.R_append k112 (w0 := w) w.heap.size rfl (.tmp 61) (.tmp 63) 84 112 (.agg #[(.bool false), (.int .i64 0)]) 16 rfl Try.underlying84 info112 rfl (by decide) (by omega) u359001 x359001_1 (⟨true, rd l1_0 (ji24)⟩ : S112) [.bool true, .int .i64 (rd l1_0 (ji24))] (fun k_ => k_ ≠ gb362) (fun _ => False) rfl (by first | (go_simp; done) | (go_simp; rfl)) ?aP (fun _ hk => hk.elim) ?aF ?aO ?aB ?aS ?aL ?_; (case aP => exact k112_mkM _ _ _ (⟨true, rd l1_0 (ji24)⟩ : S112)); (case aB => exact z22); (case aF => exact (fun k_ hk => Kd.freshB (g := gb362) (o := .cells #[.bool true, .int .i64 (rd l1_0 (ji24))] 112 (0, 0)) (by (with_reducible repeat (first | refine blk_drewN ?_ _ | refine blk_drew ?_ | refine blk_alloc ?_ _)); refine blk_put (cs := #[.bool true, .int .i64 0]) ?_ 1 _ rfl; (with_reducible repeat (first | refine blk_drewN ?_ _ | refine blk_drew ?_ | refine blk_alloc ?_ _)); refine blk_put (cs := #[.bool false, .int .i64 0]) ?_ 0 _ rfl; (with_reducible repeat (first | refine blk_drewN ?_ _ | refine blk_drew ?_ | refine blk_alloc ?_ _)); exact BK362.out) k_ hk)); (case aO => exact (by (with_reducible repeat (first | apply Kd.R_alloc | apply Kd.R_drewN | apply Kd.R_drew)); exact Kd.R_mono (Kd.R_far (p := ⟨gb362, 1, none⟩) (Kd.R_far (p := ⟨gb362, 0, none⟩) (Kd.R_mono HO_359001.out (fun k_ hk => (⟨hk, hk.2⟩ : _ ∧ k_ ≠ gb362))) (fun _ hk => hk.2) (.bool true)) (fun _ hk => hk.2) (.int .i64 (rd l1_0 (ji24)))) (fun _ hk => hk.1.2))); (case aS => exact (below_size z22)); (case aL => have := LMc49.out; omega); intro v368 w62 ho hb hg hat; rw [← Ny367.out] at ho; have n0_ := Aside0.mk (Kd.R_over' (by (with_reducible repeat (first | apply Kd.R_alloc | apply Kd.R_drewN | apply Kd.R_drew)); exact (Kd.R_mono (Kd.R_far (p := ⟨gb362, 1, none⟩) (Kd.R_far (p := ⟨gb362, 0, none⟩) (Kd.R_types HO_9.out BK362.out (by decide)) (fun _ hk => hk.2) (.bool true)) (fun _ hk => hk.2) (.int .i64 (rd l1_0 (ji24)))) (fun _ h_ => h_.1))) (Kd.R_typed (by (with_reducible repeat (first | apply Kd.R_alloc | apply Kd.R_drewN | apply Kd.R_drew)); exact (Kd.R_mono (Kd.R_far (p := ⟨gb362, 1, none⟩) (Kd.R_far (p := ⟨gb362, 0, none⟩) (Kd.R_mono HO_359001.out (fun k_ hk => (⟨hk, hk.2⟩ : _ ∧ k_ ≠ gb362))) (fun _ hk => hk.2) (.bool true)) (fun _ hk => hk.2) (.int .i64 (rd l1_0 (ji24)))) (fun _ h_ => h_.1)))) (by decide) hg); have n1_ := Aside0.mk (blk_grown (g := gb349) (o := .cells #[.slice (some ad354) l1_0.length c1_0, .int .i64 a1_1, .int .i64 a1_2, .int .i64 a1_3, .slice A1_4 l1_4.length c1_4] 29 (0, 0)) (by (with_reducible repeat (first | refine blk_drewN ?_ _ | refine blk_drew ?_ | refine blk_alloc ?_ _)); refine blk_far ?_ NB349_362.out _; (with_reducible repeat (first | refine blk_drewN ?_ _ | refine blk_drew ?_ | refine blk_alloc ?_ _)); refine blk_far ?_ NB349_362.out _; (with_reducible repeat (first | refine blk_drewN ?_ _ | refine blk_drew ?_ | refine blk_alloc ?_ _)); exact BK349.out) hg (Kd.R_ne HO_359001.out BK349.out (by decide))); have n2_ := Aside0.mk (blk_grown (g := gb350) (o := .cells #[.int .i64 0, .slice none 0 0] 86 (0, 0)) (by (with_reducible repeat (first | refine blk_drewN ?_ _ | refine blk_drew ?_ | refine blk_alloc ?_ _)); refine blk_far ?_ NB350_362.out _; (with_reducible repeat (first | refine blk_drewN ?_ _ | refine blk_drew ?_ | refine blk_alloc ?_ _)); refine blk_far ?_ NB350_362.out _; (with_reducible repeat (first | refine blk_drewN ?_ _ | refine blk_drew ?_ | refine blk_alloc ?_ _)); exact BK350.out) hg (Kd.R_ne HO_359001.out BK350.out (by decide))); have n3_ := Aside0.mk (blk_grown (g := gb358) (o := .cells #[.int .i64 (rd l1_0 a3), u359001] 86 (0, 0)) (by (with_reducible repeat (first | refine blk_drewN ?_ _ | refine blk_drew ?_ | refine blk_alloc ?_ _)); refine blk_far ?_ NB358_362.out _; (with_reducible repeat (first | refine blk_drewN ?_ _ | refine blk_drew ?_ | refine blk_alloc ?_ _)); refine blk_far ?_ NB358_362.out _; (with_reducible repeat (first | refine blk_drewN ?_ _ | refine blk_drew ?_ | refine blk_alloc ?_ _)); exact BK358.out) hg (Kd.R_ne HO_359001.out BK358.out (by decide))); have n4_ := Aside0.mk (blk_grown (g := gb362) (o := .cells #[.bool true, .int .i64 (rd l1_0 (ji24))] 112 (0, 0)) (by (with_reducible repeat (first | refine blk_drewN ?_ _ | refine blk_drew ?_ | refine blk_alloc ?_ _)); refine blk_put (cs := #[.bool true, .int .i64 0]) ?_ 1 _ rfl; (with_reducible repeat (first | refine blk_drewN ?_ _ | refine blk_drew ?_ | refine blk_alloc ?_ _)); refine blk_put (cs := #[.bool false, .int .i64 0]) ?_ 0 _ rfl; (with_reducible repeat (first | refine blk_drewN ?_ _ | refine blk_drew ?_ | refine blk_alloc ?_ _)); exact BK362.out) hg (Kd.R_away HO_359001.out (fun _ hk => hk.2))); have n5_ := Aside0.mk (hb); have n6_ := Aside0.mk (ho); clear HO_9; clear BK349; clear BK350; clear BK358; clear BK362; clear HB; clear HO_359001; have HO_9 := n0_; have BK349 := n1_; have BK350 := n2_; have BK358 := n3_; have BK362 := n4_; have HB := n5_; have HO369 := n6_; clear n0_ n1_ n2_ n3_ n4_ n5_ n6_; clear ho hb hg hat; obtain ⟨Ao63, co63, eo63⟩ := Kd.R_slice HO369.out; subst eo63; obtain ⟨hcz64_0, hcz64_1, hfz64_0, hfz64_1⟩ := cbf2 BK358))
            go_roundg k1
            case measure => have := HK1.out; omega
            case rel => exact ⟨(wrap64 (x11_1 + 1)), (y367), (.slice Ao63 y367.length co63), z5, H', ⟨by have := HK1.out; omega⟩, ⟨by (with_reducible repeat (first | apply Kd.R_alloc | apply Kd.R_drewN | apply Kd.R_drew)); exact Kd.R_mono (Kd.R_far (p := ⟨gb358, 1, none⟩) (Kd.R_types HO_9.out BK358.out (by decide)) (fun _ hk => hk.2) (.slice Ao63 y367.length co63)) (fun _ hk => trivial)⟩, ⟨by (with_reducible repeat (first | apply Kd.R_alloc | apply Kd.R_drewN | apply Kd.R_drew)); exact Kd.R_mono (Kd.R_far (p := ⟨gb358, 1, none⟩) (Kd.R_types HO369.out BK358.out (by decide)) (fun _ hk => hk.2) (.slice Ao63 y367.length co63)) (fun _ hk => trivial)⟩, ⟨by (with_reducible repeat (first | refine blk_drewN ?_ _ | refine blk_drew ?_ | refine blk_alloc ?_ _)); refine blk_far ?_ NB349_358.out _; (with_reducible repeat (first | refine blk_drewN ?_ _ | refine blk_drew ?_ | refine blk_alloc ?_ _)); exact BK349.out⟩, ⟨by (with_reducible repeat (first | refine blk_drewN ?_ _ | refine blk_drew ?_ | refine blk_alloc ?_ _)); refine blk_far ?_ NB350_358.out _; (with_reducible repeat (first | refine blk_drewN ?_ _ | refine blk_drew ?_ | refine blk_alloc ?_ _)); exact BK350.out⟩, ⟨by (with_reducible repeat (first | refine blk_drewN ?_ _ | refine blk_drew ?_ | refine blk_alloc ?_ _)); refine blk_put (cs := #[.int .i64 (rd l1_0 a3), u359001]) ?_ 1 _ rfl; (with_reducible repeat (first | refine blk_drewN ?_ _ | refine blk_drew ?_ | refine blk_alloc ?_ _)); exact BK358.out⟩, ⟨by repeat (first | (with_reducible first | exact HB.out | apply below_alloc | apply pw_below_drewN | apply below_drew1 | refine below_set ?_ GE349.out | refine below_set ?_ GE350.out | refine below_set ?_ GE358.out | refine below_set ?_ GE362.out) | exact HB.out)⟩⟩
           ·rw [if_neg c49] at H
            exact absurd H (by simp)
         ·replace c28 := Bool.eq_false_iff.mpr c28
          subst c28
          rw [if_neg (show ¬ (false = true) by decide)] at H
          by_cases c65 : x359001_1.length < 8796093022208
          ·rw [if_pos c65] at H
           have LMc65 := Aside0.mk c65
           clear c65
           obtain ⟨y370, hy370⟩ : ∃ y_ : List (S112), y_ = (x359001_1 ++ [(⟨false, rd l1_0 (ji24)⟩ : S112)]) := ⟨_, rfl⟩
           replace H : (spec_l21Obj.l0 k1 l2 a3 t351 (wrap64 (x11_1 + 1)) l1_0 a1_1 a1_2 a1_3 l1_4 (rd l1_0 a3) y370) = some (r1, r2) := by first | (rw [hy370]; with_reducible exact H) | (have H2_ := (Option.bind_some _ _).symm.trans H; rw [hy370]; with_reducible exact H2_) | (have H2_ := (Option.bind_some _ _).symm.trans H; with_reducible exact H2_) | with_reducible exact H | (rw [hy370]; exact H) | exact H
           have Ny370 := Aside0.mk hy370
           clear hy370
           have H' := Aside0.mk H
           clear H
           obtain ⟨Ao66, co66, eo66⟩ := Kd.R_slice HO_9.out
           subst eo66
           try go_wp2
           have n0_ := Aside0.mk (Kd.R_drew HO_9.out)
           have n1_ := Aside0.mk (Kd.R_drew HO_359001.out)
           have n2_ := Aside0.mk (blk_drew BK349.out)
           have n3_ := Aside0.mk (blk_drew BK350.out)
           have n4_ := Aside0.mk (blk_drew BK358.out)
           have n5_ := Aside0.mk (below_drew1 HB.out)
           clear HO_9
           clear HO_359001
           clear BK349
           clear BK350
           clear BK358
           clear HB
           have HO_9 := n0_
           have HO_359001 := n1_
           have BK349 := n2_
           have BK350 := n3_
           have BK358 := n4_
           have HB := n5_
           clear n0_ n1_ n2_ n3_ n4_ n5_
           have p360 : 0 ≤ (x11_1 : Int) := of_decide_eq_true z3
           have q360 : x11_1 < (t351.length : Int) := of_decide_eq_true z3
           obtain ⟨ad360, e360, hx360_0⟩ := Kd.at_bool (Kd.R_reads' HO_9.out).2.2 x11_1 p360 q360
           (try rw [← Nbq27.out] at hx360_0)
           cases e360
           replace p360 := eq_true p360
           replace q360 := eq_true q360
           have p361 : 0 ≤ ((ji24) : Int) := of_decide_eq_true z3
           have q361 : (ji24) < (l1_0.length : Int) := of_decide_eq_true z3
           obtain ⟨ad361, e361, hx361_0⟩ := Kd.at_int HR1_0.out (ji24) p361 q361
           have hw361_0 := hx361_0
           obtain rfl : ad354 = ad361 := (by injection e361)
           replace hx361_0 := (HB.out.cell (World.block_lt_of_cell? w _ hx361_0)).trans hx361_0
           replace p361 := eq_true p361
           replace q361 := eq_true q361
           refine start_ (n := 14) (S := fun w' => w'.cell? ⟨gb349, 0, none⟩ = some (.slice (some ad354) l1_0.length c1_0) ∧ w'.cell? ⟨gb349, 1, none⟩ = some (.int .i64 a1_1) ∧ w'.cell? ⟨gb349, 2, none⟩ = some (.int .i64 a1_2) ∧ w'.cell? ⟨gb349, 3, none⟩ = some (.int .i64 a1_3) ∧ w'.cell? ⟨gb349, 4, none⟩ = some (.slice A1_4 l1_4.length c1_4) ∧ w'.cell? (ad360.add (x11_1).toNat) = some (.bool false) ∧ w'.cell? (ad354.add ((ji24)).toNat) = some (.int .i64 (rd l1_0 (ji24)))) (ds := []) #[false, false, false, false, false, false, false, false, false, false, false, false, false, false] (by kernel_rfl) rfl rfl ⟨(blk_cell BK349.out 0).trans rfl, (blk_cell BK349.out 1).trans rfl, (blk_cell BK349.out 2).trans rfl, (blk_cell BK349.out 3).trans rfl, (blk_cell BK349.out 4).trans rfl, hx360_0, ((HB.out.cell (World.block_lt_of_cell? w _ hw361_0)).trans hw361_0)⟩ (fun hHeld => ?_); refine with_tabW spec_l21Obj.tab6 spec_l21Obj.bits6 (fun HT_ HW_ => ?_)
           generalize wr.drew = w67 at HO_9 HO_359001 BK349 BK350 BK358 HB hx360_0 hx361_0 hHeld ⊢
           refine pS 0 34 (lA 14 1) ?_ (hc := (any_of HT_.out (by kernel_rfl)))
           refine pS 1 35 (lA 14 3) ?_ (hc := (any_of HT_.out (by kernel_rfl)))
           refine pS 2 36 (lA 14 7) ?_ (hc := (any_of HT_.out (by kernel_rfl)))
           refine pS 4 38 (lA 14 23) ?_ (hc := (any_of HT_.out (by kernel_rfl)))
           refine pS 6 40 (lA 14 87) ?_ (hc := (any_of HT_.out (by kernel_rfl)))
           refine pS 7 41 (lA 14 215) ?_ (hc := (any_of HT_.out (by kernel_rfl)))
           refine pS 8 42 (lA 14 471) ?_ (hc := (any_of HT_.out (by kernel_rfl)))
           refine tS 3 37 (lA 14 479) rfl rfl (take_ofW HT_.out HW_.out (by kernel_rfl)) hHeld z31 ?_
           refine tS 5 39 (lA 14 511) rfl rfl (take_ofW HT_.out HW_.out (by kernel_rfl)) hHeld z31 ?_
           refine pS 9 43 (lA 14 1023) ?_ (hc := (any_of HT_.out (by kernel_rfl)))
           refine tS 10 44 (lA 14 2047) rfl rfl (take_ofW HT_.out HW_.out (by kernel_rfl)) hHeld z31 ?_
           refine pS 11 45 (lA 14 4095) ?_ (hc := (any_of HT_.out (by kernel_rfl)))
           refine one_ (i := 12) (N := some 12) (lA 14 8191) rfl rfl (one_of HT_.out (by kernel_rfl)) (by decide) (fun K hK => ?_)
           refine box_step ?hg (N := 12) ?hd (cs := #[.bool false, .int .i64 0]) (t := 112) ?hr ?_; (case hd => rfl); (case hg => rfl); (case hr => first | (go_simp; done) | (go_simp; rfl))
           intro gb362 hg w68 hbox hb
           have HS5_ := (hb.cell (World.block_lt_of_cell? _ _ (hHeld.2.2.2.2.2.1))).trans (hHeld.2.2.2.2.2.1)
           have n0_ := Aside0.mk (Kd.R_below (by (with_reducible repeat (first | apply Kd.R_alloc | apply Kd.R_drewN | apply Kd.R_drew)); exact HO_9.out) hb)
           have n1_ := Aside0.mk (Kd.R_below (Kd.R_elderB (by (with_reducible repeat (first | apply Kd.R_alloc | apply Kd.R_drewN | apply Kd.R_drew)); exact HO_359001.out) gb362 (Nat.le_of_eq hg.symm)) hb)
           have n2_ := Aside0.mk (blk_below (g := gb349) (o := .cells #[.slice (some ad354) l1_0.length c1_0, .int .i64 a1_1, .int .i64 a1_2, .int .i64 a1_3, .slice A1_4 l1_4.length c1_4] 29 (0, 0)) z10 hb)
           have n3_ := Aside0.mk (blk_below (g := gb350) (o := .cells #[.int .i64 0, .slice none 0 0] 86 (0, 0)) z16 hb)
           have n4_ := Aside0.mk (blk_below (g := gb358) (o := .cells #[.int .i64 (rd l1_0 a3), u359001] 86 (0, 0)) z29 hb)
           have n5_ := Aside0.mk (below_step z12 hb)
           have n6_ := Aside0.mk (hbox)
           have n7_ := Aside0.mk ((by rw [hg]; exact (below_size z12) : w.heap.size ≤ gb362))
           have n8_ := Aside0.mk ((by rw [hg]; exact (below_size z12) : w.heap.size ≤ gb362))
           have n9_ := Aside0.mk (z48)
           have n10_ := Aside0.mk (z49)
           have n11_ := Aside0.mk ((by rw [hg]; exact Nat.ne_of_lt (blk_lt (g := gb350) (o := .cells #[.int .i64 0, .slice none 0 0] 86 (0, 0)) z16) : gb350 ≠ gb362))
           have n12_ := Aside0.mk ((by rw [hg]; exact Nat.ne_of_gt (blk_lt (g := gb350) (o := .cells #[.int .i64 0, .slice none 0 0] 86 (0, 0)) z16) : gb362 ≠ gb350))
           have n13_ := Aside0.mk ((by rw [hg]; exact Nat.ne_of_lt (blk_lt (g := gb358) (o := .cells #[.int .i64 (rd l1_0 a3), u359001] 86 (0, 0)) z29) : gb358 ≠ gb362))
           have n14_ := Aside0.mk ((by rw [hg]; exact Nat.ne_of_gt (blk_lt (g := gb358) (o := .cells #[.int .i64 (rd l1_0 a3), u359001] 86 (0, 0)) z29) : gb362 ≠ gb358))
           clear HO_9
           clear HO_359001
           clear BK349
           clear BK350
           clear BK358
           clear HB
           have HO_9 := n0_
           have HO_359001 := n1_
           have BK349 := n2_
           have BK350 := n3_
           have BK358 := n4_
           have HB := n5_
           have BK362 := n6_
           have GW362 := n7_
           have GE362 := n8_
           have NB349_362 := n9_
           have NB362_349 := n10_
           have NB350_362 := n11_
           have NB362_350 := n12_
           have NB358_362 := n13_
           have NB362_358 := n14_
           clear n0_ n1_ n2_ n3_ n4_ n5_ n6_ n7_ n8_ n9_ n10_ n11_ n12_ n13_ n14_
           clear hb hbox hg
           refine hK.out _ _ ⟨(blk_cell BK349.out 0).trans rfl, (blk_cell BK349.out 1).trans rfl, (blk_cell BK349.out 2).trans rfl, (blk_cell BK349.out 3).trans rfl, (blk_cell BK349.out 4).trans rfl, HS5_, ((HB.out.cell (World.block_lt_of_cell? w _ hw361_0)).trans hw361_0)⟩ (fun hHeld => ?_)
           clear hK K
           refine norm_ (a' := ?_) ?_ ?_
           rotate_left
           ·show Act.put _ (some 12) _ = _
            simp only [Act.put, lA1, lA2, lA3, i64_w, i32_w]
            rfl
           refine one_ (i := 13) (N := none) (lA 14 16383) rfl rfl (one_of HT_.out (by kernel_rfl)) (by decide) (fun K hK => ?_)
           have hs69 : w68.cell? ⟨gb362, 0, none⟩ = some (.bool false) := (blk_cell BK362.out 0).trans rfl
           have hfs69 := blk_frozen BK362.out 0
           have hns69_0 := NB349_362.out
           have hns69_1 := NB350_362.out
           have hns69_2 := NB358_362.out
           have hms69_0 := NB362_349.out
           have hms69_1 := NB362_350.out
           have hms69_2 := NB362_358.out
           have hs70 : w68.cell? ⟨gb362, 1, none⟩ = some (.int .i64 0) := (blk_cell BK362.out 1).trans rfl
           have hfs70 := blk_frozen BK362.out 1
           have hns70_0 := NB349_362.out
           have hns70_1 := NB350_362.out
           have hns70_2 := NB358_362.out
           have hms70_0 := NB362_349.out
           have hms70_1 := NB362_350.out
           have hms70_2 := NB362_358.out
           refine skip_ (w1 := ?_) (by rfl) rfl ?_ ?_
           rotate_left
           ·go_simp
            rfl
           refine hK.out _ _ ⟨((cell_far (p := ⟨gb362, _, none⟩) NB349_362.out _).trans (((cell_far (p := ⟨gb362, _, none⟩) NB349_362.out _).trans (hHeld.1)))), ((cell_far (p := ⟨gb362, _, none⟩) NB349_362.out _).trans (((cell_far (p := ⟨gb362, _, none⟩) NB349_362.out _).trans (hHeld.2.1)))), ((cell_far (p := ⟨gb362, _, none⟩) NB349_362.out _).trans (((cell_far (p := ⟨gb362, _, none⟩) NB349_362.out _).trans (hHeld.2.2.1)))), ((cell_far (p := ⟨gb362, _, none⟩) NB349_362.out _).trans (((cell_far (p := ⟨gb362, _, none⟩) NB349_362.out _).trans (hHeld.2.2.2.1)))), ((cell_far (p := ⟨gb362, _, none⟩) NB349_362.out _).trans (((cell_far (p := ⟨gb362, _, none⟩) NB349_362.out _).trans (hHeld.2.2.2.2.1)))), ((cell_far (p := ⟨gb362, _, none⟩) z15 _).trans (((cell_far (p := ⟨gb362, _, none⟩) z15 _).trans (hHeld.2.2.2.2.2.1)))), ((cell_far (p := ⟨gb362, _, none⟩) z7 _).trans (((cell_far (p := ⟨gb362, _, none⟩) z7 _).trans (hHeld.2.2.2.2.2.2))))⟩ (fun hHeld => ?_)
           clear hK K
           refine done_ (done_of HT_.out (by kernel_rfl)) ?_
           have hnb71 := NB362_349.out
           have hnc71 := NB349_362.out
           have hnb72 := NB362_350.out
           have hnc72 := NB350_362.out
           have hnb73 := NB362_358.out
           have hnc73 := NB358_362.out
           obtain ⟨hcz74_0, hcz74_1⟩ := cb2 BK362
           have hcz74y : ∀ a_ b_ : Value, ((w68.setCell ⟨gb362, 0, none⟩ a_).setCell ⟨gb362, 1, none⟩ b_).cell? ⟨gb362, 1, none⟩ = some b_ := fun a_ b_ => World.cell?_setCell_same' _ _ _ (by rw [World.cell?_setCell_other _ ⟨gb362, 0, none⟩ _ _ (fun e_ => by cases e_), hcz74_1]; rfl)
           have hfz74_0 := blk_frozen BK362.out 0
           have hfz74_1 := blk_frozen BK362.out 1
           have hnb75 := NB358_349.out
           have hnc75 := NB349_358.out
           have hnb76 := NB358_350.out
           have hnc76 := NB350_358.out
           obtain ⟨hcz77_0, hcz77_1⟩ := cb2 BK358
           have hcz77y : ∀ a_ b_ : Value, ((w68.setCell ⟨gb358, 0, none⟩ a_).setCell ⟨gb358, 1, none⟩ b_).cell? ⟨gb358, 1, none⟩ = some b_ := fun a_ b_ => World.cell?_setCell_same' _ _ _ (by rw [World.cell?_setCell_other _ ⟨gb358, 0, none⟩ _ _ (fun e_ => by cases e_), hcz77_1]; rfl)
           have hfz77_0 := blk_frozen BK358.out 0
           have hfz77_1 := blk_frozen BK358.out 1
           try go_wp2_with (first | ((with_reducible refine gate_builtin (b := .append) (xs := #[.tmp 61, .tmp 63]) rfl ?_); at_builtin; refine Kd.R_append k112 (w0 := w) w.heap.size rfl (.tmp 61) (.tmp 63) 84 112 (.agg #[(.bool false), (.int .i64 0)]) 16 rfl Try.underlying84 info112 rfl (by decide) (by omega) u359001 x359001_1 (⟨false, rd l1_0 (ji24)⟩ : S112) [.bool false, .int .i64 (rd l1_0 (ji24))] (fun k_ => k_ ≠ gb362) (fun _ => False) rfl (by first | (go_simp; done) | (go_simp; rfl)) ?aP (fun _ hk => hk.elim) ?aF ?aO ?aB ?aS ?aL ?_; (case aP => exact k112_mkM _ _ _ (⟨false, rd l1_0 (ji24)⟩ : S112)); (case aB => exact z22); (case aF => exact (fun k_ hk => Kd.freshB (g := gb362) (o := .cells #[.bool false, .int .i64 (rd l1_0 (ji24))] 112 (0, 0)) (by (with_reducible repeat (first | refine blk_drewN ?_ _ | refine blk_drew ?_ | refine blk_alloc ?_ _)); refine blk_put (cs := #[.bool false, .int .i64 0]) ?_ 1 _ rfl; (with_reducible repeat (first | refine blk_drewN ?_ _ | refine blk_drew ?_ | refine blk_alloc ?_ _)); refine blk_put (cs := #[.bool false, .int .i64 0]) ?_ 0 _ rfl; (with_reducible repeat (first | refine blk_drewN ?_ _ | refine blk_drew ?_ | refine blk_alloc ?_ _)); exact BK362.out) k_ hk)); (case aO => exact (by (with_reducible repeat (first | apply Kd.R_alloc | apply Kd.R_drewN | apply Kd.R_drew)); exact Kd.R_mono (Kd.R_far (p := ⟨gb362, 1, none⟩) (Kd.R_far (p := ⟨gb362, 0, none⟩) (Kd.R_mono HO_359001.out (fun k_ hk => (⟨hk, hk.2⟩ : _ ∧ k_ ≠ gb362))) (fun _ hk => hk.2) (.bool false)) (fun _ hk => hk.2) (.int .i64 (rd l1_0 (ji24)))) (fun _ hk => hk.1.2))); (case aS => exact (below_size z22)); (case aL => have := LMc65.out; omega); intro v371 w78 ho hb hg hat; rw [← Ny370.out] at ho; have n0_ := Aside0.mk (Kd.R_over' (by (with_reducible repeat (first | apply Kd.R_alloc | apply Kd.R_drewN | apply Kd.R_drew)); exact (Kd.R_mono (Kd.R_far (p := ⟨gb362, 1, none⟩) (Kd.R_far (p := ⟨gb362, 0, none⟩) (Kd.R_types HO_9.out BK362.out (by decide)) (fun _ hk => hk.2) (.bool false)) (fun _ hk => hk.2) (.int .i64 (rd l1_0 (ji24)))) (fun _ h_ => h_.1))) (Kd.R_typed (by (with_reducible repeat (first | apply Kd.R_alloc | apply Kd.R_drewN | apply Kd.R_drew)); exact (Kd.R_mono (Kd.R_far (p := ⟨gb362, 1, none⟩) (Kd.R_far (p := ⟨gb362, 0, none⟩) (Kd.R_mono HO_359001.out (fun k_ hk => (⟨hk, hk.2⟩ : _ ∧ k_ ≠ gb362))) (fun _ hk => hk.2) (.bool false)) (fun _ hk => hk.2) (.int .i64 (rd l1_0 (ji24)))) (fun _ h_ => h_.1)))) (by decide) hg); have n1_ := Aside0.mk (blk_grown (g := gb349) (o := .cells #[.slice (some ad354) l1_0.length c1_0, .int .i64 a1_1, .int .i64 a1_2, .int .i64 a1_3, .slice A1_4 l1_4.length c1_4] 29 (0, 0)) (by (with_reducible repeat (first | refine blk_drewN ?_ _ | refine blk_drew ?_ | refine blk_alloc ?_ _)); refine blk_far ?_ NB349_362.out _; (with_reducible repeat (first | refine blk_drewN ?_ _ | refine blk_drew ?_ | refine blk_alloc ?_ _)); refine blk_far ?_ NB349_362.out _; (with_reducible repeat (first | refine blk_drewN ?_ _ | refine blk_drew ?_ | refine blk_alloc ?_ _)); exact BK349.out) hg (Kd.R_ne HO_359001.out BK349.out (by decide))); have n2_ := Aside0.mk (blk_grown (g := gb350) (o := .cells #[.int .i64 0, .slice none 0 0] 86 (0, 0)) (by (with_reducible repeat (first | refine blk_drewN ?_ _ | refine blk_drew ?_ | refine blk_alloc ?_ _)); refine blk_far ?_ NB350_362.out _; (with_reducible repeat (first | refine blk_drewN ?_ _ | refine blk_drew ?_ | refine blk_alloc ?_ _)); refine blk_far ?_ NB350_362.out _; (with_reducible repeat (first | refine blk_drewN ?_ _ | refine blk_drew ?_ | refine blk_alloc ?_ _)); exact BK350.out) hg (Kd.R_ne HO_359001.out BK350.out (by decide))); have n3_ := Aside0.mk (blk_grown (g := gb358) (o := .cells #[.int .i64 (rd l1_0 a3), u359001] 86 (0, 0)) (by (with_reducible repeat (first | refine blk_drewN ?_ _ | refine blk_drew ?_ | refine blk_alloc ?_ _)); refine blk_far ?_ NB358_362.out _; (with_reducible repeat (first | refine blk_drewN ?_ _ | refine blk_drew ?_ | refine blk_alloc ?_ _)); refine blk_far ?_ NB358_362.out _; (with_reducible repeat (first | refine blk_drewN ?_ _ | refine blk_drew ?_ | refine blk_alloc ?_ _)); exact BK358.out) hg (Kd.R_ne HO_359001.out BK358.out (by decide))); have n4_ := Aside0.mk (blk_grown (g := gb362) (o := .cells #[.bool false, .int .i64 (rd l1_0 (ji24))] 112 (0, 0)) (by (with_reducible repeat (first | refine blk_drewN ?_ _ | refine blk_drew ?_ | refine blk_alloc ?_ _)); refine blk_put (cs := #[.bool false, .int .i64 0]) ?_ 1 _ rfl; (with_reducible repeat (first | refine blk_drewN ?_ _ | refine blk_drew ?_ | refine blk_alloc ?_ _)); refine blk_put (cs := #[.bool false, .int .i64 0]) ?_ 0 _ rfl; (with_reducible repeat (first | refine blk_drewN ?_ _ | refine blk_drew ?_ | refine blk_alloc ?_ _)); exact BK362.out) hg (Kd.R_away HO_359001.out (fun _ hk => hk.2))); have n5_ := Aside0.mk (hb); have n6_ := Aside0.mk (ho); clear HO_9; clear BK349; clear BK350; clear BK358; clear BK362; clear HB; clear HO_359001; have HO_9 := n0_; have BK349 := n1_; have BK350 := n2_; have BK358 := n3_; have BK362 := n4_; have HB := n5_; have HO372 := n6_; clear n0_ n1_ n2_ n3_ n4_ n5_ n6_; clear ho hb hg hat; obtain ⟨Ao79, co79, eo79⟩ := Kd.R_slice HO372.out; subst eo79; obtain ⟨hcz80_0, hcz80_1, hfz80_0, hfz80_1⟩ := cbf2 BK358))
           go_roundg k1
           case measure => have := HK1.out; omega
           case rel => exact ⟨(wrap64 (x11_1 + 1)), (y370), (.slice Ao79 y370.length co79), z5, H', ⟨by have := HK1.out; omega⟩, ⟨by (with_reducible repeat (first | apply Kd.R_alloc | apply Kd.R_drewN | apply Kd.R_drew)); exact Kd.R_mono (Kd.R_far (p := ⟨gb358, 1, none⟩) (Kd.R_types HO_9.out BK358.out (by decide)) (fun _ hk => hk.2) (.slice Ao79 y370.length co79)) (fun _ hk => trivial)⟩, ⟨by (with_reducible repeat (first | apply Kd.R_alloc | apply Kd.R_drewN | apply Kd.R_drew)); exact Kd.R_mono (Kd.R_far (p := ⟨gb358, 1, none⟩) (Kd.R_types HO372.out BK358.out (by decide)) (fun _ hk => hk.2) (.slice Ao79 y370.length co79)) (fun _ hk => trivial)⟩, ⟨by (with_reducible repeat (first | refine blk_drewN ?_ _ | refine blk_drew ?_ | refine blk_alloc ?_ _)); refine blk_far ?_ NB349_358.out _; (with_reducible repeat (first | refine blk_drewN ?_ _ | refine blk_drew ?_ | refine blk_alloc ?_ _)); exact BK349.out⟩, ⟨by (with_reducible repeat (first | refine blk_drewN ?_ _ | refine blk_drew ?_ | refine blk_alloc ?_ _)); refine blk_far ?_ NB350_358.out _; (with_reducible repeat (first | refine blk_drewN ?_ _ | refine blk_drew ?_ | refine blk_alloc ?_ _)); exact BK350.out⟩, ⟨by (with_reducible repeat (first | refine blk_drewN ?_ _ | refine blk_drew ?_ | refine blk_alloc ?_ _)); refine blk_put (cs := #[.int .i64 (rd l1_0 a3), u359001]) ?_ 1 _ rfl; (with_reducible repeat (first | refine blk_drewN ?_ _ | refine blk_drew ?_ | refine blk_alloc ?_ _)); exact BK358.out⟩, ⟨by repeat (first | (with_reducible first | exact HB.out | apply below_alloc | apply pw_below_drewN | apply below_drew1 | refine below_set ?_ GE349.out | refine below_set ?_ GE350.out | refine below_set ?_ GE358.out | refine below_set ?_ GE362.out) | exact HB.out)⟩⟩
          ·rw [if_neg c65] at H
           exact absurd H (by simp)
        ·rw [if_neg c26] at H
         exact absurd H (by simp)
       ·rw [if_neg c25] at H
        exact absurd H (by simp)
      ·rw [if_neg c23] at H
       exact absurd H (by simp)
     ·rw [if_neg c22] at H
      have c22b0 : decide (x11_1 < (t351.length : Int)) = false := decide_eq_false c22
      clear c22
      simp only [Option.some.injEq, Prod.mk.injEq] at H
      obtain ⟨rfl, rfl⟩ := H
      obtain ⟨Ao81, co81, eo81⟩ := Kd.R_slice HO_9.out
      subst eo81
      have hnb82 := NB358_349.out
      have hnc82 := NB349_358.out
      have hnb83 := NB358_350.out
      have hnc83 := NB350_358.out
      obtain ⟨hcz84_0, hcz84_1⟩ := cb2 BK358
      have hcz84y : ∀ a_ b_ : Value, ((wr.setCell ⟨gb358, 0, none⟩ a_).setCell ⟨gb358, 1, none⟩ b_).cell? ⟨gb358, 1, none⟩ = some b_ := fun a_ b_ => World.cell?_setCell_same' _ _ _ (by rw [World.cell?_setCell_other _ ⟨gb358, 0, none⟩ _ _ (fun e_ => by cases e_), hcz84_1]; rfl)
      have hfz84_0 := blk_frozen BK358.out 0
      have hfz84_1 := blk_frozen BK358.out 1
      have hnb85 := NB350_349.out
      have hnc85 := NB349_350.out
      obtain ⟨hcz86_0, hcz86_1⟩ := cb2 BK350
      have hcz86y : ∀ a_ b_ : Value, ((wr.setCell ⟨gb350, 0, none⟩ a_).setCell ⟨gb350, 1, none⟩ b_).cell? ⟨gb350, 1, none⟩ = some b_ := fun a_ b_ => World.cell?_setCell_same' _ _ _ (by rw [World.cell?_setCell_other _ ⟨gb350, 0, none⟩ _ _ (fun e_ => by cases e_), hcz86_1]; rfl)
      have hfz86_0 := blk_frozen BK350.out 0
      have hfz86_1 := blk_frozen BK350.out 1
      obtain ⟨Ao87, co87, eo87⟩ := Kd.R_slice HO_359001.out
      subst eo87
      go_wp2
      refine bodyPost_ret (results_cell_row rfl _ _ gb350 86 #[.int .i64 (rd l1_0 a3), .slice Ao87 x359001_1.length co87] (0, 0) _ rfl (by (with_reducible repeat (first | refine blk_drewN ?_ _ | refine blk_drew ?_ | refine blk_alloc ?_ _)); refine blk_put (cs := #[.int .i64 (rd l1_0 a3), .slice none 0 0]) ?_ 1 _ rfl; (with_reducible repeat (first | refine blk_drewN ?_ _ | refine blk_drew ?_ | refine blk_alloc ?_ _)); refine blk_put (cs := #[.int .i64 0, .slice none 0 0]) ?_ 0 _ rfl; (with_reducible repeat (first | refine blk_drewN ?_ _ | refine blk_drew ?_ | refine blk_alloc ?_ _)); exact BK350.out) Try.underlying86 rfl (by kernel_rfl)) rfl ?_
      exact ⟨_, by first | rfl | (simp [errW_none, errW_some] <;> rfl) | (simp [*, errW_none, errW_some] <;> rfl), by (with_reducible repeat (first | apply Kd.R_alloc | apply Kd.R_drewN | apply Kd.R_drew)); exact Kd.R_mono (Kd.R_far (p := ⟨gb350, 1, none⟩) (Kd.R_far (p := ⟨gb350, 0, none⟩) (Kd.R_types HO_359001.out BK350.out (by decide)) (fun _ hk => hk.2) (.int .i64 (rd l1_0 a3))) (fun _ hk => hk.2) (.slice Ao87 x359001_1.length co87)) (fun _ hk => trivial), by repeat (first | (with_reducible first | exact HB.out | apply below_alloc | apply pw_below_drewN | apply below_drew1 | refine below_set ?_ GE349.out | refine below_set ?_ GE350.out | refine below_set ?_ GE358.out) | exact HB.out)⟩
  ·rw [if_neg c7] at H
   exact absurd H (by simp)
 ·rw [if_neg c6] at H
  exact absurd H (by simp)
end Go.Proofs.Ytmniglgahodghaa.K
namespace Go.Proofs.Ytmniglgahodghaa.K
open Go.RowKit Go.Proofs.YtmniglgahodghaaW.PrintWords Go.Proofs.YtmniglgahodghaaW.PrintLast Go.Proofs.YtmniglgahodghaaW.PrintMore
attribute [local go_sem] max2_int min2_int max_two min_two max_three min_three max_four min_four
set_option linter.unusedVariables false
set_option linter.unusedSimpArgs false
def spec_l21Objs.l0 : Nat → List (S69) → List Int → List Int → List (S86) → Int → List Int → Int → Int → Int → List Bool → Option ((List (S86)))
  | 0, _, _, _, _, _, _, _, _, _, _ => none
  | k + 1, x0, x5, x7, x8, x9, x374000, x374001, x374002, x374003, x374004 => if x9 < (x5.length : Int) then (if 0 ≤ x9 then ((spec_l21Obj.f k x0 x374000 x374001 x374002 x374003 x374004 x7 (rd x5 x9)).bind fun bt385 => (if x8.length < 4398046511104 then (spec_l21Objs.l0 k x0 x5 x7 (x8 ++ [(⟨bt385.1, bt385.2⟩ : S86)]) (wrap64 (x9 + 1)) x374000 x374001 x374002 x374003 x374004) else (none))) else (none)) else (some x8)
def spec_l21Objs.f (k : Nat) (l0 : List (S69)) (l1_0 : List Int) (a1_1 : Int) (a1_2 : Int) (a1_3 : Int) (l1_4 : List Bool) : Option ((List (S86))) := (spec_l21Walk.f k l0 l1_0 a1_1 a1_2 a1_3 l1_4).bind fun bt374 => ((spec_l21Number.f k (l1_0.length : Int) bt374.1).bind fun t378 => (spec_l21Objs.l0 k l0 bt374.1 t378 (([] : List (S86))) 0 l1_0 a1_1 a1_2 a1_3 l1_4))
def spec_l21Objs.T7 : Bool × List (List Nat × List Nat) := (true, [([], []), ([], []), ([], []), ([], []), ([], []), ([], []), ([4, 5], [4, 5]), ([6], [6]), ([1, 2, 3, 7], [1, 2, 3, 7]), ([8], [8]), ([0, 9, 8], [0, 9]), ([10, 10, 0, 1, 2, 3, 4, 5, 6, 7, 8, 9, 10], [0, 10])])
def spec_l21Objs.B7 : List Nat := [0, 0, 0, 0, 0, 0, 48, 112, 254, 510, 1023, 2047]
theorem spec_l21Objs.tab7 : rtab .any (opsOf Try.f52 7) = spec_l21Objs.T7 := by kernel_rfl
theorem spec_l21Objs.bits7 : waitsOk spec_l21Objs.T7.2 spec_l21Objs.B7 = true := by kernel_rfl
set_option maxHeartbeats 8000000 in
set_option maxRecDepth 100000 in
theorem spec_l21Objs.calls (k : Nat) (A0 : Option Addr) (c0 : Nat) (l0 : List (S69)) (A1_0 : Option Addr) (c1_0 : Nat) (l1_0 : List Int) (a1_1 : Int) (a1_2 : Int) (a1_3 : Int) (A1_4 : Option Addr) (c1_4 : Nat) (l1_4 : List Bool) (r : List (S86)) (w : World) (hr0 : Kd.C k69 w A0 l0.length l0) (hc0 : l0.length ≤ c0) (hr1_0 : Kd.C (Kd.int .i64) w A1_0 l1_0.length l1_0) (hc1_0 : l1_0.length ≤ c1_0) (hr1_4 : Kd.C Kd.bool w A1_4 l1_4.length l1_4) (hc1_4 : l1_4.length ≤ c1_4) (h : spec_l21Objs.f k l0 l1_0 a1_1 a1_2 a1_3 l1_4 = some r) :
  Calls Try.prog 52 #[.slice A0 l0.length c0, .agg #[.slice A1_0 l1_0.length c1_0, .int .i64 a1_1, .int .i64 a1_2, .int .i64 a1_3, .slice A1_4 l1_4.length c1_4]] w fun e w' => ∃ v0_ : Value, e = .returned (v0_) ∧ Kd.S k86 86 w' w.heap.size (fun _ => True) v0_ r ∧ Below w.heap.size w w' := by
 have hu29 := Try.underlying29
 have HR0 := Aside0.mk hr0
 have HC0 := Aside0.mk hc0
 clear hr0 hc0
 have HR1_0 := Aside0.mk hr1_0
 have HC1_0 := Aside0.mk hc1_0
 clear hr1_0 hc1_0
 have HR1_4 := Aside0.mk hr1_4
 have HC1_4 := Aside0.mk hc1_4
 clear hr1_4 hc1_4
 have HB := Aside0.mk (Below.refl w.heap.size w)
 have H : ((spec_l21Walk.f k l0 l1_0 a1_1 a1_2 a1_3 l1_4).bind fun bt374 => ((spec_l21Number.f k (l1_0.length : Int) bt374.1).bind fun t378 => (spec_l21Objs.l0 k l0 bt374.1 t378 (([] : List (S86))) 0 l1_0 a1_1 a1_2 a1_3 l1_4))) = some r := h
 clear h
 replace H := Option.bind_eq_some_iff.mp H
 obtain ⟨⟨t374, t377⟩, A30, H⟩ := H
 try dsimp only at H
 have A3 := Aside0.mk A30
 clear A30
 replace H := Option.bind_eq_some_iff.mp H
 obtain ⟨t378, A40, H⟩ := H
 try dsimp only at H
 have A4 := Aside0.mk A40
 clear A40
 obtain ⟨y381, hy381⟩ : ∃ y_ : List (S86), y_ = (([] : List (S86))) := ⟨_, rfl⟩
 replace H : (spec_l21Objs.l0 k l0 t374 t378 y381 0 l1_0 a1_1 a1_2 a1_3 l1_4) = some r := by first | (rw [hy381]; with_reducible exact H) | (have H2_ := (Option.bind_some _ _).symm.trans H; rw [hy381]; with_reducible exact H2_) | (have H2_ := (Option.bind_some _ _).symm.trans H; with_reducible exact H2_) | with_reducible exact H | (rw [hy381]; exact H) | exact H
 have Ny381 := Aside0.mk hy381
 clear hy381
 have H' := Aside0.mk H
 clear H
 go_enter Try.func52, Try.ntmps52
 go_wp2_with (first | ((with_reducible refine gate_dst (N := 3) rfl ?_); refine box_event ?hg (N := 3) ?hd (cs := #[.slice A1_0 l1_0.length c1_0, .int .i64 a1_1, .int .i64 a1_2, .int .i64 a1_3, .slice A1_4 l1_4.length c1_4]) (t := 29) ?hr ?_; (case hd => rfl); (case hg => rfl); (case hr => first | (go_simp; done) | (go_simp; rfl)); intro gb373 hg w5 hbox hb; have BK373 := Aside0.mk (hbox); have GW373 := Aside0.mk ((by rw [hg]; exact (below_size z1) : w.heap.size ≤ gb373)); have GE373 := Aside0.mk ((by rw [hg]; exact (below_size z1) : w.heap.size ≤ gb373)); replace HB := Aside0.mk (below_step z1 hb); clear hb hbox hg; obtain ⟨hcz6_0, hcz6_1, hcz6_2, hcz6_3, hcz6_4, hfz6_0, hfz6_1, hfz6_2, hfz6_3, hfz6_4⟩ := cbf5 BK373) | ((with_reducible refine gate_callee (f := 37) rfl ?_); refine goesL_ (some 13) rfl rfl Try.func37 (by kernel_rfl) rfl #[.slice A0 l0.length c0, .agg #[.slice A1_0 l1_0.length c1_0, .int .i64 a1_1, .int .i64 a1_2, .int .i64 a1_3, .slice A1_4 l1_4.length c1_4]] rfl z2 ?_; (with_reducible refine (spec_l21Walk.calls k _ _ l0 _ _ l1_0 a1_1 a1_2 a1_3 _ _ l1_4 t374 t377 _ ?side1 ?side2 ?side3 ?side4 ?side5 ?side6 A3.out).mono ?_); (case side1 => repeat (first | exact (Kd.C_below HR0.out HB.out) | (with_reducible refine Kd.C_alloc ?_ _) | (with_reducible refine Kd.C_drewN ?_ _) | (with_reducible refine Kd.C_drew ?_))); (case side2 => exact HC0.out); (case side3 => repeat (first | exact (Kd.C_below HR1_0.out HB.out) | (with_reducible refine Kd.C_alloc ?_ _) | (with_reducible refine Kd.C_drewN ?_ _) | (with_reducible refine Kd.C_drew ?_))); (case side4 => exact HC1_0.out); (case side5 => repeat (first | exact (Kd.C_below HR1_4.out HB.out) | (with_reducible refine Kd.C_alloc ?_ _) | (with_reducible refine Kd.C_drewN ?_ _) | (with_reducible refine Kd.C_drew ?_))); (case side6 => exact HC1_4.out); rintro e w7 ⟨v375, rfl, ho0, hb⟩; refine ⟨_, rfl, ?_⟩; have HO376 := Aside0.mk (Kd.R_lower ho0 (below_size z17)); replace BK373 := Aside0.mk (blk_below (g := gb373) (o := .cells #[.slice A1_0 l1_0.length c1_0, .int .i64 a1_1, .int .i64 a1_2, .int .i64 a1_3, .slice A1_4 l1_4.length c1_4] 29 (0, 0)) z46 hb); replace HB := Aside0.mk (below_step z17 hb); (try clear hb); (try clear hb2); (try clear hk); (try clear hi); (try clear ho0); obtain ⟨hcz8_0, hcz8_1, hcz8_2, hcz8_3, hcz8_4, hfz8_0, hfz8_1, hfz8_2, hfz8_3, hfz8_4⟩ := cbf5 BK373; obtain ⟨Ao9, co9, eo9⟩ := Kd.R_slice HO376.out; subst eo9) | ((with_reducible refine gate_callee (f := 87) rfl ?_); refine goesL_ (some 20) rfl rfl Try.func87 (by kernel_rfl) rfl #[.int .i64 (l1_0.length : Int), .slice Ao9 t374.length co9] rfl z2 ?_; (with_reducible refine (spec_l21Number.calls k (l1_0.length : Int) _ _ t374 t378 _ ?side1 ?side2 A4.out).mono ?_); (case side1 => repeat (first | exact (Kd.R_reads' HO376.out).2.2 | (with_reducible refine Kd.C_alloc ?_ _) | (with_reducible refine Kd.C_drewN ?_ _) | (with_reducible refine Kd.C_drew ?_))); (case side2 => exact (Kd.R_reads' HO376.out).2.1); rintro e w10 ⟨v379, rfl, ho0, hb⟩; refine ⟨_, rfl, ?_⟩; have HO380 := Aside0.mk (Kd.R_lower (Kd.R_new' ho0 (Kd.R_lt (by (with_reducible repeat (first | apply Kd.R_alloc | apply Kd.R_drewN | apply Kd.R_drew)); exact HO376.out))) (below_size z17)); replace HO376 := Aside0.mk (Kd.R_elder' (by (with_reducible repeat (first | apply Kd.R_alloc | apply Kd.R_drewN | apply Kd.R_drew)); exact HO376.out) (Kd.R_base ho0) hb); replace BK373 := Aside0.mk (blk_below (g := gb373) (o := .cells #[.slice A1_0 l1_0.length c1_0, .int .i64 a1_1, .int .i64 a1_2, .int .i64 a1_3, .slice A1_4 l1_4.length c1_4] 29 (0, 0)) z46 hb); replace HB := Aside0.mk (below_step z17 hb); (try clear hb); (try clear hb2); (try clear hk); (try clear hi); (try clear ho0)) | ((with_reducible refine gate_dst (N := 21) rfl ?_); refine Kd.S_lit k86 _ 86 ?hg (N := 21) ?hd (xs := ([] : List (S86))) (inner := []) (ok := fun _ => True) (okp := fun _ => True) ?hr ?hp (fun _ hk => hk) trivial (Below.refl _ _) (Nat.le_refl _) (by simp) ?_; (case hd => rfl); (case hg => rfl); (case hr => first | (go_simp; done) | (go_simp; rfl)); (case hp => exact (Reps.none _ _)); intro v382 w11 ho12 hb hg_ hnew_; clear hg_ hnew_; (first | rw [← Ny381.out] at ho12 | (simp only [Int.reduceToNat] at ho12; rw [← Ny381.out] at ho12)); have HO383 := Aside0.mk (Kd.S_lower ho12 (below_size z17)); replace HO376 := Aside0.mk (Kd.R_below (by (with_reducible repeat (first | apply Kd.R_alloc | apply Kd.R_drewN | apply Kd.R_drew)); exact HO376.out) hb); replace HO380 := Aside0.mk (Kd.R_below (by (with_reducible repeat (first | apply Kd.R_alloc | apply Kd.R_drewN | apply Kd.R_drew)); exact HO380.out) hb); replace BK373 := Aside0.mk (blk_below (g := gb373) (o := .cells #[.slice A1_0 l1_0.length c1_0, .int .i64 a1_1, .int .i64 a1_2, .int .i64 a1_3, .slice A1_4 l1_4.length c1_4] 29 (0, 0)) z46 hb); replace HB := Aside0.mk (below_step z17 hb); clear hb ho12))
 go_loopg [8, 9] k (fun kq v8 v9 w' => ∃ (x8_1 : List (S86)) (x9_1 : Int), v9 = .int .i64 x9_1 ∧ Aside0 (spec_l21Objs.l0 kq l0 t374 t378 x8_1 x9_1 l1_0 a1_1 a1_2 a1_3 l1_4 = some r) ∧ Aside0 (kq ≤ k) ∧ Aside0 (Kd.R (Kd.int .i64) 3 w' w.heap.size (fun k_ => some k_ ≠ (v379 : Value).ownBlock) (.slice Ao9 t374.length co9) t374) ∧ Aside0 (Kd.R (Kd.int .i64) 3 w' w.heap.size (fun k_ => some k_ ≠ ((.slice Ao9 t374.length co9) : Value).ownBlock) v379 t378) ∧ Aside0 (Kd.S k86 86 w' w.heap.size (fun _ => True) v8 x8_1) ∧ Aside0 (w'.heap[gb373]? = some (.cells #[(.slice A1_0 l1_0.length c1_0), .int .i64 a1_1, .int .i64 a1_2, .int .i64 a1_3, (.slice A1_4 l1_4.length c1_4)] 29 (0, 0))) ∧ Aside0 (Below w.heap.size w w'))
 case atStart => exact ⟨(y381), (0), z5, H', ⟨Nat.le_refl _⟩, ⟨by (with_reducible repeat (first | apply Kd.R_alloc | apply Kd.R_drewN | apply Kd.R_drew)); exact Kd.R_mono HO376.out (fun _ hk => hk.2)⟩, ⟨by (with_reducible repeat (first | apply Kd.R_alloc | apply Kd.R_drewN | apply Kd.R_drew)); exact Kd.R_mono HO380.out (fun _ hk => hk.2)⟩, ⟨by (with_reducible repeat (first | apply Kd.S_alloc | apply Kd.S_drewN | apply Kd.S_drew)); exact HO383.out⟩, ⟨by (with_reducible repeat (first | refine blk_drewN ?_ _ | refine blk_drew ?_ | refine blk_alloc ?_ _)); exact BK373.out⟩, ⟨by repeat (first | (with_reducible first | exact HB.out | apply below_alloc | apply pw_below_drewN | apply below_drew1 | refine below_set ?_ GE373.out) | exact HB.out)⟩⟩
 case round =>
  clear H'
  try clear c1
  try clear p2
  try clear c3
  try clear c5
  try clear c8
  try clear hcz6_0
  try clear hcz6_1
  try clear hcz6_2
  try clear hcz6_3
  try clear hcz6_4
  try clear hcz8_0
  try clear hcz8_1
  try clear hcz8_2
  try clear hcz8_3
  try clear hcz8_4
  try clear hfz6_0
  try clear hfz6_1
  try clear hfz6_2
  try clear hfz6_3
  try clear hfz6_4
  try clear hfz8_0
  try clear hfz8_1
  try clear hfz8_2
  try clear hfz8_3
  try clear hfz8_4
  obtain ⟨x8_1, x9_1, rfl, HA, HK1, HO_5, HO_7, HO_8, BK373, HB⟩ := hrel
  cases gk with
  | zero => exact absurd HA.out (by simp [spec_l21Objs.l0])
  | succ k1 =>
   have H := HA.out
   clear HA
   simp only [spec_l21Objs.l0] at H
   by_cases c13 : x9_1 < (t374.length : Int)
   ·rw [if_pos c13] at H
    have c13b0 : decide (x9_1 < (t374.length : Int)) = true := decide_eq_true c13
    clear c13
    by_cases c14 : 0 ≤ x9_1
    ·rw [if_pos c14] at H
     have c14b0 : decide (0 ≤ x9_1) = true := decide_eq_true c14
     clear c14
     replace H := Option.bind_eq_some_iff.mp H
     obtain ⟨⟨t385, t386⟩, A150, H⟩ := H
     try dsimp only at H
     have A15 := Aside0.mk A150
     clear A150
     by_cases c16 : x8_1.length < 4398046511104
     ·rw [if_pos c16] at H
      have LMc16 := Aside0.mk c16
      clear c16
      obtain ⟨y389, hy389⟩ : ∃ y_ : List (S86), y_ = (x8_1 ++ [(⟨t385, t386⟩ : S86)]) := ⟨_, rfl⟩
      replace H : (spec_l21Objs.l0 k1 l0 t374 t378 y389 (wrap64 (x9_1 + 1)) l1_0 a1_1 a1_2 a1_3 l1_4) = some r := by first | (rw [hy389]; with_reducible exact H) | (have H2_ := (Option.bind_some _ _).symm.trans H; rw [hy389]; with_reducible exact H2_) | (have H2_ := (Option.bind_some _ _).symm.trans H; with_reducible exact H2_) | with_reducible exact H | (rw [hy389]; exact H) | exact H
      have Ny389 := Aside0.mk hy389
      clear hy389
      have H' := Aside0.mk H
      clear H
      try go_wp2
      have n0_ := Aside0.mk (Kd.R_drew HO_5.out)
      have n1_ := Aside0.mk (Kd.R_drew HO_7.out)
      have n2_ := Aside0.mk (Kd.S_drew HO_8.out)
      have n3_ := Aside0.mk (blk_drew BK373.out)
      have n4_ := Aside0.mk (below_drew1 HB.out)
      clear HO_5
      clear HO_7
      clear HO_8
      clear BK373
      clear HB
      have HO_5 := n0_
      have HO_7 := n1_
      have HO_8 := n2_
      have BK373 := n3_
      have HB := n4_
      clear n0_ n1_ n2_ n3_ n4_
      have p384 : 0 ≤ (x9_1 : Int) := of_decide_eq_true z3
      have q384 : x9_1 < (t374.length : Int) := of_decide_eq_true z3
      obtain ⟨ad384, e384, hx384_0⟩ := Kd.at_int (Kd.R_reads' HO_5.out).2.2 x9_1 p384 q384
      cases e384
      replace p384 := eq_true p384
      replace q384 := eq_true q384
      obtain ⟨Ao18, co18, eo18⟩ := Kd.R_slice HO_7.out
      (first | subst eo18 | (injection eo18 with f1_ f2_ f3_; have f4_ := f1_.symm; have f5_ := f3_.symm; clear f1_ f2_ f3_; subst f4_; subst f5_))
      refine start_ (n := 12) (S := fun w' => w'.cell? ⟨gb373, 0, none⟩ = some (.slice A1_0 l1_0.length c1_0) ∧ w'.cell? ⟨gb373, 1, none⟩ = some (.int .i64 a1_1) ∧ w'.cell? ⟨gb373, 2, none⟩ = some (.int .i64 a1_2) ∧ w'.cell? ⟨gb373, 3, none⟩ = some (.int .i64 a1_3) ∧ w'.cell? ⟨gb373, 4, none⟩ = some (.slice A1_4 l1_4.length c1_4) ∧ w'.cell? (ad384.add (x9_1).toNat) = some (.int .i64 (rd t374 x9_1))) (ds := [9, 10]) #[false, false, false, false, false, false, false, false, false, false, false, false] (by kernel_rfl) rfl rfl ⟨(blk_cell BK373.out 0).trans rfl, (blk_cell BK373.out 1).trans rfl, (blk_cell BK373.out 2).trans rfl, (blk_cell BK373.out 3).trans rfl, (blk_cell BK373.out 4).trans rfl, hx384_0⟩ (fun hHeld => ?_); refine with_tabW spec_l21Objs.tab7 spec_l21Objs.bits7 (fun HT_ HW_ => ?_)
      generalize wr.drew = w17 at HO_5 HO_7 HO_8 BK373 HB hx384_0 hHeld ⊢
      refine pS 0 28 (lA 12 1) ?_ (hc := (any_of HT_.out (by kernel_rfl)))
      refine pS 1 29 (lA 12 3) ?_ (hc := (any_of HT_.out (by kernel_rfl)))
      refine pS 3 31 (lA 12 11) ?_ (hc := (any_of HT_.out (by kernel_rfl)))
      refine pS 4 32 (lA 12 27) ?_ (hc := (any_of HT_.out (by kernel_rfl)))
      refine pS 5 33 (lA 12 59) ?_ (hc := (any_of HT_.out (by kernel_rfl)))
      refine pS 6 34 (lA 12 123) ?_ (hc := (any_of HT_.out (by kernel_rfl)))
      refine tS 2 30 (lA 12 127) rfl rfl (take_ofW HT_.out HW_.out (by kernel_rfl)) hHeld z4 ?_
      refine tS 7 35 (lA 12 255) rfl rfl (take_ofW HT_.out HW_.out (by kernel_rfl)) hHeld z4 ?_
      refine one_ (i := 8) (N := some 36) (lA 12 511) rfl rfl (one_of HT_.out (by kernel_rfl)) (by decide) (fun K hK => ?_)
      refine goes_ Try.func88 (by kernel_rfl) rfl #[.slice A0 l0.length c0, .agg #[.slice A1_0 l1_0.length c1_0, .int .i64 a1_1, .int .i64 a1_2, .int .i64 a1_3, .slice A1_4 l1_4.length c1_4], .slice Ao18 t378.length co18, .int .i64 (rd t374 x9_1)] (by rfl) rfl rfl z2 ?_
      with_reducible refine (spec_l21Obj.calls k1 _ _ l0 _ _ l1_0 a1_1 a1_2 a1_3 _ _ l1_4 _ _ t378 (rd t374 x9_1) t385 t386 _ ?side1 ?side2 ?side3 ?side4 ?side5 ?side6 ?side7 ?side8 A15.out).mono ?_
      (case side1 => repeat (first | exact (Kd.C_below HR0.out HB.out) | (with_reducible refine Kd.C_alloc ?_ _) | (with_reducible refine Kd.C_drewN ?_ _) | (with_reducible refine Kd.C_drew ?_)))
      (case side2 => exact HC0.out)
      (case side3 => repeat (first | exact (Kd.C_below HR1_0.out HB.out) | (with_reducible refine Kd.C_alloc ?_ _) | (with_reducible refine Kd.C_drewN ?_ _) | (with_reducible refine Kd.C_drew ?_)))
      (case side4 => exact HC1_0.out)
      (case side5 => repeat (first | exact (Kd.C_below HR1_4.out HB.out) | (with_reducible refine Kd.C_alloc ?_ _) | (with_reducible refine Kd.C_drewN ?_ _) | (with_reducible refine Kd.C_drew ?_)))
      (case side6 => exact HC1_4.out)
      (case side7 => repeat (first | exact (Kd.R_reads' HO_7.out).2.2 | (with_reducible refine Kd.C_alloc ?_ _) | (with_reducible refine Kd.C_drewN ?_ _) | (with_reducible refine Kd.C_drew ?_)))
      (case side8 => exact (Kd.R_reads' HO_7.out).2.1)
      rintro e w19 ⟨v387, rfl, ho0, hb⟩
      have HS5_ := (hb.cell (World.block_lt_of_cell? _ _ (hHeld.2.2.2.2.2))).trans (hHeld.2.2.2.2.2)
      refine ⟨_, rfl, ?_⟩
      have n0_ := Aside0.mk (Kd.R_below (by (with_reducible repeat (first | apply Kd.R_alloc | apply Kd.R_drewN | apply Kd.R_drew)); exact HO_5.out) hb)
      have n1_ := Aside0.mk (Kd.R_below z50 hb)
      have n2_ := Aside0.mk (Kd.S_elder' (by (with_reducible repeat (first | apply Kd.S_alloc | apply Kd.S_drewN | apply Kd.S_drew)); exact HO_8.out) (Kd.R_base ho0) hb)
      have n3_ := Aside0.mk (Kd.R_lower ho0 (below_size z17))
      have n4_ := Aside0.mk (blk_below (g := gb373) (o := .cells #[.slice A1_0 l1_0.length c1_0, .int .i64 a1_1, .int .i64 a1_2, .int .i64 a1_3, .slice A1_4 l1_4.length c1_4] 29 (0, 0)) z46 hb)
      have n5_ := Aside0.mk (below_step z17 hb)
      clear HO_5
      clear HO_7
      clear HO_8
      clear BK373
      clear HB
      have HO_5 := n0_
      have HO_7 := n1_
      have HO_8 := n2_
      have HO388 := n3_
      have BK373 := n4_
      have HB := n5_
      clear n0_ n1_ n2_ n3_ n4_ n5_
      (try clear hb)
      (try clear hb2)
      (try clear hk)
      (try clear hi)
      (try clear ho0)
      obtain ⟨Ao21, co21, eo21⟩ := Kd.R_slice HO388.out
      (first | subst eo21 | (injection eo21 with f1_ f2_ f3_; have f4_ := f1_.symm; have f5_ := f3_.symm; clear f1_ f2_ f3_; subst f4_; subst f5_))
      refine hK.out _ _ ⟨(blk_cell BK373.out 0).trans rfl, (blk_cell BK373.out 1).trans rfl, (blk_cell BK373.out 2).trans rfl, (blk_cell BK373.out 3).trans rfl, (blk_cell BK373.out 4).trans rfl, HS5_⟩ (fun hHeld => ?_)
      clear hK K
      refine norm_ (a' := ?_) ?_ ?_
      rotate_left
      ·show Act.put _ (some 36) _ = _
       simp only [Act.put, lA1, lA2, lA3, i64_w, i32_w]
       rfl
      refine last_ (i := 9) (N := some 37) (lA 12 1023) rfl rfl (one_of HT_.out (by kernel_rfl)) (by decide) (fun K hK => ?_)
      refine value_ (w1 := ?_) (v := ?_) (by rfl) rfl ?_ ?_
      rotate_left 2
      ·go_simp
       constructor
       ·rfl
       ·rfl
      refine hK.out _ _ ?_
      clear hK K
      refine norm_ (a' := ?_) ?_ ?_
      rotate_left
      ·show Act.put _ (some 37) _ = _
       simp only [Act.put, lA1, lA2, lA3, i64_w, i32_w]
       rfl
      refine last_ (i := 10) (N := some 38) (lA 12 2047) rfl rfl (one_of HT_.out (by kernel_rfl)) (by decide) (fun K hK => ?_)
      refine Kd.S_append_step k86 (w0 := w) w.heap.size (by rfl) (.tmp 28) (.tmp 37) 40 86 (.agg #[(.int .i64 0), (.slice none 0 0)]) 32 rfl Try.underlying40 info86 rfl (by decide) (by omega) u8 x8_1 (⟨t385, t386⟩ : S86) [.int .i64 t385, .slice Ao21 t386.length co21] (fun _ => True) (fun k_ => some k_ = (.slice Ao21 t386.length co21 : Value).ownBlock) rfl rfl ?aP (fun k_ hk_ => ((Kd.R_mono (ok' := fun k_ => ((fun _ => True)) k_ ∧ some k_ ≠ (u8 : Value).ownBlock) (Kd.R_apart' (HO388.out) (Kd.S_typed HO_8.out) (by decide)) (fun k_ hk => ⟨trivial, hk.2⟩))).1 k_ hk_.symm) ?aF ?aO ?aB ?aS ?aL ?_
      (case aP => exact k86_mkM _ _ _ (⟨t385, t386⟩ : S86) (Kd.R_mono (Kd.R_tight rfl (Kd.R_mono (ok' := fun k_ => ((fun _ => True)) k_ ∧ some k_ ≠ (u8 : Value).ownBlock) (Kd.R_apart' (HO388.out) (Kd.S_typed HO_8.out) (by decide)) (fun k_ hk => ⟨trivial, hk.2⟩))) (fun _ h_ => h_)))
      (case aB => exact z17)
      (case aF => exact (fun _ _ => trivial))
      (case aO => exact (by (with_reducible repeat (first | apply Kd.S_alloc | apply Kd.S_drewN | apply Kd.S_drew)); exact Kd.S_mono HO_8.out (fun k_ hk => ⟨trivial, fun e_ => hk.2 e_⟩)))
      (case aS => exact (below_size z17))
      (case aL => have := LMc16.out; omega)
      intro v390 w20 ho hb hg hat
      rw [← Ny389.out] at ho
      have n0_ := Aside0.mk (Kd.R_over' (by (with_reducible repeat (first | apply Kd.R_alloc | apply Kd.R_drewN | apply Kd.R_drew)); exact HO_5.out) (Kd.S_typed (by (with_reducible repeat (first | apply Kd.S_alloc | apply Kd.S_drewN | apply Kd.S_drew)); exact HO_8.out)) (by decide) hg)
      have n1_ := Aside0.mk (Kd.R_over' z50 (Kd.S_typed (by (with_reducible repeat (first | apply Kd.S_alloc | apply Kd.S_drewN | apply Kd.S_drew)); exact HO_8.out)) (by decide) hg)
      have n2_ := Aside0.mk (blk_grown (g := gb373) (o := .cells #[.slice A1_0 l1_0.length c1_0, .int .i64 a1_1, .int .i64 a1_2, .int .i64 a1_3, .slice A1_4 l1_4.length c1_4] 29 (0, 0)) z46 hg (Kd.S_ne HO_8.out BK373.out (by decide)))
      have n3_ := Aside0.mk (hb)
      have n4_ := Aside0.mk (ho)
      clear HO_5
      clear HO_7
      clear BK373
      clear HB
      clear HO_8
      clear HO388
      have HO_5 := n0_
      have HO_7 := n1_
      have BK373 := n2_
      have HB := n3_
      have HO391 := n4_
      clear n0_ n1_ n2_ n3_ n4_
      clear ho hb hg hat
      refine hK.out _ _ ?_
      clear hK K
      refine norm_ (a' := ?_) ?_ ?_
      rotate_left
      ·show Act.put _ (some 38) _ = _
       simp only [Act.put, lA1, lA2, lA3, i64_w, i32_w]
       rfl
      refine pS 11 8 (lA 12 4095) ?_ (hc := (any_of HT_.out (by kernel_rfl)))
      refine done_ (done_of HT_.out (by kernel_rfl)) ?_
      try go_wp2
      go_roundg k1
      case measure => have := HK1.out; omega
      case rel => exact ⟨(y389), (wrap64 (x9_1 + 1)), z5, H', ⟨by have := HK1.out; omega⟩, ⟨by (with_reducible repeat (first | apply Kd.R_alloc | apply Kd.R_drewN | apply Kd.R_drew)); exact HO_5.out⟩, ⟨by (with_reducible repeat (first | apply Kd.R_alloc | apply Kd.R_drewN | apply Kd.R_drew)); exact HO_7.out⟩, ⟨by (with_reducible repeat (first | apply Kd.S_alloc | apply Kd.S_drewN | apply Kd.S_drew)); exact HO391.out⟩, ⟨by (with_reducible repeat (first | refine blk_drewN ?_ _ | refine blk_drew ?_ | refine blk_alloc ?_ _)); exact BK373.out⟩, ⟨by repeat (first | (with_reducible first | exact HB.out | apply below_alloc | apply pw_below_drewN | apply below_drew1 | refine below_set ?_ GE373.out) | exact HB.out)⟩⟩
     ·rw [if_neg c16] at H
      exact absurd H (by simp)
    ·rw [if_neg c14] at H
     exact absurd H (by simp)
   ·rw [if_neg c13] at H
    have c13b0 : decide (x9_1 < (t374.length : Int)) = false := decide_eq_false c13
    clear c13
    obtain rfl := Option.some.inj H
    go_wp2
    go_ret
    exact ⟨_, by first | rfl | (simp [errW_none, errW_some] <;> rfl) | (simp [*, errW_none, errW_some] <;> rfl), by (with_reducible repeat (first | apply Kd.S_alloc | apply Kd.S_drewN | apply Kd.S_drew)); exact HO_8.out, by repeat (first | (with_reducible first | exact HB.out | apply below_alloc | apply pw_below_drewN | apply below_drew1 | refine below_set ?_ GE373.out) | exact HB.out)⟩
end Go.Proofs.Ytmniglgahodghaa.K
