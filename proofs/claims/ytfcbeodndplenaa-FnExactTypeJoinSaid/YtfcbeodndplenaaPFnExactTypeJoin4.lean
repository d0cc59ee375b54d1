import Derived.Test.YtfcbeodndplenaaPFnExactTypeJoin3

/- Function 52, laws_toClass: what it answers, and the walk. (Printed or laid by this session's program wip/pr.py.) -/
namespace Go.Proofs.Ytfcbeodndplenaa.K
open Go.RowKit Go.Proofs.YtfcbeodndplenaaW.PrintWords Go.Proofs.YtfcbeodndplenaaW.PrintLast Go.Proofs.YtfcbeodndplenaaW.PrintMore
attribute [local go_sem] max2_int min2_int max_two min_two max_three min_three max_four min_four
set_option linter.unusedVariables false
set_option linter.unusedSimpArgs false

/-! ### laws_toClass: function 52 -/
def laws_toClass.f (k : Nat) (a0_0 : Int) (l0_1 : List Int) : Option (Int × List Int) := (laws_toIntS.f k l0_1).bind fun t138 => (some (a0_0, t138))
theorem laws_toClass.mono : ∀ a0 a1 k, LeO (laws_toClass.f k a0 a1) (laws_toClass.f (k + 1) a0 a1) := by
  intro a0 a1 k
  unfold laws_toClass.f
  repeat' first
      | (with_reducible exact laws_toIntS.mono _ _)
      | (with_reducible exact LeO.refl _)
      | (with_reducible exact LeO.none _)
      | (with_reducible refine LeO.ite ?_ ?_)
      | (with_reducible refine LeO.bind ?_ (fun _ => ?_))
      | exact laws_toIntS.mono _ _
      | exact LeO.none _
      | refine LeO.ite ?_ ?_
      | refine LeO.bind ?_ (fun _ => ?_)
set_option maxHeartbeats 8000000 in
set_option maxRecDepth 100000 in
theorem laws_toClass.calls (k : Nat) (a0_0 : Int) (A0_1 : Option Addr) (c0_1 : Nat) (l0_1 : List Int) (r1 : Int) (r2 : List Int) (w : World) (hr0_1 : Kd.C (Kd.int .i64) w A0_1 l0_1.length l0_1) (hc0_1 : l0_1.length ≤ c0_1) (h : laws_toClass.f k a0_0 l0_1 = some (r1, r2)) :
    Calls Try.prog 52 #[.agg #[.int .i64 a0_0, .slice A0_1 l0_1.length c0_1]] w fun e w' => ∃ v1_ : Value, e = .returned (.agg #[.int .i64 r1, v1_]) ∧ Kd.R (Kd.int .i64) 3 w' w.heap.size (fun _ => True) v1_ r2 ∧ Below w.heap.size w w' := by
  have hu80 := Try.underlying80
  have hu34 := Try.underlying34
  have HR0_1 := Aside0.mk hr0_1
  have HC0_1 := Aside0.mk hc0_1
  clear hr0_1 hc0_1
  have HB := Aside0.mk (Below.refl w.heap.size w)
  have H : ((laws_toIntS.f k l0_1).bind fun t138 => (some (a0_0, t138))) = some (r1, r2) := h
  clear h
  replace H := Option.bind_eq_some_iff.mp H
  obtain ⟨t138, A20, H⟩ := H
  replace H : (some (a0_0, t138)) = some (r1, r2) := H
  have A2 := Aside0.mk A20
  clear A20
  simp only [Option.some.injEq, Prod.mk.injEq] at H
  obtain ⟨rfl, rfl⟩ := H
  go_enter Try.func52, Try.ntmps52
  go_wp2_with (first | ((with_reducible refine gate_dst (N := 1) rfl ?_); refine box_event ?hg (N := 1) ?hd (cs := #[.int .i64 a0_0, .slice A0_1 l0_1.length c0_1]) (t := 80) ?hr ?_; (case hd => rfl); (case hg => rfl); (case hr => first | (go_simp; done) | (go_simp; rfl)); intro gb135 hg w3 hbox hb; have n0_ := Aside0.mk (below_step (by repeat (first | (with_reducible first | exact HB.out | apply below_alloc | apply pw_below_drewN | apply below_drew1) | exact HB.out)) hb); have n1_ := Aside0.mk (hbox); have n2_ := Aside0.mk ((by rw [hg]; exact (below_size (by repeat (first | (with_reducible first | exact HB.out | apply below_alloc | apply pw_below_drewN | apply below_drew1) | exact HB.out))) : w.heap.size ≤ gb135)); have n3_ := Aside0.mk ((by rw [hg]; exact (below_size (by repeat (first | (with_reducible first | exact HB.out | apply below_alloc | apply pw_below_drewN | apply below_drew1) | exact HB.out))) : w.heap.size ≤ gb135)); clear HB; have HB := n0_; have BK135 := n1_; have GW135 := n2_; have GE135 := n3_; clear n0_ n1_ n2_ n3_; clear hb hbox hg) | ((with_reducible refine gate_dst (N := 2) rfl ?_); refine box_event ?hg (N := 2) ?hd (cs := #[.int .i64 0, .slice none 0 0]) (t := 34) ?hr ?_; (case hd => rfl); (case hg => rfl); (case hr => first | (go_simp; done) | (go_simp; rfl)); intro gb136 hg w4 hbox hb; have n0_ := Aside0.mk (blk_below (g := gb135) (o := .cells #[.int .i64 a0_0, .slice A0_1 l0_1.length c0_1] 80 (0, 0)) (by (with_reducible repeat (first | refine blk_drewN ?_ _ | refine blk_drew ?_ | refine blk_alloc ?_ _)); exact BK135.out) hb); have n1_ := Aside0.mk (below_step (by repeat (first | (with_reducible first | exact HB.out | apply below_alloc | apply pw_below_drewN | apply below_drew1 | refine below_set ?_ GE135.out) | exact HB.out)) hb); have n2_ := Aside0.mk (hbox); have n3_ := Aside0.mk ((by rw [hg]; exact (below_size (by repeat (first | (with_reducible first | exact HB.out | apply below_alloc | apply pw_below_drewN | apply below_drew1 | refine below_set ?_ GE135.out) | exact HB.out))) : w.heap.size ≤ gb136)); have n4_ := Aside0.mk ((by rw [hg]; exact (below_size (by repeat (first | (with_reducible first | exact HB.out | apply below_alloc | apply pw_below_drewN | apply below_drew1 | refine below_set ?_ GE135.out) | exact HB.out))) : w.heap.size ≤ gb136)); have n5_ := Aside0.mk ((by rw [hg]; exact Nat.ne_of_lt (blk_lt (g := gb135) (o := .cells #[.int .i64 a0_0, .slice A0_1 l0_1.length c0_1] 80 (0, 0)) (by (with_reducible repeat (first | refine blk_drewN ?_ _ | refine blk_drew ?_ | refine blk_alloc ?_ _)); exact BK135.out)) : gb135 ≠ gb136)); have n6_ := Aside0.mk ((by rw [hg]; exact Nat.ne_of_gt (blk_lt (g := gb135) (o := .cells #[.int .i64 a0_0, .slice A0_1 l0_1.length c0_1] 80 (0, 0)) (by (with_reducible repeat (first | refine blk_drewN ?_ _ | refine blk_drew ?_ | refine blk_alloc ?_ _)); exact BK135.out)) : gb136 ≠ gb135)); clear BK135; clear HB; have BK135 := n0_; have HB := n1_; have BK136 := n2_; have GW136 := n3_; have GE136 := n4_; have NB135_136 := n5_; have NB136_135 := n6_; clear n0_ n1_ n2_ n3_ n4_ n5_ n6_; clear hb hbox hg) | ((with_reducible refine gate_dst (N := 3) rfl ?_); refine box_event ?hg (N := 3) ?hd (cs := #[.int .i64 0, .slice none 0 0]) (t := 34) ?hr ?_; (case hd => rfl); (case hg => rfl); (case hr => first | (go_simp; done) | (go_simp; rfl)); intro gb137 hg w5 hbox hb; have n0_ := Aside0.mk (blk_below (g := gb135) (o := .cells #[.int .i64 a0_0, .slice A0_1 l0_1.length c0_1] 80 (0, 0)) (by (with_reducible repeat (first | refine blk_drewN ?_ _ | refine blk_drew ?_ | refine blk_alloc ?_ _)); exact BK135.out) hb); have n1_ := Aside0.mk (blk_below (g := gb136) (o := .cells #[.int .i64 0, .slice none 0 0] 34 (0, 0)) (by (with_reducible repeat (first | refine blk_drewN ?_ _ | refine blk_drew ?_ | refine blk_alloc ?_ _)); exact BK136.out) hb); have n2_ := Aside0.mk (below_step (by repeat (first | (with_reducible first | exact HB.out | apply below_alloc | apply pw_below_drewN | apply below_drew1 | refine below_set ?_ GE135.out | refine below_set ?_ GE136.out) | exact HB.out)) hb); have n3_ := Aside0.mk (hbox); have n4_ := Aside0.mk ((by rw [hg]; exact (below_size (by repeat (first | (with_reducible first | exact HB.out | apply below_alloc | apply pw_below_drewN | apply below_drew1 | refine below_set ?_ GE135.out | refine below_set ?_ GE136.out) | exact HB.out))) : w.heap.size ≤ gb137)); have n5_ := Aside0.mk ((by rw [hg]; exact (below_size (by repeat (first | (with_reducible first | exact HB.out | apply below_alloc | apply pw_below_drewN | apply below_drew1 | refine below_set ?_ GE135.out | refine below_set ?_ GE136.out) | exact HB.out))) : w.heap.size ≤ gb137)); have n6_ := Aside0.mk ((by rw [hg]; exact Nat.ne_of_lt (blk_lt (g := gb135) (o := .cells #[.int .i64 a0_0, .slice A0_1 l0_1.length c0_1] 80 (0, 0)) (by (with_reducible repeat (first | refine blk_drewN ?_ _ | refine blk_drew ?_ | refine blk_alloc ?_ _)); exact BK135.out)) : gb135 ≠ gb137)); have n7_ := Aside0.mk ((by rw [hg]; exact Nat.ne_of_gt (blk_lt (g := gb135) (o := .cells #[.int .i64 a0_0, .slice A0_1 l0_1.length c0_1] 80 (0, 0)) (by (with_reducible repeat (first | refine blk_drewN ?_ _ | refine blk_drew ?_ | refine blk_alloc ?_ _)); exact BK135.out)) : gb137 ≠ gb135)); have n8_ := Aside0.mk ((by rw [hg]; exact Nat.ne_of_lt (blk_lt (g := gb136) (o := .cells #[.int .i64 0, .slice none 0 0] 34 (0, 0)) (by (with_reducible repeat (first | refine blk_drewN ?_ _ | refine blk_drew ?_ | refine blk_alloc ?_ _)); exact BK136.out)) : gb136 ≠ gb137)); have n9_ := Aside0.mk ((by rw [hg]; exact Nat.ne_of_gt (blk_lt (g := gb136) (o := .cells #[.int .i64 0, .slice none 0 0] 34 (0, 0)) (by (with_reducible repeat (first | refine blk_drewN ?_ _ | refine blk_drew ?_ | refine blk_alloc ?_ _)); exact BK136.out)) : gb137 ≠ gb136)); clear BK135; clear BK136; clear HB; have BK135 := n0_; have BK136 := n1_; have HB := n2_; have BK137 := n3_; have GW137 := n4_; have GE137 := n5_; have NB135_137 := n6_; have NB137_135 := n7_; have NB136_137 := n8_; have NB137_136 := n9_; clear n0_ n1_ n2_ n3_ n4_ n5_ n6_ n7_ n8_ n9_; clear hb hbox hg; have hnb6 := NB135_136.out; have hnc6 := NB136_135.out; have hnb7 := NB135_137.out; have hnc7 := NB137_135.out; have hcz8_0 : w5.cell? ⟨gb135, 0, none⟩ = some (.int .i64 a0_0) := (blk_cell BK135.out 0).trans rfl; have hcz8_1 : w5.cell? ⟨gb135, 1, none⟩ = some (.slice A0_1 l0_1.length c0_1) := (blk_cell BK135.out 1).trans rfl; have hfz8_0 := blk_frozen BK135.out 0; have hfz8_1 := blk_frozen BK135.out 1; have hnb9 := NB137_136.out; have hnc9 := NB136_137.out; have hcz10_0 : w5.cell? ⟨gb137, 0, none⟩ = some (.int .i64 0) := (blk_cell BK137.out 0).trans rfl; have hcz10_1 : w5.cell? ⟨gb137, 1, none⟩ = some (.slice none 0 0) := (blk_cell BK137.out 1).trans rfl; have hfz10_0 := blk_frozen BK137.out 0; have hfz10_1 := blk_frozen BK137.out 1) | ((with_reducible refine gate_callee (f := 64) rfl ?_); refine goesL_ (some 9) rfl rfl Try.func64 (by kernel_rfl) rfl #[.slice A0_1 l0_1.length c0_1] rfl (by (try simp only [List.map_toArray, List.map_cons, List.map_nil]); first | done | rfl | (simp only [List.length_drop, List.length_take]; rfl)) ?_; (with_reducible refine (laws_toIntS.calls k _ _ l0_1 t138 _ ?side1 ?side2 A2.out).mono ?_); (case side1 => exact Kd.C_below HR0_1.out (by repeat (first | (with_reducible first | exact HB.out | apply below_alloc | apply pw_below_drewN | apply below_drew1 | refine below_set ?_ GE135.out | refine below_set ?_ GE136.out | refine below_set ?_ GE137.out) | exact HB.out))); (case side2 => exact HC0_1.out); rintro e w11 ⟨v139, rfl, ho0, hb⟩; refine ⟨_, rfl, ?_⟩; have n0_ := Aside0.mk (Kd.R_lower ho0 (below_size (by repeat (first | (with_reducible first | exact HB.out | apply below_alloc | apply pw_below_drewN | apply below_drew1 | refine below_set ?_ GE135.out | refine below_set ?_ GE136.out | refine below_set ?_ GE137.out) | exact HB.out)))); have n1_ := Aside0.mk (blk_below (g := gb135) (o := .cells #[.int .i64 a0_0, .slice A0_1 l0_1.length c0_1] 80 (0, 0)) (by (with_reducible repeat (first | refine blk_drewN ?_ _ | refine blk_drew ?_ | refine blk_alloc ?_ _)); refine blk_far ?_ NB135_137.out _; (with_reducible repeat (first | refine blk_drewN ?_ _ | refine blk_drew ?_ | refine blk_alloc ?_ _)); exact BK135.out) hb); have n2_ := Aside0.mk (blk_below (g := gb136) (o := .cells #[.int .i64 0, .slice none 0 0] 34 (0, 0)) (by (with_reducible repeat (first | refine blk_drewN ?_ _ | refine blk_drew ?_ | refine blk_alloc ?_ _)); refine blk_far ?_ NB136_137.out _; (with_reducible repeat (first | refine blk_drewN ?_ _ | refine blk_drew ?_ | refine blk_alloc ?_ _)); exact BK136.out) hb); have n3_ := Aside0.mk (blk_below (g := gb137) (o := .cells #[.int .i64 a0_0, .slice none 0 0] 34 (0, 0)) (by (with_reducible repeat (first | refine blk_drewN ?_ _ | refine blk_drew ?_ | refine blk_alloc ?_ _)); refine blk_put (cs := #[.int .i64 0, .slice none 0 0]) ?_ 0 _ rfl; (with_reducible repeat (first | refine blk_drewN ?_ _ | refine blk_drew ?_ | refine blk_alloc ?_ _)); exact BK137.out) hb); have n4_ := Aside0.mk (below_step (by repeat (first | (with_reducible first | exact HB.out | apply below_alloc | apply pw_below_drewN | apply below_drew1 | refine below_set ?_ GE135.out | refine below_set ?_ GE136.out | refine below_set ?_ GE137.out) | exact HB.out)) hb); clear BK135; clear BK136; clear BK137; clear HB; have HO140 := n0_; have BK135 := n1_; have BK136 := n2_; have BK137 := n3_; have HB := n4_; clear n0_ n1_ n2_ n3_ n4_; (try clear hb); (try clear hb2); (try clear hk); (try clear hi); (try clear ho0); obtain ⟨Ao12, co12, eo12⟩ := Kd.R_slice HO140.out; subst eo12; have hcz13_0 : w11.cell? ⟨gb137, 0, none⟩ = some (.int .i64 a0_0) := (blk_cell BK137.out 0).trans rfl; have hcz13_1 : w11.cell? ⟨gb137, 1, none⟩ = some (.slice none 0 0) := (blk_cell BK137.out 1).trans rfl; have hfz13_0 := blk_frozen BK137.out 0; have hfz13_1 := blk_frozen BK137.out 1; have hcz14_0 : w11.cell? ⟨gb136, 0, none⟩ = some (.int .i64 0) := (blk_cell BK136.out 0).trans rfl; have hcz14_1 : w11.cell? ⟨gb136, 1, none⟩ = some (.slice none 0 0) := (blk_cell BK136.out 1).trans rfl; have hfz14_0 := blk_frozen BK136.out 0; have hfz14_1 := blk_frozen BK136.out 1))
  refine bodyPost_ret (results_cell_row rfl _ _ gb136 34 #[.int .i64 a0_0, .slice Ao12 t138.length co12] (0, 0) _ rfl (by (with_reducible repeat (first | refine blk_drewN ?_ _ | refine blk_drew ?_ | refine blk_alloc ?_ _)); refine blk_put (cs := #[.int .i64 a0_0, .slice none 0 0]) ?_ 1 _ rfl; (with_reducible repeat (first | refine blk_drewN ?_ _ | refine blk_drew ?_ | refine blk_alloc ?_ _)); refine blk_put (cs := #[.int .i64 0, .slice none 0 0]) ?_ 0 _ rfl; (with_reducible repeat (first | refine blk_drewN ?_ _ | refine blk_drew ?_ | refine blk_alloc ?_ _)); refine blk_far ?_ NB136_137.out _; (with_reducible repeat (first | refine blk_drewN ?_ _ | refine blk_drew ?_ | refine blk_alloc ?_ _)); exact BK136.out) Try.underlying34 rfl (by kernel_rfl)) rfl ?_
  exact ⟨_, by first | rfl | (simp [errW_none, errW_some] <;> rfl) | (simp [*, errW_none, errW_some] <;> rfl), by (with_reducible repeat (first | apply Kd.R_alloc | apply Kd.R_drewN | apply Kd.R_drew)); exact Kd.R_mono (Kd.R_far (p := ⟨gb136, 1, none⟩) (Kd.R_far (p := ⟨gb136, 0, none⟩) (Kd.R_far (p := ⟨gb137, 1, none⟩) (Kd.R_types (Kd.R_types HO140.out BK137.out (by decide)) BK136.out (by decide)) (fun _ hk => hk.1.2) (.slice Ao12 t138.length co12)) (fun _ hk => hk.2) (.int .i64 a0_0)) (fun _ hk => hk.2) (.slice Ao12 t138.length co12)) (fun _ hk => trivial), by repeat (first | (with_reducible first | exact HB.out | apply below_alloc | apply pw_below_drewN | apply below_drew1 | refine below_set ?_ GE135.out | refine below_set ?_ GE136.out | refine below_set ?_ GE137.out) | exact HB.out)⟩

end Go.Proofs.Ytfcbeodndplenaa.K

/- Function 20, laws_toClassS: what it answers, and the walk. (Printed or laid by this session's program wip/pr.py.) -/
namespace Go.Proofs.Ytfcbeodndplenaa.K
open Go.RowKit Go.Proofs.YtfcbeodndplenaaW.PrintWords Go.Proofs.YtfcbeodndplenaaW.PrintLast Go.Proofs.YtfcbeodndplenaaW.PrintMore
attribute [local go_sem] max2_int min2_int max_two min_two max_three min_three max_four min_four
set_option linter.unusedVariables false
set_option linter.unusedSimpArgs false

/-! ### laws_toClassS: function 20 -/
def laws_toClassS.l0 : Nat → List (S80) → List (S34) → Int → Option ((List (S34)))
  | 0, _, _, _ => none
  | k + 1, x0, x3, x4 => if x4 < (x0.length : Int) then (if 0 ≤ x4 then ((laws_toClass.f k ((rd_T80 x0 x4).f0) ((rd_T80 x0 x4).f1)).bind fun bt145 => (if x4 < (x3.length : Int) then (laws_toClassS.l0 k x0 (x3.set (x4 : Int).toNat (⟨bt145.1, bt145.2⟩ : S34)) (wrap64 (x4 + 1))) else (none))) else (none)) else (some x3)
def laws_toClassS.f (k : Nat) (l0 : List (S80)) : Option ((List (S34))) := if 0 ≤ (l0.length : Int) then (if ((l0.length : Int) : Int).toNat ≤ 8796093022208 then (laws_toClassS.l0 k l0 (List.replicate ((l0.length : Int) : Int).toNat z34) 0) else (none)) else (none)
theorem laws_toClassS.mono_l : ∀ k, (∀ y0 y1 y2, LeO (laws_toClassS.l0 k y0 y1 y2) (laws_toClassS.l0 (k + 1) y0 y1 y2))
  | 0 => fun _ _ _ r h => by simp [laws_toClassS.l0] at h
  | k + 1 => by
    have ih0 := laws_toClassS.mono_l k
    · intro y0 y1 y2
      unfold laws_toClassS.l0
      repeat' first
      | (with_reducible exact ih0 _ _ _)
      | (with_reducible exact laws_toClass.mono _ _ _)
      | (with_reducible exact LeO.refl _)
      | (with_reducible exact LeO.none _)
      | (with_reducible refine LeO.ite ?_ ?_)
      | (with_reducible refine LeO.bind ?_ (fun _ => ?_))
      | exact ih0 _ _ _
      | exact laws_toClass.mono _ _ _
      | exact LeO.none _
      | refine LeO.ite ?_ ?_
      | refine LeO.bind ?_ (fun _ => ?_)
theorem laws_toClassS.mono : ∀ a0 k, LeO (laws_toClassS.f k a0) (laws_toClassS.f (k + 1) a0) := by
  intro a0 k
  have ih0 := laws_toClassS.mono_l k
  unfold laws_toClassS.f
  repeat' first
      | (with_reducible exact ih0 _ _ _)
      | (with_reducible exact laws_toClass.mono _ _ _)
      | (with_reducible exact LeO.refl _)
      | (with_reducible exact LeO.none _)
      | (with_reducible refine LeO.ite ?_ ?_)
      | (with_reducible refine LeO.bind ?_ (fun _ => ?_))
      | exact ih0 _ _ _
      | exact laws_toClass.mono _ _ _
      | exact LeO.none _
      | refine LeO.ite ?_ ?_
      | refine LeO.bind ?_ (fun _ => ?_)
set_option maxHeartbeats 8000000 in
set_option maxRecDepth 100000 in
theorem laws_toClassS.calls (k : Nat) (A0 : Option Addr) (c0 : Nat) (l0 : List (S80)) (r : List (S34)) (w : World) (hr0 : Kd.C k80 w A0 l0.length l0) (hc0 : l0.length ≤ c0) (h : laws_toClassS.f k l0 = some r) :
    Calls Try.prog 20 #[.slice A0 l0.length c0] w fun e w' => ∃ v0_ : Value, e = .returned (v0_) ∧ Kd.S k34 34 w' w.heap.size (fun _ => True) v0_ r ∧ Below w.heap.size w w' := by
  have hu80 := Try.underlying80
  have hu34 := Try.underlying34
  have HR0 := Aside0.mk hr0
  have HC0 := Aside0.mk hc0
  clear hr0 hc0
  have HB := Aside0.mk (Below.refl w.heap.size w)
  have H : (if 0 ≤ (l0.length : Int) then (if ((l0.length : Int) : Int).toNat ≤ 8796093022208 then (laws_toClassS.l0 k l0 (List.replicate ((l0.length : Int) : Int).toNat z34) 0) else (none)) else (none)) = some r := h
  clear h
  by_cases c2 : 0 ≤ (l0.length : Int)
  · rw [if_pos c2] at H
    have c2b0 := eq_true c2
    have c2b1 : decide (0 ≤ (l0.length : Int)) = true := decide_eq_true c2
    clear c2
    by_cases c3 : ((l0.length : Int) : Int).toNat ≤ 8796093022208
    · rw [if_pos c3] at H
      have c3b0 := eq_true c3
      have c3b1 : decide (((l0.length : Int) : Int).toNat ≤ 8796093022208) = true := decide_eq_true c3
      clear c3
      obtain ⟨y141, hy141⟩ : ∃ y_ : List (S34), y_ = (List.replicate ((l0.length : Int) : Int).toNat z34) := ⟨_, rfl⟩
      replace H : (laws_toClassS.l0 k l0 y141 0) = some r := by first | (rw [hy141]; with_reducible exact H) | (have H2_ := (Option.bind_some _ _).symm.trans H; rw [hy141]; with_reducible exact H2_) | (have H2_ := (Option.bind_some _ _).symm.trans H; with_reducible exact H2_) | with_reducible exact H | (rw [hy141]; exact H) | exact H
      have Ny141 := Aside0.mk hy141
      clear hy141
      have H' := Aside0.mk H
      clear H
      go_enter Try.func20, Try.ntmps20
      go_wp2_with (first | ((with_reducible refine gate_dst (N := 7) rfl ?_); refine Kd.S_make k34 _ 34 rfl (N := 7) rfl 35 _ _ rfl (l0.length : Int) rfl rfl Try.underlying35 (.agg #[(.int .i64 0), (.slice none 0 0)]) 32 info34 rfl (by decide) (by omega) z34 (ok := fun _ => True) (okp := fun _ => True) (k34_mkM _ _ _ z34 (Kd.R_nil _ _ _ _ _)) (fun _ hk => hk) trivial (of_decide_eq_true (by first | (with_reducible assumption) | assumption)) (Nat.le_trans (Nat.mul_le_mul_right _ (of_decide_eq_true (by first | (with_reducible assumption) | assumption) : (l0.length : Int).toNat ≤ 8796093022208)) (by omega)) (Below.refl _ _) (Nat.le_refl _) ?_; intro v142 w4 ho5 hb hg_ hnew_; clear hg_ hnew_; (first | rw [← Ny141.out] at ho5 | (simp only [Int.reduceToNat] at ho5; rw [← Ny141.out] at ho5)); have n0_ := Aside0.mk (Kd.S_lower ho5 (below_size (by repeat (first | (with_reducible first | exact HB.out | apply below_alloc | apply pw_below_drewN | apply below_drew1) | exact HB.out)))); have n1_ := Aside0.mk (below_step (by repeat (first | (with_reducible first | exact HB.out | apply below_alloc | apply pw_below_drewN | apply below_drew1) | exact HB.out)) hb); clear HB; have HO143 := n0_; have HB := n1_; clear n0_ n1_; clear hb ho5))
      go_loopg [4] k (fun kq v4 w' => ∃ (x3_1 : List (S34)) (x4_1 : Int), v4 = .int .i64 x4_1 ∧ Aside0 (laws_toClassS.l0 kq l0 x3_1 x4_1 = some r) ∧ Aside0 (kq ≤ k) ∧ Aside0 (Kd.S k34 34 w' w.heap.size (fun _ => True) v142 x3_1) ∧ Aside0 (Below w.heap.size w w'))
      case atStart => exact ⟨(y141), (0), (by first | rfl | (simp; done) | (simp [*]; done)), H', ⟨Nat.le_refl _⟩, ⟨by (with_reducible repeat (first | apply Kd.S_alloc | apply Kd.S_drewN | apply Kd.S_drew)); exact HO143.out⟩, ⟨by repeat (first | (with_reducible first | exact HB.out | apply below_alloc | apply pw_below_drewN | apply below_drew1) | exact HB.out)⟩⟩
      case round =>
        clear H'
        try clear c2
        try clear c2b0
        try clear c2b1
        try clear p2
        try clear c3
        try clear c3b0
        try clear c3b1
        obtain ⟨x3_1, x4_1, rfl, HA, HK1, HO_3, HB⟩ := hrel
        cases gk with
        | zero => exact absurd HA.out (by simp [laws_toClassS.l0])
        | succ k1 =>
          have H := HA.out
          clear HA
          simp only [laws_toClassS.l0] at H
          by_cases c6 : x4_1 < (l0.length : Int)
          · rw [if_pos c6] at H
            have c6b0 : decide (x4_1 < (l0.length : Int)) = true := decide_eq_true c6
            clear c6
            by_cases c7 : 0 ≤ x4_1
            · rw [if_pos c7] at H
              have c7b0 : decide (0 ≤ x4_1) = true := decide_eq_true c7
              clear c7
              replace H := Option.bind_eq_some_iff.mp H
              obtain ⟨⟨t145, t146⟩, A80, H⟩ := H
              replace H : (if x4_1 < (x3_1.length : Int) then (laws_toClassS.l0 k1 l0 (x3_1.set (x4_1 : Int).toNat (⟨t145, t146⟩ : S34)) (wrap64 (x4_1 + 1))) else (none)) = some r := H
              have A8 := Aside0.mk A80
              clear A80
              by_cases c9 : x4_1 < (x3_1.length : Int)
              · rw [if_pos c9] at H
                have c9b0 : decide (x4_1 < (x3_1.length : Int)) = true := decide_eq_true c9
                clear c9
                obtain ⟨y149, hy149⟩ : ∃ y_ : List (S34), y_ = (x3_1.set (x4_1 : Int).toNat (⟨t145, t146⟩ : S34)) := ⟨_, rfl⟩
                replace H : (laws_toClassS.l0 k1 l0 y149 (wrap64 (x4_1 + 1))) = some r := by first | (rw [hy149]; with_reducible exact H) | (have H2_ := (Option.bind_some _ _).symm.trans H; rw [hy149]; with_reducible exact H2_) | (have H2_ := (Option.bind_some _ _).symm.trans H; with_reducible exact H2_) | with_reducible exact H | (rw [hy149]; exact H) | exact H
                have Ny149 := Aside0.mk hy149
                clear hy149
                have H' := Aside0.mk H
                clear H
                have p144 : 0 ≤ (x4_1 : Int) := of_decide_eq_true (by first | (with_reducible assumption) | assumption)
                have q144 : x4_1 < (l0.length : Int) := of_decide_eq_true (by first | (with_reducible assumption) | assumption)
                obtain ⟨ad144, A144_1, c144_1, e144, hx144_0, hx144_1, hl144_1, hi144_1⟩ := at_T80 HR0.out x4_1 p144 q144
                cases e144
                replace hx144_0 := (HB.out.cell (World.block_lt_of_cell? w _ hx144_0)).trans hx144_0
                replace hx144_1 := (HB.out.cell (World.block_lt_of_cell? w _ hx144_1)).trans hx144_1
                have HR144_1 := Aside0.mk hi144_1
                have HC144_1 := Aside0.mk hl144_1
                clear hi144_1 hl144_1
                replace p144 := eq_true p144
                replace q144 := eq_true q144
                go_wp2_with (first | ((with_reducible refine gate_callee (f := 52) rfl ?_); refine goesL_ (some 20) rfl rfl Try.func52 (by kernel_rfl) rfl #[.agg #[.int .i64 ((rd_T80 l0 x4_1).f0), .slice A144_1 ((rd_T80 l0 x4_1).f1).length c144_1]] rfl (by (try simp only [List.map_toArray, List.map_cons, List.map_nil]); first | done | rfl | (simp only [List.length_drop, List.length_take]; rfl)) ?_; (with_reducible refine (laws_toClass.calls k1 ((rd_T80 l0 x4_1).f0) _ _ ((rd_T80 l0 x4_1).f1) t145 t146 _ ?side1 ?side2 A8.out).mono ?_); (case side1 => repeat (first | exact (Kd.C_below HR144_1.out HB.out) | (with_reducible refine Kd.C_alloc ?_ _) | (with_reducible refine Kd.C_drewN ?_ _) | (with_reducible refine Kd.C_drew ?_))); (case side2 => exact HC144_1.out); rintro e w11 ⟨v147, rfl, ho0, hb⟩; refine ⟨_, rfl, ?_⟩; have n0_ := Aside0.mk (Kd.S_elder' (by (with_reducible repeat (first | apply Kd.S_alloc | apply Kd.S_drewN | apply Kd.S_drew)); exact HO_3.out) (Kd.R_base ho0) hb); have n1_ := Aside0.mk (Kd.R_lower ho0 (below_size (by repeat (first | (with_reducible first | exact HB.out | apply below_alloc | apply pw_below_drewN | apply below_drew1) | exact HB.out)))); have n2_ := Aside0.mk (below_step (by repeat (first | (with_reducible first | exact HB.out | apply below_alloc | apply pw_below_drewN | apply below_drew1) | exact HB.out)) hb); clear HO_3; clear HB; have HO_3 := n0_; have HO148 := n1_; have HB := n2_; clear n0_ n1_ n2_; (try clear hb); (try clear hb2); (try clear hk); (try clear hi); (try clear ho0); have p10 : 0 ≤ (x4_1 : Int) := of_decide_eq_true (by first | (with_reducible assumption) | assumption); have q10 : (x4_1 : Int) < ((x3_1.length : Int) : Int) := of_decide_eq_true (by first | (with_reducible assumption) | assumption); obtain ⟨go10, co10, eo10, gb10, gl10, cl10, HG10⟩ := Kd.S_form HO_3.out (by omega); (first | cases eo10 | (injection eo10 with ea_ en_ ec_; (first | subst ea_ | (injection ea_ with ea_; subst ea_)); subst ec_; clear en_)); have GB10 := Aside0.mk gb10; have GG10 := Aside0.mk HG10; clear gb10 gl10 HG10; obtain ⟨_, ce10, hcl10, hM10, hcc10, hfr10, _, _⟩ := Kd.S_elem HO_3.out z34 (x4_1 : Int) p10 q10; obtain ⟨ve10_1, rfl, ge10_1⟩ := k34_openM hM10; have hx10_0 : w11.cell? ⟨go10, (x4_1 : Int).toNat * 2, none⟩ = some (.int .i64 ((rd_T34 x3_1 x4_1).f0)) := hcc10 0 _ rfl; have hx10_1 : w11.cell? ⟨go10, (x4_1 : Int).toNat * 2 + 1, none⟩ = some (ve10_1) := hcc10 1 _ rfl; have hf10_0 : w11.frozen? ⟨go10, (x4_1 : Int).toNat * 2, none⟩ = false := hfr10 0; have hf10_1 : w11.frozen? ⟨go10, (x4_1 : Int).toNat * 2 + 1, none⟩ = false := hfr10 1; clear hcl10 hcc10 hfr10 hM10; replace p10 := eq_true p10; replace q10 := eq_true q10; have n_ := Aside0.mk (Kd.S_mono (ok' := (fun k_ => some k_ ≠ (v147 : Value).ownBlock)) HO_3.out (fun k_ hk => hk.2)); clear HO_3; have HO_3 := n_; clear n_; have HX12 := Aside0.mk (show Kd.S k34 34 w11 w.heap.size (fun k_ => ((fun _ => True)) k_ ∧ ¬ ((fun k_ => some k_ = (v147 : Value).ownBlock)) k_) (.slice (some ⟨go10, 0, none⟩) x3_1.length co10) x3_1 from (by (with_reducible repeat (first | apply Kd.S_alloc | apply Kd.S_drewN | apply Kd.S_drew)); exact Kd.S_mono HO_3.out (fun k_ hk => ⟨trivial, fun e_ => hk e_⟩))); obtain ⟨oki12, ce12, hcl12, hM12, hcc12, hfr12, hoki12, hH12⟩ := Kd.S_elem HX12.out z34 (x4_1 : Int) (of_decide_eq_true (by first | (with_reducible assumption) | assumption)) (by have h_ : (x4_1 : Int) < ((x3_1.length : Int) : Int) := of_decide_eq_true (by first | (with_reducible assumption) | assumption); first | exact h_ | (have e_ := (Kd.S_reads' HO_3.out).1; omega) | simpa using h_); obtain ⟨ve12_1, rfl, ge12_1⟩ := k34_openM hM12; have HP12 := Kd.S_seg hH12 (of_decide_eq_true (by first | (with_reducible assumption) | assumption)) (by have h_ : (x4_1 : Int) < ((x3_1.length : Int) : Int) := of_decide_eq_true (by first | (with_reducible assumption) | assumption); first | exact h_ | (have e_ := (Kd.S_reads' HO_3.out).1; omega) | simpa using h_) (seg := [.int .i64 t145, v147]) (j := 0) (show 2 ≤ 2 from by decide) (x' := (⟨t145, t146⟩ : S34)) (k34_mkM _ _ _ (⟨t145, t146⟩ : S34) (Kd.R_mono (Kd.R_tight rfl (Kd.R_mono (ok' := fun k_ => ((fun _ => True)) k_ ∧ k_ ≠ go10) (Kd.R_apart' (HO148.out) (Kd.S_typed HO_3.out) (by decide)) (fun k_ hk => ⟨trivial, fun e_ => (hk.2) (by rw [e_]; rfl)⟩))) (fun _ h_ => Or.inr (h_)))) (fun _ hk => hk) (fun k_ hk_ => ((Kd.R_mono (ok' := fun k_ => ((fun _ => True)) k_ ∧ k_ ≠ go10) (Kd.R_apart' (HO148.out) (Kd.S_typed HO_3.out) (by decide)) (fun k_ hk => ⟨trivial, fun e_ => (hk.2) (by rw [e_]; rfl)⟩))).1 k_ hk_.symm); have hx12_0 := hcc12 0 _ rfl; (try simp only [show (k34).sz = 2 from rfl, Nat.mul_one, Nat.add_zero] at hx12_0); have hf12_0 := hfr12 0; (try simp only [show (k34).sz = 2 from rfl, Nat.mul_one, Nat.add_zero] at hf12_0); have hx12_1 := hcc12 1 _ rfl; (try simp only [show (k34).sz = 2 from rfl, Nat.mul_one, Nat.add_zero] at hx12_1); have hf12_1 := hfr12 1; (try simp only [show (k34).sz = 2 from rfl, Nat.mul_one, Nat.add_zero] at hf12_1); clear hcl12 hcc12 hfr12 hM12 hoki12 hH12) | ((with_reducible refine gate_store (t := 34) (p := 21) rfl ?_); refine store_event (t := 34) (p := 21) (v := ?vo_w13) (w1 := ((w11.setCell ⟨go10, (x4_1 : Int).toNat * 2, none⟩ (.int .i64 t145)).setCell ⟨go10, (x4_1 : Int).toNat * 2 + 1, none⟩ (v147))) ?hg ?ho ?hn ?hr ?_; (case ho => rfl); (case hg => rfl); (case hn => rfl); (case hr => first | (go_simp; done) | (go_simp; rfl) | ((try (first | (obtain ⟨_, _, rfl⟩ := Kd.R_slice HO148.out) | (obtain ⟨_, _, rfl⟩ := Kd.S_slice HO148.out))); (try (first | (obtain ⟨_, _, rfl⟩ := Kd.R_slice HO_3.out) | (obtain ⟨_, _, rfl⟩ := Kd.S_slice HO_3.out))); (try (first | (obtain ⟨_, _, rfl⟩ := Kd.R_slice ge10_1) | (obtain ⟨_, _, rfl⟩ := Kd.S_slice ge10_1))); (try (first | (obtain ⟨_, _, rfl⟩ := Kd.R_slice ge12_1) | (obtain ⟨_, _, rfl⟩ := Kd.S_slice ge12_1))); first | (go_simp; done) | (go_simp; rfl))); intro w13 hw; have hg : w11.grownBy w13 (some go10) := (by rw [hw]; exact HP12.2); have hp_ : Kd.S k34 34 w13 w.heap.size (fun _ => True) (.slice (some ⟨go10, 0, none⟩) x3_1.length co10) y149 := (by rw [hw, Ny149.out]; exact HP12.1); clear HP12; have n0_ := Aside0.mk (hp_); have n1_ := Aside0.mk ((by rw [hw]; exact below_set (below_set (HB.out) GB10.out) GB10.out : Below w.heap.size w w13)); clear HO_3; clear HB; clear HO148; have HO_3 := n0_; have HB := n1_; clear n0_ n1_; clear hg hw hp_))
                go_roundg k1
                case measure => have := HK1.out; omega
                case rel => exact ⟨(y149), (wrap64 (x4_1 + 1)), (by first | rfl | (simp; done) | (simp [*]; done)), H', ⟨by have := HK1.out; omega⟩, ⟨by (with_reducible repeat (first | apply Kd.S_alloc | apply Kd.S_drewN | apply Kd.S_drew)); exact HO_3.out⟩, ⟨by repeat (first | (with_reducible first | exact HB.out | apply below_alloc | apply pw_below_drewN | apply below_drew1) | exact HB.out)⟩⟩
              · rw [if_neg c9] at H
                exact absurd H (by simp)
            · rw [if_neg c7] at H
              exact absurd H (by simp)
          · rw [if_neg c6] at H
            have c6b0 : decide (x4_1 < (l0.length : Int)) = false := decide_eq_false c6
            clear c6
            obtain rfl := Option.some.inj H
            go_wp2
            go_ret
            exact ⟨_, by first | rfl | (simp [errW_none, errW_some] <;> rfl) | (simp [*, errW_none, errW_some] <;> rfl), by (with_reducible repeat (first | apply Kd.S_alloc | apply Kd.S_drewN | apply Kd.S_drew)); exact HO_3.out, by repeat (first | (with_reducible first | exact HB.out | apply below_alloc | apply pw_below_drewN | apply below_drew1) | exact HB.out)⟩
    · rw [if_neg c3] at H
      exact absurd H (by simp)
  · rw [if_neg c2] at H
    exact absurd H (by simp)

end Go.Proofs.Ytfcbeodndplenaa.K

/- Function 80, impl_kindOf: what it answers, and the walk. (Printed or laid by this session's program wip/pr.py.) -/
namespace Go.Proofs.Ytfcbeodndplenaa.K
open Go.RowKit Go.Proofs.YtfcbeodndplenaaW.PrintWords Go.Proofs.YtfcbeodndplenaaW.PrintLast Go.Proofs.YtfcbeodndplenaaW.PrintMore
attribute [local go_sem] max2_int min2_int max_two min_two max_three min_three max_four min_four
set_option linter.unusedVariables false
set_option linter.unusedSimpArgs false

/-! ### impl_kindOf: function 80 -/
/-- The value that stands behind a type's number; a number that is no type's stands for nil. -/
def kndV (t : Int) : Value :=
  if t = 0 then .iface 101 (.agg #[])
  else if t = 1 then .iface 102 (.agg #[])
  else if t = 2 then .iface 103 (.agg #[])
  else if t = 3 then .iface 105 (.agg #[.bool false])
  else if t = 4 then .iface 105 (.agg #[.bool true])
  else .iface 108 (.agg #[.int .i64 (t - 8)])
/-- The numbers that stand for a kind. -/
def kv (t : Int) : Prop := (0 ≤ t ∧ t ≤ 4) ∨ 8 ≤ t
/-- A type's number, of so many classes. -/
def kOk (n t : Int) : Bool := decide ((0 ≤ t ∧ t ≤ 4) ∨ (8 ≤ t ∧ t < 8 + n))
/-- What kindOf hands back. -/
def kndO (n t : Int) : Value := if kOk n t = true then kndV t else .nilIface
theorem kv_cases {t : Int} (h : kv t) : t = 0 ∨ t = 1 ∨ t = 2 ∨ t = 3 ∨ t = 4 ∨ 8 ≤ t := by unfold kv at h; omega
theorem kndV_cls {t : Int} (h : 8 ≤ t) : kndV t = .iface 108 (.agg #[.int .i64 (t - 8)]) := by
  unfold kndV
  rw [if_neg (by omega), if_neg (by omega), if_neg (by omega), if_neg (by omega), if_neg (by omega)]

theorem eqCls (d : Nat) (w : World) (x0 y0 : Int) :
    (Op.equalIn (d + 2) 108 (.agg #[.int .i64 x0]) (.agg #[.int .i64 y0])).run Try.prog w = .ok (x0 == y0) w := by
  refine eqA_of Try.underlying108 (by kernel_rfl) ?_
  exact eqf_last (by rfl) (by go_simp; rfl) (by go_simp; rfl) (by go_simp)
theorem cls_step (x y : Value) (W : World) : (Op.equal 98 (.iface 108 x) (.iface 108 y)).run Try.prog W = (Op.equalIn 9999 108 x y).run Try.prog W := by
  kernel_rfl
theorem cls_eql (x y : Int) (W : World) : (binOp .eql 98 (.iface 108 (.agg #[.int .i64 x])) (.iface 108 (.agg #[.int .i64 y]))).run Try.prog W = .ok (.bool (x == y)) W := by
  simp only [binOp, Sem.run_bind, cls_step, eqCls 9997]
  rfl
theorem cls_neq (x y : Int) (W : World) : (binOp .neq 98 (.iface 108 (.agg #[.int .i64 x])) (.iface 108 (.agg #[.int .i64 y]))).run Try.prog W = .ok (.bool (!(x == y))) W := by
  simp only [binOp, Sem.run_bind, cls_step, eqCls 9997]
  rfl

theorem kind_eql {s t : Int} (hs : kv s) (ht : kv t) (W : World) : (binOp .eql 98 (kndV s) (kndV t)).run Try.prog W = .ok (.bool (decide (s = t))) W := by
  rcases kv_cases hs with rfl | rfl | rfl | rfl | rfl | hs <;> rcases kv_cases ht with rfl | rfl | rfl | rfl | rfl | ht
  all_goals first
    | (rw [kndV_cls hs, kndV_cls ht, show decide (s = t) = (s - 8 == t - 8) from by rw [Bool.eq_iff_iff, decide_eq_true_iff, beq_iff_eq]; omega]; exact cls_eql _ _ _)
    | (rw [kndV_cls hs, decide_eq_false (by omega)]; kernel_rfl)
    | (rw [kndV_cls ht, decide_eq_false (by omega)]; kernel_rfl)
    | kernel_rfl
theorem kind_neq {s t : Int} (hs : kv s) (ht : kv t) (W : World) : (binOp .neq 98 (kndV s) (kndV t)).run Try.prog W = .ok (.bool (!decide (s = t))) W := by
  rcases kv_cases hs with rfl | rfl | rfl | rfl | rfl | hs <;> rcases kv_cases ht with rfl | rfl | rfl | rfl | rfl | ht
  all_goals first
    | (rw [kndV_cls hs, kndV_cls ht, show decide (s = t) = (s - 8 == t - 8) from by rw [Bool.eq_iff_iff, decide_eq_true_iff, beq_iff_eq]; omega]; exact cls_neq _ _ _)
    | (rw [kndV_cls hs, decide_eq_false (by omega)]; kernel_rfl)
    | (rw [kndV_cls ht, decide_eq_false (by omega)]; kernel_rfl)
    | kernel_rfl
theorem kind_nil {s : Int} (hs : kv s) (W : World) : (binOp .eql 98 (kndV s) .nilIface).run Try.prog W = .ok (.bool false) W := by
  rcases kv_cases hs with rfl | rfl | rfl | rfl | rfl | hs
  all_goals first
    | (rw [kndV_cls hs]; kernel_rfl)
    | kernel_rfl
theorem kind_nnil {s : Int} (hs : kv s) (W : World) : (binOp .neq 98 (kndV s) .nilIface).run Try.prog W = .ok (.bool true) W := by
  rcases kv_cases hs with rfl | rfl | rfl | rfl | rfl | hs
  all_goals first
    | (rw [kndV_cls hs]; kernel_rfl)
    | kernel_rfl
theorem nil_eql (W : World) : (binOp .eql 98 .nilIface .nilIface).run Try.prog W = .ok (.bool true) W := by kernel_rfl
theorem nil_neq (W : World) : (binOp .neq 98 .nilIface .nilIface).run Try.prog W = .ok (.bool false) W := by kernel_rfl
/-- A comparison of what is no nil asks nothing more. -/
theorem kndV_iface (t : Int) : ∃ u v, kndV t = .iface u v := by
  unfold kndV
  repeat (split; exact ⟨_, _, rfl⟩)
  exact ⟨_, _, rfl⟩
theorem guard_knd (t : Int) (op : BinOp) (T : TypeId) (x y : Operand) (v : Value) : eqGuard op T x y (kndV t) v = pure () := by
  obtain ⟨u, z, h⟩ := kndV_iface t
  rw [h]
  cases op <;> cases v <;> rfl
theorem guard_kndO (n t : Int) (op : BinOp) (T : TypeId) (x : Operand) (c : Value) (v : Value) : eqGuard op T x (.const c) (kndO n t) v = pure () := by
  unfold kndO
  split
  · exact guard_knd t op T x _ v
  · cases op <;> cases v <;> first | rfl | (simp [eqGuard])
theorem guard_nil (op : BinOp) (T : TypeId) (x : Operand) (c : Value) (v : Value) : eqGuard op T x (.const c) .nilIface v = pure () := by
  cases op <;> cases v <;> first | rfl | (simp [eqGuard])
/-- Is what stands behind a number nil? -/
theorem kndO_eql (n t : Int) (W : World) : (binOp .eql 98 (kndO n t) .nilIface).run Try.prog W = .ok (.bool (!kOk n t)) W := by
  unfold kndO
  by_cases h : kOk n t = true
  · rw [if_pos h, kind_nil (by simp [kOk] at h; unfold kv; omega), h]; rfl
  · rw [if_neg h, nil_eql, Bool.not_eq_true _ |>.mp h]; rfl
theorem kndO_neq (n t : Int) (W : World) : (binOp .neq 98 (kndO n t) .nilIface).run Try.prog W = .ok (.bool (kOk n t)) W := by
  unfold kndO
  by_cases h : kOk n t = true
  · rw [if_pos h, kind_nnil (by simp [kOk] at h; unfold kv; omega), h]
  · rw [if_neg h, nil_neq, Bool.not_eq_true _ |>.mp h]
/-- Is it the null type's, an array's, a class's? -/
theorem kind_null {s : Int} (hs : kv s) (W : World) : (Instr.typeAssert (kndV s) 98 103 true).run Try.prog W = .ok (.tuple #[.agg #[], .bool (decide (s = 2))]) W := by
  rcases kv_cases hs with rfl | rfl | rfl | rfl | rfl | hs
  all_goals first
    | (rw [kndV_cls hs, decide_eq_false (by omega)]; kernel_rfl)
    | kernel_rfl
theorem kind_int {s : Int} (hs : kv s) (W : World) : (Instr.typeAssert (kndV s) 98 102 true).run Try.prog W = .ok (.tuple #[.agg #[], .bool (decide (s = 1))]) W := by
  rcases kv_cases hs with rfl | rfl | rfl | rfl | rfl | hs
  all_goals first
    | (rw [kndV_cls hs, decide_eq_false (by omega)]; kernel_rfl)
    | kernel_rfl
theorem kind_arr {s : Int} (hs : kv s) (W : World) : (Instr.typeAssert (kndV s) 98 105 true).run Try.prog W = .ok (.tuple #[.agg #[.bool (decide (s = 4))], .bool (decide (s = 3 ∨ s = 4))]) W := by
  rcases kv_cases hs with rfl | rfl | rfl | rfl | rfl | hs
  all_goals first
    | (rw [kndV_cls hs, decide_eq_false (p := s = 4) (by omega), decide_eq_false (by omega)]; kernel_rfl)
    | kernel_rfl
/-- The class that stands there, or 0. -/
def clsOf (t : Int) : Int := if 8 ≤ t then t - 8 else 0
theorem kind_class {s : Int} (hs : kv s) (W : World) : (Instr.typeAssert (kndV s) 98 108 true).run Try.prog W = .ok (.tuple #[.agg #[.int .i64 (clsOf s)], .bool (decide (8 ≤ s))]) W := by
  rcases kv_cases hs with rfl | rfl | rfl | rfl | rfl | hs
  all_goals first
    | (rw [kndV_cls hs, decide_eq_true hs, show clsOf s = s - 8 from if_pos hs]; kernel_rfl)
    | kernel_rfl
theorem nil_int (W : World) : (Instr.typeAssert .nilIface 98 102 true).run Try.prog W = .ok (.tuple #[.agg #[], .bool false]) W := by kernel_rfl
theorem nil_arr (W : World) : (Instr.typeAssert .nilIface 98 105 true).run Try.prog W = .ok (.tuple #[.agg #[.bool false], .bool false]) W := by kernel_rfl
theorem nil_class (W : World) : (Instr.typeAssert .nilIface 98 108 true).run Try.prog W = .ok (.tuple #[.agg #[.int .i64 0], .bool false]) W := by kernel_rfl

set_option maxHeartbeats 2000000 in
theorem impl_kindOf.calls (a0 a1 : Int) (w : World) (h0 : 0 ≤ a0) (h1 : a0 ≤ 281474976710656) :
    Calls Try.prog 80 #[.int .i64 a0, .int .i64 a1] w fun e w' => e = .returned (kndO a0 a1) ∧ Drawn0 w w' := by
  by_cases c0 : a1 = 0
  · subst c0
    have HF := Aside0.mk (show kndO a0 0 = kndV 0 from if_pos (by simp [kOk]))
    go_enter Try.func80, Try.ntmps80
    go_wp2
    go_ret
    exact ⟨by rw [HF.out]; rfl, Drawn0.refl _⟩
  by_cases c1 : a1 = 1
  · subst c1
    have HF := Aside0.mk (show kndO a0 1 = kndV 1 from if_pos (by simp [kOk]))
    go_enter Try.func80, Try.ntmps80
    go_wp2
    go_ret
    exact ⟨by rw [HF.out]; rfl, Drawn0.refl _⟩
  by_cases c2 : a1 = 2
  · subst c2
    have HF := Aside0.mk (show kndO a0 2 = kndV 2 from if_pos (by simp [kOk]))
    go_enter Try.func80, Try.ntmps80
    go_wp2
    go_ret
    exact ⟨by rw [HF.out]; rfl, Drawn0.refl _⟩
  by_cases c3 : a1 = 3
  · subst c3
    have HF := Aside0.mk (show kndO a0 3 = kndV 3 from if_pos (by simp [kOk]))
    go_enter Try.func80, Try.ntmps80
    go_wp2
    go_ret
    exact ⟨by rw [HF.out]; rfl, Drawn0.refl _⟩
  by_cases c4 : a1 = 4
  · subst c4
    have HF := Aside0.mk (show kndO a0 4 = kndV 4 from if_pos (by simp [kOk]))
    go_enter Try.func80, Try.ntmps80
    go_wp2
    go_ret
    exact ⟨by rw [HF.out]; rfl, Drawn0.refl _⟩
  have d0 : (a1 == 0) = false := beq_eq_false_iff_ne.2 c0
  have d1 : (a1 == 1) = false := beq_eq_false_iff_ne.2 c1
  have d2 : (a1 == 2) = false := beq_eq_false_iff_ne.2 c2
  have d3 : (a1 == 3) = false := beq_eq_false_iff_ne.2 c3
  have d4 : (a1 == 4) = false := beq_eq_false_iff_ne.2 c4
  by_cases c5 : 8 ≤ a1
  · by_cases c6 : a1 < 8 + a0
    · have HF := Aside0.mk (show kndO a0 a1 = .iface 108 (.agg #[.int .i64 (a1 - 8)]) from (if_pos (by simp [kOk]; omega)).trans (kndV_cls c5))
      have d5 : decide (8 ≤ a1) = true := decide_eq_true c5
      have d6 : decide (a1 < 8 + a0) = true := decide_eq_true c6
      clear c0 c1 c2 c3 c4
      go_enter Try.func80, Try.ntmps80
      go_wp2
      go_ret
      exact ⟨by rw [HF.out]; rfl, Drawn0.refl _⟩
    · have HF := Aside0.mk (show kndO a0 a1 = .nilIface from if_neg (by simp [kOk]; omega))
      have d5 : decide (8 ≤ a1) = true := decide_eq_true c5
      have d6 : decide (a1 < 8 + a0) = false := decide_eq_false c6
      clear c0 c1 c2 c3 c4
      go_enter Try.func80, Try.ntmps80
      go_wp2
      go_ret
      exact ⟨by rw [HF.out]; rfl, Drawn0.refl _⟩
  · have HF := Aside0.mk (show kndO a0 a1 = .nilIface from if_neg (by simp [kOk]; omega))
    have d5 : decide (8 ≤ a1) = false := decide_eq_false c5
    clear c0 c1 c2 c3 c4
    go_enter Try.func80, Try.ntmps80
    go_wp2
    go_ret
    exact ⟨by rw [HF.out]; rfl, Drawn0.refl _⟩

end Go.Proofs.Ytfcbeodndplenaa.K

/- Function 79, impl_fieldType: what it answers, and the walk. (Printed or laid by this session's program wip/pr.py.) -/
namespace Go.Proofs.Ytfcbeodndplenaa.K
open Go.RowKit Go.Proofs.YtfcbeodndplenaaW.PrintWords Go.Proofs.YtfcbeodndplenaaW.PrintLast Go.Proofs.YtfcbeodndplenaaW.PrintMore
attribute [local go_sem] max2_int min2_int max_two min_two max_three min_three max_four min_four
set_option linter.unusedVariables false
set_option linter.unusedSimpArgs false

/-! ### impl_fieldType: function 79 -/
/-- May a field be of a type: of so many classes. -/
def impl_fieldType.f (a0 a1 : Int) : Option Bool := if 0 ≤ a0 ∧ a0 ≤ 281474976710656 then some (kOk a0 a1 && decide (a1 = 1 ∨ a1 = 3 ∨ a1 = 4 ∨ 8 ≤ a1)) else none
set_option maxHeartbeats 2000000 in
theorem impl_fieldType.calls (a0 : Int) (a1 : Int) (r : Bool) (w : World) (h : impl_fieldType.f a0 a1 = some r) :
    Calls Try.prog 79 #[.int .i64 a0, .int .i64 a1] w fun e w' => e = .returned (.bool r) ∧ Drawn0 w w' := by
  unfold impl_fieldType.f at h
  split at h
  case isFalse => simp at h
  case isTrue hb =>
    obtain ⟨h0, h1⟩ := hb
    have HR := Aside0.mk (Option.some.inj h)
    clear h
    by_cases hk : kOk a0 a1 = true
    · have hv : kv a1 := by simp [kOk] at hk; unfold kv; omega
      have HO := Aside0.mk (show kndO a0 a1 = kndV a1 from if_pos hk)
      have t1 := kind_int hv
      have t2 := kind_arr hv
      have t3 := kind_class hv
      have HK := Aside0.mk hk
      clear hk hv
      go_enter Try.func79, Try.ntmps79
      go_wp2_with (go_at_call 80; refine (impl_kindOf.calls a0 a1 _ h0 h1).mono ?_; rintro e w' ⟨rfl, ⟨n, rfl⟩⟩; rw [HO.out])
      · go_ret
        exact ⟨by show Ending.returned (.bool true) = _; rw [← HR.out, HK.out, decide_eq_true (by omega)]; rfl, Drawn0.step (Drawn0.refl _) _⟩
      · go_ret
        exact ⟨by show Ending.returned (.bool false) = _; rw [← HR.out, HK.out, decide_eq_false (by omega)]; rfl, Drawn0.step (Drawn0.refl _) _⟩
    · have HO := Aside0.mk (show kndO a0 a1 = .nilIface from if_neg hk)
      have HK := Aside0.mk (Bool.not_eq_true _ |>.mp hk)
      have t1 := nil_int
      have t2 := nil_arr
      have t3 := nil_class
      clear hk
      go_enter Try.func79, Try.ntmps79
      go_wp2_with (go_at_call 80; refine (impl_kindOf.calls a0 a1 _ h0 h1).mono ?_; rintro e w' ⟨rfl, ⟨n, rfl⟩⟩; rw [HO.out])
      go_ret
      exact ⟨by show Ending.returned (.bool false) = _; rw [← HR.out, HK.out]; rfl, Drawn0.step (Drawn0.refl _) _⟩

end Go.Proofs.Ytfcbeodndplenaa.K

/- Function 53, impl_ClassesOk: what it answers, and the walk. (Printed or laid by this session's program wip/pr.py.) -/
namespace Go.Proofs.Ytfcbeodndplenaa.K
open Go.RowKit Go.Proofs.YtfcbeodndplenaaW.PrintWords Go.Proofs.YtfcbeodndplenaaW.PrintLast Go.Proofs.YtfcbeodndplenaaW.PrintMore
attribute [local go_sem] max2_int min2_int max_two min_two max_three min_three max_four min_four
set_option linter.unusedVariables false
set_option linter.unusedSimpArgs false

/-! ### impl_ClassesOk: function 53 -/
mutual
def impl_ClassesOk.j0 : Nat → List (S34) → Bool → Option (Bool)
  | 0, _, _ => none
  | k + 1, x0, x15 => if x15 = true then (some false) else (if 0 < (x0.length : Int) then (if ((rd_T34 x0 0).f0) = (-1) then (impl_ClassesOk.j1 k x0 ((((rd_T34 x0 0).f1).length : Int) != 0)) else (impl_ClassesOk.j1 k x0 true)) else (none))
def impl_ClassesOk.j1 : Nat → List (S34) → Bool → Option (Bool)
  | 0, _, _ => none
  | k + 1, x0, x28 => if x28 = true then (some false) else (if 1 < (x0.length : Int) then (if ((rd_T34 x0 1).f0) = 0 then (if (((rd_T34 x0 1).f1).length : Int) = 1 then (if 0 < (((rd_T34 x0 1).f1).length : Int) then (impl_ClassesOk.j2 k x0 ((rd ((rd_T34 x0 1).f1) 0) != 1)) else (none)) else (impl_ClassesOk.j2 k x0 true)) else (impl_ClassesOk.j2 k x0 true)) else (none))
def impl_ClassesOk.j2 : Nat → List (S34) → Bool → Option (Bool)
  | 0, _, _ => none
  | k + 1, x0, x47 => if x47 = true then (some false) else (impl_ClassesOk.l0 k x0 x0 (x0.length : Int) 0)
def impl_ClassesOk.l0 : Nat → List (S34) → List (S34) → Int → Int → Option (Bool)
  | 0, _, _, _, _ => none
  | k + 1, x0, x48, x49, x50 => if x50 < x49 then (if 0 ≤ x50 then (if x50 < (x48.length : Int) then (if x50 > 1 then (if ((rd_T34 x48 x50).f0) < 0 then (impl_ClassesOk.j4 k x0 x48 x49 x50 true ((rd_T34 x48 x50).f0) ((rd_T34 x48 x50).f1)) else (impl_ClassesOk.j4 k x0 x48 x49 x50 (decide (((rd_T34 x48 x50).f0) ≥ x50)) ((rd_T34 x48 x50).f0) ((rd_T34 x48 x50).f1))) else (impl_ClassesOk.j4 k x0 x48 x49 x50 false ((rd_T34 x48 x50).f0) ((rd_T34 x48 x50).f1))) else (none)) else (none)) else (some true)
def impl_ClassesOk.j4 : Nat → List (S34) → List (S34) → Int → Int → Bool → Int → List Int → Option (Bool)
  | 0, _, _, _, _, _, _, _ => none
  | k + 1, x0, x48, x49, x50, x67, x157000, x157001 => if x67 = true then (some false) else (if (x157001.length : Int) > 2 then (some false) else (impl_ClassesOk.l1 k x0 x48 x49 x50 x157001 (x157001.length : Int) 0))
def impl_ClassesOk.l1 : Nat → List (S34) → List (S34) → Int → Int → List Int → Int → Int → Option (Bool)
  | 0, _, _, _, _, _, _, _ => none
  | k + 1, x0, x48, x49, x50, x73, x74, x75 => if x75 < x74 then (if 0 ≤ x75 then (if x75 < (x73.length : Int) then ((impl_fieldType.f (x0.length : Int) (rd x73 x75)).bind fun t158 => (if t158 = true then (impl_ClassesOk.l1 k x0 x48 x49 x50 x73 x74 (wrap64 (x75 + 1))) else (some false))) else (none)) else (none)) else (impl_ClassesOk.l0 k x0 x48 x49 (wrap64 (x50 + 1)))
end
def impl_ClassesOk.f (k : Nat) (l0 : List (S34)) : Option (Bool) := if (l0.length : Int) < 2 then (impl_ClassesOk.j0 k l0 true) else (impl_ClassesOk.j0 k l0 (decide ((l0.length : Int) > 5)))
theorem impl_ClassesOk.mono_l : ∀ k, (∀ y0 y1, LeO (impl_ClassesOk.j0 k y0 y1) (impl_ClassesOk.j0 (k + 1) y0 y1)) ∧ (∀ y0 y1, LeO (impl_ClassesOk.j1 k y0 y1) (impl_ClassesOk.j1 (k + 1) y0 y1)) ∧ (∀ y0 y1, LeO (impl_ClassesOk.j2 k y0 y1) (impl_ClassesOk.j2 (k + 1) y0 y1)) ∧ (∀ y0 y1 y2 y3, LeO (impl_ClassesOk.l0 k y0 y1 y2 y3) (impl_ClassesOk.l0 (k + 1) y0 y1 y2 y3)) ∧ (∀ y0 y1 y2 y3 y4 y5 y6, LeO (impl_ClassesOk.j4 k y0 y1 y2 y3 y4 y5 y6) (impl_ClassesOk.j4 (k + 1) y0 y1 y2 y3 y4 y5 y6)) ∧ (∀ y0 y1 y2 y3 y4 y5 y6, LeO (impl_ClassesOk.l1 k y0 y1 y2 y3 y4 y5 y6) (impl_ClassesOk.l1 (k + 1) y0 y1 y2 y3 y4 y5 y6))
  | 0 => ⟨fun _ _ r h => by simp [impl_ClassesOk.j0] at h, fun _ _ r h => by simp [impl_ClassesOk.j1] at h, fun _ _ r h => by simp [impl_ClassesOk.j2] at h, fun _ _ _ _ r h => by simp [impl_ClassesOk.l0] at h, fun _ _ _ _ _ _ _ r h => by simp [impl_ClassesOk.j4] at h, fun _ _ _ _ _ _ _ r h => by simp [impl_ClassesOk.l1] at h⟩
  | k + 1 => by
    obtain ⟨ih0, ih1, ih2, ih3, ih4, ih5⟩ := impl_ClassesOk.mono_l k
    refine ⟨?_, ?_, ?_, ?_, ?_, ?_⟩
    · intro y0 y1
      unfold impl_ClassesOk.j0
      repeat' first
      | (with_reducible exact ih0 _ _)
      | (with_reducible exact ih1 _ _)
      | (with_reducible exact ih2 _ _)
      | (with_reducible exact ih3 _ _ _ _)
      | (with_reducible exact ih4 _ _ _ _ _ _ _)
      | (with_reducible exact ih5 _ _ _ _ _ _ _)
      | (with_reducible exact LeO.refl _)
      | (with_reducible exact LeO.none _)
      | (with_reducible refine LeO.ite ?_ ?_)
      | (with_reducible refine LeO.bind ?_ (fun _ => ?_))
      | exact ih0 _ _
      | exact ih1 _ _
      | exact ih2 _ _
      | exact ih3 _ _ _ _
      | exact ih4 _ _ _ _ _ _ _
      | exact ih5 _ _ _ _ _ _ _
      | exact LeO.none _
      | refine LeO.ite ?_ ?_
      | refine LeO.bind ?_ (fun _ => ?_)
    · intro y0 y1
      unfold impl_ClassesOk.j1
      repeat' first
      | (with_reducible exact ih0 _ _)
      | (with_reducible exact ih1 _ _)
      | (with_reducible exact ih2 _ _)
      | (with_reducible exact ih3 _ _ _ _)
      | (with_reducible exact ih4 _ _ _ _ _ _ _)
      | (with_reducible exact ih5 _ _ _ _ _ _ _)
      | (with_reducible exact LeO.refl _)
      | (with_reducible exact LeO.none _)
      | (with_reducible refine LeO.ite ?_ ?_)
      | (with_reducible refine LeO.bind ?_ (fun _ => ?_))
      | exact ih0 _ _
      | exact ih1 _ _
      | exact ih2 _ _
      | exact ih3 _ _ _ _
      | exact ih4 _ _ _ _ _ _ _
      | exact ih5 _ _ _ _ _ _ _
      | exact LeO.none _
      | refine LeO.ite ?_ ?_
      | refine LeO.bind ?_ (fun _ => ?_)
    · intro y0 y1
      unfold impl_ClassesOk.j2
      repeat' first
      | (with_reducible exact ih0 _ _)
      | (with_reducible exact ih1 _ _)
      | (with_reducible exact ih2 _ _)
      | (with_reducible exact ih3 _ _ _ _)
      | (with_reducible exact ih4 _ _ _ _ _ _ _)
      | (with_reducible exact ih5 _ _ _ _ _ _ _)
      | (with_reducible exact LeO.refl _)
      | (with_reducible exact LeO.none _)
      | (with_reducible refine LeO.ite ?_ ?_)
      | (with_reducible refine LeO.bind ?_ (fun _ => ?_))
      | exact ih0 _ _
      | exact ih1 _ _
      | exact ih2 _ _
      | exact ih3 _ _ _ _
      | exact ih4 _ _ _ _ _ _ _
      | exact ih5 _ _ _ _ _ _ _
      | exact LeO.none _
      | refine LeO.ite ?_ ?_
      | refine LeO.bind ?_ (fun _ => ?_)
    · intro y0 y1 y2 y3
      unfold impl_ClassesOk.l0
      repeat' first
      | (with_reducible exact ih0 _ _)
      | (with_reducible exact ih1 _ _)
      | (with_reducible exact ih2 _ _)
      | (with_reducible exact ih3 _ _ _ _)
      | (with_reducible exact ih4 _ _ _ _ _ _ _)
      | (with_reducible exact ih5 _ _ _ _ _ _ _)
      | (with_reducible exact LeO.refl _)
      | (with_reducible exact LeO.none _)
      | (with_reducible refine LeO.ite ?_ ?_)
      | (with_reducible refine LeO.bind ?_ (fun _ => ?_))
      | exact ih0 _ _
      | exact ih1 _ _
      | exact ih2 _ _
      | exact ih3 _ _ _ _
      | exact ih4 _ _ _ _ _ _ _
      | exact ih5 _ _ _ _ _ _ _
      | exact LeO.none _
      | refine LeO.ite ?_ ?_
      | refine LeO.bind ?_ (fun _ => ?_)
    · intro y0 y1 y2 y3 y4 y5 y6
      unfold impl_ClassesOk.j4
      repeat' first
      | (with_reducible exact ih0 _ _)
      | (with_reducible exact ih1 _ _)
      | (with_reducible exact ih2 _ _)
      | (with_reducible exact ih3 _ _ _ _)
      | (with_reducible exact ih4 _ _ _ _ _ _ _)
      | (with_reducible exact ih5 _ _ _ _ _ _ _)
      | (with_reducible exact LeO.refl _)
      | (with_reducible exact LeO.none _)
      | (with_reducible refine LeO.ite ?_ ?_)
      | (with_reducible refine LeO.bind ?_ (fun _ => ?_))
      | exact ih0 _ _
      | exact ih1 _ _
      | exact ih2 _ _
      | exact ih3 _ _ _ _
      | exact ih4 _ _ _ _ _ _ _
      | exact ih5 _ _ _ _ _ _ _
      | exact LeO.none _
      | refine LeO.ite ?_ ?_
      | refine LeO.bind ?_ (fun _ => ?_)
    · intro y0 y1 y2 y3 y4 y5 y6
      unfold impl_ClassesOk.l1
      repeat' first
      | (with_reducible exact ih0 _ _)
      | (with_reducible exact ih1 _ _)
      | (with_reducible exact ih2 _ _)
      | (with_reducible exact ih3 _ _ _ _)
      | (with_reducible exact ih4 _ _ _ _ _ _ _)
      | (with_reducible exact ih5 _ _ _ _ _ _ _)
      | (with_reducible exact LeO.refl _)
      | (with_reducible exact LeO.none _)
      | (with_reducible refine LeO.ite ?_ ?_)
      | (with_reducible refine LeO.bind ?_ (fun _ => ?_))
      | exact ih0 _ _
      | exact ih1 _ _
      | exact ih2 _ _
      | exact ih3 _ _ _ _
      | exact ih4 _ _ _ _ _ _ _
      | exact ih5 _ _ _ _ _ _ _
      | exact LeO.none _
      | refine LeO.ite ?_ ?_
      | refine LeO.bind ?_ (fun _ => ?_)
theorem impl_ClassesOk.mono : ∀ a0 k, LeO (impl_ClassesOk.f k a0) (impl_ClassesOk.f (k + 1) a0) := by
  intro a0 k
  obtain ⟨ih0, ih1, ih2, ih3, ih4, ih5⟩ := impl_ClassesOk.mono_l k
  unfold impl_ClassesOk.f
  repeat' first
      | (with_reducible exact ih0 _ _)
      | (with_reducible exact ih1 _ _)
      | (with_reducible exact ih2 _ _)
      | (with_reducible exact ih3 _ _ _ _)
      | (with_reducible exact ih4 _ _ _ _ _ _ _)
      | (with_reducible exact ih5 _ _ _ _ _ _ _)
      | (with_reducible exact LeO.refl _)
      | (with_reducible exact LeO.none _)
      | (with_reducible refine LeO.ite ?_ ?_)
      | (with_reducible refine LeO.bind ?_ (fun _ => ?_))
      | exact ih0 _ _
      | exact ih1 _ _
      | exact ih2 _ _
      | exact ih3 _ _ _ _
      | exact ih4 _ _ _ _ _ _ _
      | exact ih5 _ _ _ _ _ _ _
      | exact LeO.none _
      | refine LeO.ite ?_ ?_
      | refine LeO.bind ?_ (fun _ => ?_)
set_option maxHeartbeats 8000000 in
set_option maxRecDepth 100000 in
theorem impl_ClassesOk.calls (k : Nat) (A0 : Option Addr) (c0 : Nat) (l0 : List (S34)) (r : Bool) (w : World) (hr0 : Kd.C k34 w A0 l0.length l0) (hc0 : l0.length ≤ c0) (h : impl_ClassesOk.f k l0 = some r) :
    Calls Try.prog 53 #[.slice A0 l0.length c0] w fun e w' => e = .returned (.bool r) ∧ Below w.heap.size w w' := by
  have hu34 := Try.underlying34
  have HR0 := Aside0.mk hr0
  have HC0 := Aside0.mk hc0
  clear hr0 hc0
  have HB := Aside0.mk (Below.refl w.heap.size w)
  have H : (if (l0.length : Int) < 2 then (impl_ClassesOk.j0 k l0 true) else (impl_ClassesOk.j0 k l0 (decide ((l0.length : Int) > 5)))) = some r := h
  clear h
  have HC2 := Aside0.mk H
  clear H
  go_enter Try.func53, Try.ntmps53
  go_upto_region 1 with (fail)
  go_cut [15] (fun v15 wc => ∃ (kq : Nat) (x15_1 : Bool), v15 = .bool x15_1 ∧ Aside0 (impl_ClassesOk.j0 kq l0 x15_1 = some r) ∧ Aside0 (kq ≤ k) ∧ Aside0 (Below w.heap.size w wc))
  case first =>
    have H := HC2.out
    clear HC2
    by_cases c3 : (l0.length : Int) < 2
    · rw [if_pos c3] at H
      have c3b0 : decide ((l0.length : Int) < 2) = true := decide_eq_true c3
      have c3b1 : decide (l0.length < 2) = true := decide_eq_true (by omega)
      clear c3
      (first | rw [c3b0] | (simp only [i64_w, i32_w]; rw [c3b0]) | skip)
      have H' := Aside0.mk H
      clear H
      go_wp2
      go_meet
      case rel => exact ⟨_, (true), (by first | rfl | (simp; done) | (simp [*]; done)), H', ⟨by first | omega | exact Nat.le_refl _⟩, ⟨by repeat (first | (with_reducible first | exact HB.out | apply below_alloc | apply pw_below_drewN | apply below_drew1) | exact HB.out)⟩⟩
    · rw [if_neg c3] at H
      have c3b0 : decide ((l0.length : Int) < 2) = false := decide_eq_false c3
      have c3b1 : decide (l0.length < 2) = false := decide_eq_false (by omega)
      clear c3
      (first | rw [c3b0] | (simp only [i64_w, i32_w]; rw [c3b0]) | skip)
      have H' := Aside0.mk H
      clear H
      go_wp2
      go_meet
      case rel => exact ⟨_, (decide ((l0.length : Int) > 5)), (by first | rfl | (simp; done) | (simp [*]; done)), H', ⟨by first | omega | exact Nat.le_refl _⟩, ⟨by repeat (first | (with_reducible first | exact HB.out | apply below_alloc | apply pw_below_drewN | apply below_drew1) | exact HB.out)⟩⟩
  case rest =>
    clear HC2
    try clear p2
    try clear c3
    try clear c3b0
    try clear c3b1
    obtain ⟨kq, x15_1, rfl, HA, HJ1, HB⟩ := hcut
    cases kq with
    | zero => exact absurd HA.out (by simp [impl_ClassesOk.j0])
    | succ kj1 =>
      have H := HA.out
      clear HA
      simp only [impl_ClassesOk.j0] at H
      by_cases c4 : x15_1 = true
      · subst c4
        have H1 : (some false) = some r := by rw [if_pos rfl] at H; exact H
        clear H
        have H := H1
        clear H1
        obtain rfl := Option.some.inj H
        go_wp2
        go_ret
        exact ⟨by first | rfl | (simp [errW_none, errW_some] <;> rfl) | (simp [*, errW_none, errW_some] <;> rfl), by repeat (first | (with_reducible first | exact HB.out | apply below_alloc | apply pw_below_drewN | apply below_drew1) | exact HB.out)⟩
      · replace c4 := Bool.eq_false_iff.mpr c4
        subst c4
        have H1 : (if 0 < (l0.length : Int) then (if ((rd_T34 l0 0).f0) = (-1) then (impl_ClassesOk.j1 kj1 l0 ((((rd_T34 l0 0).f1).length : Int) != 0)) else (impl_ClassesOk.j1 kj1 l0 true)) else (none)) = some r := by rw [if_neg (show ¬ (false = true) by decide)] at H; exact H
        clear H
        have H := H1
        clear H1
        have HC5 := Aside0.mk H
        clear H
        go_upto_region 3 with (fail)
        go_cut [28] (fun v28 wc => ∃ (kq : Nat) (x28_4 : Bool), v28 = .bool x28_4 ∧ Aside0 (impl_ClassesOk.j1 kq l0 x28_4 = some r) ∧ Aside0 (kq ≤ kj1) ∧ Aside0 (Below w.heap.size w wc))
        case first =>
          have H := HC5.out
          clear HC5
          by_cases c6 : 0 < (l0.length : Int)
          · rw [if_pos c6] at H
            have c6b0 : decide (0 < (l0.length : Int)) = true := decide_eq_true c6
            have c6b1 : decide (0 < l0.length) = true := decide_eq_true (by omega)
            clear c6
            (first | rw [c6b0] | (simp only [i64_w, i32_w]; rw [c6b0]) | skip)
            by_cases c7 : ((rd_T34 l0 0).f0) = (-1)
            · rw [if_pos c7] at H
              have c7b0 : (((rd_T34 l0 0).f0) == (-1)) = true := beq_iff_eq.mpr c7
              have c7b1 : (((rd_T34 l0 0).f0) != (-1)) = false := bne_eq_false_iff_eq.mpr c7
              clear c7
              have H' := Aside0.mk H
              clear H
              have p150 : 0 ≤ (0 : Int) := (by omega)
              have q150 : 0 < (l0.length : Int) := of_decide_eq_true (by first | (with_reducible assumption) | assumption)
              obtain ⟨ad150, A150_1, c150_1, e150, hx150_0, hx150_1, hl150_1, hi150_1⟩ := at_T34 HR0.out 0 p150 q150
              cases e150
              have qi150 : (0 < l0.length) = True := eq_true (by omega)
              (try rw [show ((0 : Int)).toNat = 0 from rfl] at hx150_0)
              (try rw [show 0 * 2 = 0 from rfl] at hx150_0)
              (try rw [Addr.add_zero'] at hx150_0)
              (try rw [show ((0 : Int)).toNat = 0 from rfl] at hx150_1)
              (try rw [show 0 * 2 = 0 from rfl] at hx150_1)
              (try rw [Addr.add_zero'] at hx150_1)
              replace hx150_0 := (HB.out.cell (World.block_lt_of_cell? w _ hx150_0)).trans hx150_0
              replace hx150_1 := (HB.out.cell (World.block_lt_of_cell? w _ hx150_1)).trans hx150_1
              have HR150_1 := Aside0.mk hi150_1
              have HC150_1 := Aside0.mk hl150_1
              clear hi150_1 hl150_1
              replace p150 := eq_true p150
              replace q150 := eq_true q150
              have p151 : 0 ≤ (0 : Int) := (by omega)
              have q151 : 0 < (l0.length : Int) := of_decide_eq_true (by first | (with_reducible assumption) | assumption)
              obtain ⟨ad151, A151_1, c151_1, e151, hx151_0, hx151_1, hl151_1, hi151_1⟩ := at_T34 HR0.out 0 p151 q151
              obtain rfl : ad150 = ad151 := (by injection e151)
              have qi151 : (0 < l0.length) = True := eq_true (by omega)
              (try rw [show ((0 : Int)).toNat = 0 from rfl] at hx151_0)
              (try rw [show 0 * 2 = 0 from rfl] at hx151_0)
              (try rw [Addr.add_zero'] at hx151_0)
              (try rw [show ((0 : Int)).toNat = 0 from rfl] at hx151_1)
              (try rw [show 0 * 2 = 0 from rfl] at hx151_1)
              (try rw [Addr.add_zero'] at hx151_1)
              replace hx151_0 := (HB.out.cell (World.block_lt_of_cell? w _ hx151_0)).trans hx151_0
              replace hx151_1 := (HB.out.cell (World.block_lt_of_cell? w _ hx151_1)).trans hx151_1
              have HR151_1 := Aside0.mk hi151_1
              have HC151_1 := Aside0.mk hl151_1
              clear hi151_1 hl151_1
              replace p151 := eq_true p151
              replace q151 := eq_true q151
              have ea_ := Option.some.inj (hx150_1.symm.trans hx151_1)
              injection ea_ with ea_ en_ ec_
              subst ea_
              subst ec_
              clear en_
              go_wp2
              go_meet
              case rel => exact ⟨_, (((((rd_T34 l0 0).f1).length : Int) != 0)), (by first | rfl | (simp; done) | (simp [*]; done)), H', ⟨by have := HJ1.out; first | omega | exact Nat.le_refl _⟩, ⟨by repeat (first | (with_reducible first | exact HB.out | apply below_alloc | apply pw_below_drewN | apply below_drew1) | exact HB.out)⟩⟩
            · rw [if_neg c7] at H
              have c7b0 : (((rd_T34 l0 0).f0) == (-1)) = false := beq_eq_false_iff_ne.mpr c7
              have c7b1 : (((rd_T34 l0 0).f0) != (-1)) = true := bne_iff_ne.mpr c7
              have H' := Aside0.mk H
              clear H
              have p150 : 0 ≤ (0 : Int) := (by omega)
              have q150 : 0 < (l0.length : Int) := of_decide_eq_true (by first | (with_reducible assumption) | assumption)
              obtain ⟨ad150, A150_1, c150_1, e150, hx150_0, hx150_1, hl150_1, hi150_1⟩ := at_T34 HR0.out 0 p150 q150
              cases e150
              have qi150 : (0 < l0.length) = True := eq_true (by omega)
              (try rw [show ((0 : Int)).toNat = 0 from rfl] at hx150_0)
              (try rw [show 0 * 2 = 0 from rfl] at hx150_0)
              (try rw [Addr.add_zero'] at hx150_0)
              (try rw [show ((0 : Int)).toNat = 0 from rfl] at hx150_1)
              (try rw [show 0 * 2 = 0 from rfl] at hx150_1)
              (try rw [Addr.add_zero'] at hx150_1)
              replace hx150_0 := (HB.out.cell (World.block_lt_of_cell? w _ hx150_0)).trans hx150_0
              replace hx150_1 := (HB.out.cell (World.block_lt_of_cell? w _ hx150_1)).trans hx150_1
              have HR150_1 := Aside0.mk hi150_1
              have HC150_1 := Aside0.mk hl150_1
              clear hi150_1 hl150_1
              replace p150 := eq_true p150
              replace q150 := eq_true q150
              go_wp2
              go_meet
              case rel => exact ⟨_, (true), (by first | rfl | (simp; done) | (simp [*]; done)), H', ⟨by have := HJ1.out; first | omega | exact Nat.le_refl _⟩, ⟨by repeat (first | (with_reducible first | exact HB.out | apply below_alloc | apply pw_below_drewN | apply below_drew1) | exact HB.out)⟩⟩
          · rw [if_neg c6] at H
            exact absurd H (by simp)
        case rest =>
          clear HC5
          try clear c1
          try clear p1
          try clear q1
          try clear hx1
          try clear qi1
          try clear p2
          try clear c3
          try clear c3b0
          try clear c3b1
          try clear c4
          try clear c5
          try clear c6
          try clear c6b0
          try clear c6b1
          try clear c7
          try clear c7b0
          try clear c7b1
          try clear hx150_0
          try clear hx150_1
          try clear hx151_0
          try clear hx151_1
          try clear p150
          try clear p151
          try clear p2
          try clear q150
          try clear q151
          obtain ⟨kq, x28_4, rfl, HA, HJ4, HB⟩ := hcut
          cases kq with
          | zero => exact absurd HA.out (by simp [impl_ClassesOk.j1])
          | succ kj4 =>
            have H := HA.out
            clear HA
            simp only [impl_ClassesOk.j1] at H
            by_cases c8 : x28_4 = true
            · subst c8
              have H1 : (some false) = some r := by rw [if_pos rfl] at H; exact H
              clear H
              have H := H1
              clear H1
              obtain rfl := Option.some.inj H
              go_wp2
              go_ret
              exact ⟨by first | rfl | (simp [errW_none, errW_some] <;> rfl) | (simp [*, errW_none, errW_some] <;> rfl), by repeat (first | (with_reducible first | exact HB.out | apply below_alloc | apply pw_below_drewN | apply below_drew1) | exact HB.out)⟩
            · replace c8 := Bool.eq_false_iff.mpr c8
              subst c8
              have H1 : (if 1 < (l0.length : Int) then (if ((rd_T34 l0 1).f0) = 0 then (if (((rd_T34 l0 1).f1).length : Int) = 1 then (if 0 < (((rd_T34 l0 1).f1).length : Int) then (impl_ClassesOk.j2 kj4 l0 ((rd ((rd_T34 l0 1).f1) 0) != 1)) else (none)) else (impl_ClassesOk.j2 kj4 l0 true)) else (impl_ClassesOk.j2 kj4 l0 true)) else (none)) = some r := by rw [if_neg (show ¬ (false = true) by decide)] at H; exact H
              clear H
              have H := H1
              clear H1
              by_cases c9 : 1 < (l0.length : Int)
              · rw [if_pos c9] at H
                have c9b0 : decide (1 < (l0.length : Int)) = true := decide_eq_true c9
                have c9b1 : decide (1 < l0.length) = true := decide_eq_true (by omega)
                clear c9
                have HC10 := Aside0.mk H
                clear H
                have p152 : 0 ≤ (1 : Int) := (by omega)
                have q152 : 1 < (l0.length : Int) := of_decide_eq_true (by first | (with_reducible assumption) | assumption)
                obtain ⟨ad152, A152_1, c152_1, e152, hx152_0, hx152_1, hl152_1, hi152_1⟩ := at_T34 HR0.out 1 p152 q152
                cases e152
                (try simp only [show (1 : Int).toNat = 1 from rfl, Nat.reduceMul, Nat.reduceEqDiff, Go.Addr.add, ↓reduceIte] at hx152_0)
                (try simp only [show (1 : Int).toNat = 1 from rfl, Nat.reduceMul, Nat.reduceEqDiff, Go.Addr.add, ↓reduceIte] at hx152_1)
                have qi152 : (1 < l0.length) = True := eq_true (by omega)
                (try rw [show ((1 : Int)).toNat = 1 from rfl] at hx152_0)
                (try rw [show 1 * 2 = 2 from rfl] at hx152_0)
                (try rw [show ((1 : Int)).toNat = 1 from rfl] at hx152_1)
                (try rw [show 1 * 2 = 2 from rfl] at hx152_1)
                replace hx152_0 := (HB.out.cell (World.block_lt_of_cell? w _ hx152_0)).trans hx152_0
                replace hx152_1 := (HB.out.cell (World.block_lt_of_cell? w _ hx152_1)).trans hx152_1
                have HR152_1 := Aside0.mk hi152_1
                have HC152_1 := Aside0.mk hl152_1
                clear hi152_1 hl152_1
                replace p152 := eq_true p152
                replace q152 := eq_true q152
                go_upto_region 6 with (first | ((with_reducible refine gate_dst (N := 3) rfl ?_); (try (refine gate_guard (by rfl) ?_; dsimp only)); refine box_event ?hg (N := 3) ?hd (cs := #[.int .i64 0, .slice none 0 0]) (t := 34) ?hr ?_; (case hd => rfl); (case hg => rfl); (case hr => first | (go_simp; done) | (go_simp; rfl)); intro gb153 hg w11 hbox hb; have n0_ := Aside0.mk (below_step (by repeat (first | (with_reducible first | exact HB.out | apply below_alloc | apply pw_below_drewN | apply below_drew1) | exact HB.out)) hb); have n1_ := Aside0.mk (hbox); have n2_ := Aside0.mk ((by rw [hg]; exact (below_size (by repeat (first | (with_reducible first | exact HB.out | apply below_alloc | apply pw_below_drewN | apply below_drew1) | exact HB.out))) : w.heap.size ≤ gb153)); have n3_ := Aside0.mk ((by rw [hg]; exact (below_size (by repeat (first | (with_reducible first | exact HB.out | apply below_alloc | apply pw_below_drewN | apply below_drew1) | exact HB.out))) : w.heap.size ≤ gb153)); clear HB; have HB := n0_; have BK153 := n1_; have GW153 := n2_; have GE153 := n3_; clear n0_ n1_ n2_ n3_; clear hb hbox hg; have hcz12_0 : w11.cell? ⟨gb153, 0, none⟩ = some (.int .i64 0) := (blk_cell BK153.out 0).trans rfl; have hcz12_1 : w11.cell? ⟨gb153, 1, none⟩ = some (.slice none 0 0) := (blk_cell BK153.out 1).trans rfl; have hfz12_0 := blk_frozen BK153.out 0; have hfz12_1 := blk_frozen BK153.out 1))
                (try simp only [Act.put, List.setIfInBounds_toArray, List.set_cons_zero, List.set_cons_succ])
                go_cut [47] (fun v47 wc => ∃ (kq : Nat) (x47_9 : Bool), v47 = .bool x47_9 ∧ Aside0 (impl_ClassesOk.j2 kq l0 x47_9 = some r) ∧ Aside0 (kq ≤ kj4) ∧ Aside0 (wc.heap[gb153]? = some (.cells #[.int .i64 ((rd_T34 l0 1).f0), (.slice A152_1 ((rd_T34 l0 1).f1).length c152_1)] 34 (0, 0))) ∧ Aside0 (Below w.heap.size w wc))
                case first =>
                  have H := HC10.out
                  clear HC10
                  by_cases c13 : ((rd_T34 l0 1).f0) = 0
                  · rw [if_pos c13] at H
                    have c13b0 : (((rd_T34 l0 1).f0) == 0) = true := beq_iff_eq.mpr c13
                    have c13b1 : (((rd_T34 l0 1).f0) != 0) = false := bne_eq_false_iff_eq.mpr c13
                    clear c13
                    (first | rw [c13b0] | (simp only [i64_w, i32_w]; rw [c13b0]) | skip)
                    by_cases c14 : (((rd_T34 l0 1).f1).length : Int) = 1
                    · rw [if_pos c14] at H
                      have c14b0 : ((((rd_T34 l0 1).f1).length : Int) == 1) = true := beq_iff_eq.mpr c14
                      have c14b1 : ((((rd_T34 l0 1).f1).length : Int) != 1) = false := bne_eq_false_iff_eq.mpr c14
                      clear c14
                      by_cases c15 : 0 < (((rd_T34 l0 1).f1).length : Int)
                      · rw [if_pos c15] at H
                        have c15b0 : decide (0 < (((rd_T34 l0 1).f1).length : Int)) = true := decide_eq_true c15
                        have c15b1 : decide (0 < ((rd_T34 l0 1).f1).length) = true := decide_eq_true (by omega)
                        clear c15
                        have H' := Aside0.mk H
                        clear H
                        have hcz16_0 : w11.cell? ⟨gb153, 0, none⟩ = some (.int .i64 0) := (blk_cell BK153.out 0).trans rfl
                        have hcz16_1 : w11.cell? ⟨gb153, 1, none⟩ = some (.slice none 0 0) := (blk_cell BK153.out 1).trans rfl
                        have hfz16_0 := blk_frozen BK153.out 0
                        have hfz16_1 := blk_frozen BK153.out 1
                        have p154 : 0 ≤ (0 : Int) := (by omega)
                        have q154 : 0 < (((rd_T34 l0 1).f1).length : Int) := of_decide_eq_true (by first | (with_reducible assumption) | assumption)
                        obtain ⟨ad154, e154, hx154_0⟩ := Kd.at_int HR152_1.out 0 p154 q154
                        cases e154
                        have qi154 : (0 < ((rd_T34 l0 1).f1).length) = True := eq_true (by omega)
                        (try rw [show ((0 : Int)).toNat = 0 from rfl] at hx154_0)
                        (try rw [Addr.add_zero'] at hx154_0)
                        have hn154_0 : ad154.block ≠ gb153 := Nat.ne_of_lt (Nat.lt_of_lt_of_le (by have := World.block_lt_of_cell? _ _ hx154_0; first | rwa [add_block] at this | exact this) GW153.out)
                        have hn154_1 : ad154.block ≠ gb153 := Nat.ne_of_lt (Nat.lt_of_lt_of_le (by have := World.block_lt_of_cell? _ _ hx154_0; first | rwa [add_block] at this | exact this) GW153.out)
                        replace hx154_0 := (HB.out.cell (World.block_lt_of_cell? w _ hx154_0)).trans hx154_0
                        replace hx154_0 := (cell_far (p := ⟨gb153, 0, none⟩) (by first | (rw [add_block]; exact hn154_0) | (show (Addr.add _ _).block ≠ _; rw [add_block]; exact hn154_0) | exact hn154_0) (.int .i64 ((rd_T34 l0 1).f0))).trans hx154_0
                        replace hx154_0 := (cell_far (p := ⟨gb153, 1, none⟩) (by first | (rw [add_block]; exact hn154_1) | (show (Addr.add _ _).block ≠ _; rw [add_block]; exact hn154_1) | exact hn154_1) (.slice (some ad154) ((rd_T34 l0 1).f1).length c152_1)).trans hx154_0
                        clear hn154_0
                        clear hn154_1
                        replace p154 := eq_true p154
                        replace q154 := eq_true q154
                        go_wp2
                        go_meet
                        case rel => exact ⟨_, (((rd ((rd_T34 l0 1).f1) 0) != 1)), (by first | rfl | (simp; done) | (simp [*]; done)), H', ⟨by have := HJ1.out; have := HJ4.out; first | omega | exact Nat.le_refl _⟩, ⟨by (with_reducible repeat (first | refine blk_drewN ?_ _ | refine blk_drew ?_ | refine blk_alloc ?_ _)); refine blk_put (cs := #[.int .i64 ((rd_T34 l0 1).f0), .slice none 0 0]) ?_ 1 _ rfl; (with_reducible repeat (first | refine blk_drewN ?_ _ | refine blk_drew ?_ | refine blk_alloc ?_ _)); refine blk_put (cs := #[.int .i64 0, .slice none 0 0]) ?_ 0 _ rfl; (with_reducible repeat (first | refine blk_drewN ?_ _ | refine blk_drew ?_ | refine blk_alloc ?_ _)); exact BK153.out⟩, ⟨by repeat (first | (with_reducible first | exact HB.out | apply below_alloc | apply pw_below_drewN | apply below_drew1 | refine below_set ?_ GE153.out) | exact HB.out)⟩⟩
                      · rw [if_neg c15] at H
                        exact absurd H (by simp)
                    · rw [if_neg c14] at H
                      have c14b0 : ((((rd_T34 l0 1).f1).length : Int) == 1) = false := beq_eq_false_iff_ne.mpr c14
                      have c14b1 : ((((rd_T34 l0 1).f1).length : Int) != 1) = true := bne_iff_ne.mpr c14
                      have H' := Aside0.mk H
                      clear H
                      have hcz17_0 : w11.cell? ⟨gb153, 0, none⟩ = some (.int .i64 0) := (blk_cell BK153.out 0).trans rfl
                      have hcz17_1 : w11.cell? ⟨gb153, 1, none⟩ = some (.slice none 0 0) := (blk_cell BK153.out 1).trans rfl
                      have hfz17_0 := blk_frozen BK153.out 0
                      have hfz17_1 := blk_frozen BK153.out 1
                      go_wp2
                      go_meet
                      case rel => exact ⟨_, (true), (by first | rfl | (simp; done) | (simp [*]; done)), H', ⟨by have := HJ1.out; have := HJ4.out; first | omega | exact Nat.le_refl _⟩, ⟨by (with_reducible repeat (first | refine blk_drewN ?_ _ | refine blk_drew ?_ | refine blk_alloc ?_ _)); refine blk_put (cs := #[.int .i64 ((rd_T34 l0 1).f0), .slice none 0 0]) ?_ 1 _ rfl; (with_reducible repeat (first | refine blk_drewN ?_ _ | refine blk_drew ?_ | refine blk_alloc ?_ _)); refine blk_put (cs := #[.int .i64 0, .slice none 0 0]) ?_ 0 _ rfl; (with_reducible repeat (first | refine blk_drewN ?_ _ | refine blk_drew ?_ | refine blk_alloc ?_ _)); exact BK153.out⟩, ⟨by repeat (first | (with_reducible first | exact HB.out | apply below_alloc | apply pw_below_drewN | apply below_drew1 | refine below_set ?_ GE153.out) | exact HB.out)⟩⟩
                  · rw [if_neg c13] at H
                    have c13b0 : (((rd_T34 l0 1).f0) == 0) = false := beq_eq_false_iff_ne.mpr c13
                    have c13b1 : (((rd_T34 l0 1).f0) != 0) = true := bne_iff_ne.mpr c13
                    (first | rw [c13b0] | (simp only [i64_w, i32_w]; rw [c13b0]) | skip)
                    have H' := Aside0.mk H
                    clear H
                    have hcz18_0 : w11.cell? ⟨gb153, 0, none⟩ = some (.int .i64 0) := (blk_cell BK153.out 0).trans rfl
                    have hcz18_1 : w11.cell? ⟨gb153, 1, none⟩ = some (.slice none 0 0) := (blk_cell BK153.out 1).trans rfl
                    have hfz18_0 := blk_frozen BK153.out 0
                    have hfz18_1 := blk_frozen BK153.out 1
                    go_wp2
                    go_meet
                    case rel => exact ⟨_, (true), (by first | rfl | (simp; done) | (simp [*]; done)), H', ⟨by have := HJ1.out; have := HJ4.out; first | omega | exact Nat.le_refl _⟩, ⟨by (with_reducible repeat (first | refine blk_drewN ?_ _ | refine blk_drew ?_ | refine blk_alloc ?_ _)); refine blk_put (cs := #[.int .i64 ((rd_T34 l0 1).f0), .slice none 0 0]) ?_ 1 _ rfl; (with_reducible repeat (first | refine blk_drewN ?_ _ | refine blk_drew ?_ | refine blk_alloc ?_ _)); refine blk_put (cs := #[.int .i64 0, .slice none 0 0]) ?_ 0 _ rfl; (with_reducible repeat (first | refine blk_drewN ?_ _ | refine blk_drew ?_ | refine blk_alloc ?_ _)); exact BK153.out⟩, ⟨by repeat (first | (with_reducible first | exact HB.out | apply below_alloc | apply pw_below_drewN | apply below_drew1 | refine below_set ?_ GE153.out) | exact HB.out)⟩⟩
                case rest =>
                  clear HC10
                  try clear c1
                  try clear p1
                  try clear q1
                  try clear hx1
                  try clear qi1
                  try clear p2
                  try clear c3
                  try clear c3b0
                  try clear c3b1
                  try clear c4
                  try clear c5
                  try clear c6
                  try clear c6b0
                  try clear c6b1
                  try clear c7
                  try clear c7b0
                  try clear c7b1
                  try clear c8
                  try clear c9
                  try clear c9b0
                  try clear c9b1
                  try clear c13
                  try clear c13b0
                  try clear c13b1
                  try clear c14
                  try clear c14b0
                  try clear c14b1
                  try clear c15
                  try clear c15b0
                  try clear c15b1
                  try clear p15
                  try clear q15
                  try clear hx15
                  try clear qi15
                  try clear hcz12_0
                  try clear hcz12_1
                  try clear hcz16_0
                  try clear hcz16_1
                  try clear hcz17_0
                  try clear hcz17_1
                  try clear hcz18_0
                  try clear hcz18_1
                  try clear hfz12_0
                  try clear hfz12_1
                  try clear hfz16_0
                  try clear hfz16_1
                  try clear hfz17_0
                  try clear hfz17_1
                  try clear hfz18_0
                  try clear hfz18_1
                  try clear hx150_0
                  try clear hx150_1
                  try clear hx151_0
                  try clear hx151_1
                  try clear hx152_0
                  try clear hx152_1
                  try clear hx154_0
                  try clear p1
                  try clear p150
                  try clear p151
                  try clear p152
                  try clear p154
                  try clear p2
                  try clear q1
                  try clear q150
                  try clear q151
                  try clear q152
                  try clear q154
                  obtain ⟨kq, x47_9, rfl, HA, HJ9, BK153, HB⟩ := hcut
                  cases kq with
                  | zero => exact absurd HA.out (by simp [impl_ClassesOk.j2])
                  | succ kj9 =>
                    have H := HA.out
                    clear HA
                    simp only [impl_ClassesOk.j2] at H
                    by_cases c19 : x47_9 = true
                    · subst c19
                      have H1 : (some false) = some r := by rw [if_pos rfl] at H; exact H
                      clear H
                      have H := H1
                      clear H1
                      obtain rfl := Option.some.inj H
                      go_wp2
                      go_ret
                      exact ⟨by first | rfl | (simp [errW_none, errW_some] <;> rfl) | (simp [*, errW_none, errW_some] <;> rfl), by repeat (first | (with_reducible first | exact HB.out | apply below_alloc | apply pw_below_drewN | apply below_drew1 | refine below_set ?_ GE153.out) | exact HB.out)⟩
                    · replace c19 := Bool.eq_false_iff.mpr c19
                      subst c19
                      have H1 : (impl_ClassesOk.l0 kj9 l0 l0 (l0.length : Int) 0) = some r := by rw [if_neg (show ¬ (false = true) by decide)] at H; exact H
                      clear H
                      have H := H1
                      clear H1
                      have H' := Aside0.mk H
                      clear H
                      go_wp2
                      go_loopg [50] kj9 (fun kq v50 w' => ∃ (x50_4 : Int), v50 = .int .i64 x50_4 ∧ Aside0 (impl_ClassesOk.l0 kq l0 l0 (l0.length : Int) x50_4 = some r) ∧ Aside0 (kq ≤ kj9) ∧ Aside0 (w'.heap[gb153]? = some (.cells #[.int .i64 ((rd_T34 l0 1).f0), (.slice A152_1 ((rd_T34 l0 1).f1).length c152_1)] 34 (0, 0))) ∧ Aside0 (Below w.heap.size w w'))
                      case atStart => exact ⟨(0), (by first | rfl | (simp; done) | (simp [*]; done)), H', ⟨Nat.le_refl _⟩, ⟨by (with_reducible repeat (first | refine blk_drewN ?_ _ | refine blk_drew ?_ | refine blk_alloc ?_ _)); exact BK153.out⟩, ⟨by repeat (first | (with_reducible first | exact HB.out | apply below_alloc | apply pw_below_drewN | apply below_drew1 | refine below_set ?_ GE153.out) | exact HB.out)⟩⟩
                      case round =>
                        clear H'
                        try clear c1
                        try clear p1
                        try clear q1
                        try clear hx1
                        try clear qi1
                        try clear p2
                        try clear c3
                        try clear c3b0
                        try clear c3b1
                        try clear c4
                        try clear c5
                        try clear c6
                        try clear c6b0
                        try clear c6b1
                        try clear c7
                        try clear c7b0
                        try clear c7b1
                        try clear c8
                        try clear c9
                        try clear c9b0
                        try clear c9b1
                        try clear c13
                        try clear c13b0
                        try clear c13b1
                        try clear c14
                        try clear c14b0
                        try clear c14b1
                        try clear c15
                        try clear c15b0
                        try clear c15b1
                        try clear p15
                        try clear q15
                        try clear hx15
                        try clear qi15
                        try clear c19
                        try clear hcz12_0
                        try clear hcz12_1
                        try clear hcz16_0
                        try clear hcz16_1
                        try clear hcz17_0
                        try clear hcz17_1
                        try clear hcz18_0
                        try clear hcz18_1
                        try clear hfz12_0
                        try clear hfz12_1
                        try clear hfz16_0
                        try clear hfz16_1
                        try clear hfz17_0
                        try clear hfz17_1
                        try clear hfz18_0
                        try clear hfz18_1
                        try clear hx150_0
                        try clear hx150_1
                        try clear hx151_0
                        try clear hx151_1
                        try clear hx152_0
                        try clear hx152_1
                        try clear hx154_0
                        try clear p1
                        try clear p15
                        try clear p150
                        try clear p151
                        try clear p152
                        try clear p154
                        try clear p2
                        try clear q1
                        try clear q15
                        try clear q150
                        try clear q151
                        try clear q152
                        try clear q154
                        obtain ⟨x50_4, rfl, HA, HK4, BK153, HB⟩ := hrel
                        cases gk with
                        | zero => exact absurd HA.out (by simp [impl_ClassesOk.l0])
                        | succ k4 =>
                          have H := HA.out
                          clear HA
                          simp only [impl_ClassesOk.l0] at H
                          by_cases c20 : x50_4 < (l0.length : Int)
                          · rw [if_pos c20] at H
                            have c20b0 : decide (x50_4 < (l0.length : Int)) = true := decide_eq_true c20
                            clear c20
                            by_cases c21 : 0 ≤ x50_4
                            · rw [if_pos c21] at H
                              have c21b0 : decide (0 ≤ x50_4) = true := decide_eq_true c21
                              clear c21
                              by_cases c22 : x50_4 < (l0.length : Int)
                              · rw [if_pos c22] at H
                                have c22b0 : decide (x50_4 < (l0.length : Int)) = true := decide_eq_true c22
                                clear c22
                                have HC23 := Aside0.mk H
                                clear H
                                have p155 : 0 ≤ (x50_4 : Int) := of_decide_eq_true (by first | (with_reducible assumption) | assumption)
                                have q155 : x50_4 < (l0.length : Int) := of_decide_eq_true (by first | (with_reducible assumption) | assumption)
                                obtain ⟨ad155, A155_1, c155_1, e155, hx155_0, hx155_1, hl155_1, hi155_1⟩ := at_T34 HR0.out x50_4 p155 q155
                                obtain rfl : ad152 = ad155 := (by injection e155)
                                replace hx155_0 := (HB.out.cell (World.block_lt_of_cell? w _ hx155_0)).trans hx155_0
                                replace hx155_1 := (HB.out.cell (World.block_lt_of_cell? w _ hx155_1)).trans hx155_1
                                have HR155_1 := Aside0.mk hi155_1
                                have HC155_1 := Aside0.mk hl155_1
                                clear hi155_1 hl155_1
                                replace p155 := eq_true p155
                                replace q155 := eq_true q155
                                go_upto_region 11 with (first | ((with_reducible refine gate_dst (N := 5) rfl ?_); (try (refine gate_guard (by rfl) ?_; dsimp only)); refine box_event ?hg (N := 5) ?hd (cs := #[.int .i64 0, .slice none 0 0]) (t := 34) ?hr ?_; (case hd => rfl); (case hg => rfl); (case hr => first | (go_simp; done) | (go_simp; rfl)); intro gb156 hg w24 hbox hb; have n0_ := Aside0.mk (blk_below (g := gb153) (o := .cells #[.int .i64 ((rd_T34 l0 1).f0), .slice A152_1 ((rd_T34 l0 1).f1).length c152_1] 34 (0, 0)) (by (with_reducible repeat (first | refine blk_drewN ?_ _ | refine blk_drew ?_ | refine blk_alloc ?_ _)); exact BK153.out) hb); have n1_ := Aside0.mk (below_step (by repeat (first | (with_reducible first | exact HB.out | apply below_alloc | apply pw_below_drewN | apply below_drew1 | refine below_set ?_ GE153.out) | exact HB.out)) hb); have n2_ := Aside0.mk (hbox); have n3_ := Aside0.mk ((by rw [hg]; exact (below_size (by repeat (first | (with_reducible first | exact HB.out | apply below_alloc | apply pw_below_drewN | apply below_drew1 | refine below_set ?_ GE153.out) | exact HB.out))) : w.heap.size ≤ gb156)); have n4_ := Aside0.mk ((by rw [hg]; exact (below_size (by repeat (first | (with_reducible first | exact HB.out | apply below_alloc | apply pw_below_drewN | apply below_drew1 | refine below_set ?_ GE153.out) | exact HB.out))) : w.heap.size ≤ gb156)); have n5_ := Aside0.mk ((by rw [hg]; exact Nat.ne_of_lt (blk_lt (g := gb153) (o := .cells #[.int .i64 ((rd_T34 l0 1).f0), .slice A152_1 ((rd_T34 l0 1).f1).length c152_1] 34 (0, 0)) (by (with_reducible repeat (first | refine blk_drewN ?_ _ | refine blk_drew ?_ | refine blk_alloc ?_ _)); exact BK153.out)) : gb153 ≠ gb156)); have n6_ := Aside0.mk ((by rw [hg]; exact Nat.ne_of_gt (blk_lt (g := gb153) (o := .cells #[.int .i64 ((rd_T34 l0 1).f0), .slice A152_1 ((rd_T34 l0 1).f1).length c152_1] 34 (0, 0)) (by (with_reducible repeat (first | refine blk_drewN ?_ _ | refine blk_drew ?_ | refine blk_alloc ?_ _)); exact BK153.out)) : gb156 ≠ gb153)); clear BK153; clear HB; have BK153 := n0_; have HB := n1_; have BK156 := n2_; have GW156 := n3_; have GE156 := n4_; have NB153_156 := n5_; have NB156_153 := n6_; clear n0_ n1_ n2_ n3_ n4_ n5_ n6_; clear hb hbox hg; have hnb25 := NB156_153.out; have hnc25 := NB153_156.out; have hcz26_0 : w24.cell? ⟨gb156, 0, none⟩ = some (.int .i64 0) := (blk_cell BK156.out 0).trans rfl; have hcz26_1 : w24.cell? ⟨gb156, 1, none⟩ = some (.slice none 0 0) := (blk_cell BK156.out 1).trans rfl; have hfz26_0 := blk_frozen BK156.out 0; have hfz26_1 := blk_frozen BK156.out 1))
                                (try simp only [Act.put, List.setIfInBounds_toArray, List.set_cons_zero, List.set_cons_succ])
                                go_cut [67] (fun v67 wc => ∃ (kq : Nat) (x67_22 : Bool), v67 = .bool x67_22 ∧ Aside0 (impl_ClassesOk.j4 kq l0 l0 (l0.length : Int) x50_4 x67_22 ((rd_T34 l0 x50_4).f0) ((rd_T34 l0 x50_4).f1) = some r) ∧ Aside0 (kq ≤ k4) ∧ Aside0 (wc.heap[gb153]? = some (.cells #[.int .i64 ((rd_T34 l0 1).f0), (.slice A152_1 ((rd_T34 l0 1).f1).length c152_1)] 34 (0, 0))) ∧ Aside0 (wc.heap[gb156]? = some (.cells #[.int .i64 ((rd_T34 l0 x50_4).f0), (.slice A155_1 ((rd_T34 l0 x50_4).f1).length c155_1)] 34 (0, 0))) ∧ Aside0 (Below w.heap.size w wc))
                                case first =>
                                  have H := HC23.out
                                  clear HC23
                                  by_cases c27 : x50_4 > 1
                                  · rw [if_pos c27] at H
                                    have c27b0 : decide (1 < x50_4) = true := decide_eq_true c27
                                    clear c27
                                    (first | rw [c27b0] | (simp only [i64_w, i32_w]; rw [c27b0]) | skip)
                                    by_cases c28 : ((rd_T34 l0 x50_4).f0) < 0
                                    · rw [if_pos c28] at H
                                      have c28b0 : decide (((rd_T34 l0 x50_4).f0) < 0) = true := decide_eq_true c28
                                      clear c28
                                      have H' := Aside0.mk H
                                      clear H
                                      have hnb29 := NB156_153.out
                                      have hnc29 := NB153_156.out
                                      have hcz30_0 : w24.cell? ⟨gb156, 0, none⟩ = some (.int .i64 0) := (blk_cell BK156.out 0).trans rfl
                                      have hcz30_1 : w24.cell? ⟨gb156, 1, none⟩ = some (.slice none 0 0) := (blk_cell BK156.out 1).trans rfl
                                      have hfz30_0 := blk_frozen BK156.out 0
                                      have hfz30_1 := blk_frozen BK156.out 1
                                      go_wp2
                                      go_meet
                                      case rel => exact ⟨_, (true), (by first | rfl | (simp; done) | (simp [*]; done)), H', ⟨by have := HJ1.out; have := HJ4.out; have := HJ9.out; have := HK4.out; first | omega | exact Nat.le_refl _⟩, ⟨by (with_reducible repeat (first | refine blk_drewN ?_ _ | refine blk_drew ?_ | refine blk_alloc ?_ _)); refine blk_far ?_ NB153_156.out _; (with_reducible repeat (first | refine blk_drewN ?_ _ | refine blk_drew ?_ | refine blk_alloc ?_ _)); refine blk_far ?_ NB153_156.out _; (with_reducible repeat (first | refine blk_drewN ?_ _ | refine blk_drew ?_ | refine blk_alloc ?_ _)); exact BK153.out⟩, ⟨by (with_reducible repeat (first | refine blk_drewN ?_ _ | refine blk_drew ?_ | refine blk_alloc ?_ _)); refine blk_put (cs := #[.int .i64 ((rd_T34 l0 x50_4).f0), .slice none 0 0]) ?_ 1 _ rfl; (with_reducible repeat (first | refine blk_drewN ?_ _ | refine blk_drew ?_ | refine blk_alloc ?_ _)); refine blk_put (cs := #[.int .i64 0, .slice none 0 0]) ?_ 0 _ rfl; (with_reducible repeat (first | refine blk_drewN ?_ _ | refine blk_drew ?_ | refine blk_alloc ?_ _)); exact BK156.out⟩, ⟨by repeat (first | (with_reducible first | exact HB.out | apply below_alloc | apply pw_below_drewN | apply below_drew1 | refine below_set ?_ GE153.out | refine below_set ?_ GE156.out) | exact HB.out)⟩⟩
                                    · rw [if_neg c28] at H
                                      have c28b0 : decide (((rd_T34 l0 x50_4).f0) < 0) = false := decide_eq_false c28
                                      clear c28
                                      have H' := Aside0.mk H
                                      clear H
                                      have hnb31 := NB156_153.out
                                      have hnc31 := NB153_156.out
                                      have hcz32_0 : w24.cell? ⟨gb156, 0, none⟩ = some (.int .i64 0) := (blk_cell BK156.out 0).trans rfl
                                      have hcz32_1 : w24.cell? ⟨gb156, 1, none⟩ = some (.slice none 0 0) := (blk_cell BK156.out 1).trans rfl
                                      have hfz32_0 := blk_frozen BK156.out 0
                                      have hfz32_1 := blk_frozen BK156.out 1
                                      go_wp2
                                      go_meet
                                      case rel => exact ⟨_, (decide (((rd_T34 l0 x50_4).f0) ≥ x50_4)), (by first | rfl | (simp; done) | (simp [*]; done)), H', ⟨by have := HJ1.out; have := HJ4.out; have := HJ9.out; have := HK4.out; first | omega | exact Nat.le_refl _⟩, ⟨by (with_reducible repeat (first | refine blk_drewN ?_ _ | refine blk_drew ?_ | refine blk_alloc ?_ _)); refine blk_far ?_ NB153_156.out _; (with_reducible repeat (first | refine blk_drewN ?_ _ | refine blk_drew ?_ | refine blk_alloc ?_ _)); refine blk_far ?_ NB153_156.out _; (with_reducible repeat (first | refine blk_drewN ?_ _ | refine blk_drew ?_ | refine blk_alloc ?_ _)); exact BK153.out⟩, ⟨by (with_reducible repeat (first | refine blk_drewN ?_ _ | refine blk_drew ?_ | refine blk_alloc ?_ _)); refine blk_put (cs := #[.int .i64 ((rd_T34 l0 x50_4).f0), .slice none 0 0]) ?_ 1 _ rfl; (with_reducible repeat (first | refine blk_drewN ?_ _ | refine blk_drew ?_ | refine blk_alloc ?_ _)); refine blk_put (cs := #[.int .i64 0, .slice none 0 0]) ?_ 0 _ rfl; (with_reducible repeat (first | refine blk_drewN ?_ _ | refine blk_drew ?_ | refine blk_alloc ?_ _)); exact BK156.out⟩, ⟨by repeat (first | (with_reducible first | exact HB.out | apply below_alloc | apply pw_below_drewN | apply below_drew1 | refine below_set ?_ GE153.out | refine below_set ?_ GE156.out) | exact HB.out)⟩⟩
                                  · rw [if_neg c27] at H
                                    have c27b0 : decide (1 < x50_4) = false := decide_eq_false c27
                                    clear c27
                                    (first | rw [c27b0] | (simp only [i64_w, i32_w]; rw [c27b0]) | skip)
                                    have H' := Aside0.mk H
                                    clear H
                                    go_wp2
                                    go_meet
                                    case rel => exact ⟨_, (false), (by first | rfl | (simp; done) | (simp [*]; done)), H', ⟨by have := HJ1.out; have := HJ4.out; have := HJ9.out; have := HK4.out; first | omega | exact Nat.le_refl _⟩, ⟨by (with_reducible repeat (first | refine blk_drewN ?_ _ | refine blk_drew ?_ | refine blk_alloc ?_ _)); refine blk_far ?_ NB153_156.out _; (with_reducible repeat (first | refine blk_drewN ?_ _ | refine blk_drew ?_ | refine blk_alloc ?_ _)); refine blk_far ?_ NB153_156.out _; (with_reducible repeat (first | refine blk_drewN ?_ _ | refine blk_drew ?_ | refine blk_alloc ?_ _)); exact BK153.out⟩, ⟨by (with_reducible repeat (first | refine blk_drewN ?_ _ | refine blk_drew ?_ | refine blk_alloc ?_ _)); refine blk_put (cs := #[.int .i64 ((rd_T34 l0 x50_4).f0), .slice none 0 0]) ?_ 1 _ rfl; (with_reducible repeat (first | refine blk_drewN ?_ _ | refine blk_drew ?_ | refine blk_alloc ?_ _)); refine blk_put (cs := #[.int .i64 0, .slice none 0 0]) ?_ 0 _ rfl; (with_reducible repeat (first | refine blk_drewN ?_ _ | refine blk_drew ?_ | refine blk_alloc ?_ _)); exact BK156.out⟩, ⟨by repeat (first | (with_reducible first | exact HB.out | apply below_alloc | apply pw_below_drewN | apply below_drew1 | refine below_set ?_ GE153.out | refine below_set ?_ GE156.out) | exact HB.out)⟩⟩
                                case rest =>
                                  clear HC23
                                  try clear c1
                                  try clear p1
                                  try clear q1
                                  try clear hx1
                                  try clear qi1
                                  try clear c2
                                  try clear p2
                                  try clear c3
                                  try clear c3b0
                                  try clear c3b1
                                  try clear c4
                                  try clear c5
                                  try clear c6
                                  try clear c6b0
                                  try clear c6b1
                                  try clear c7
                                  try clear c7b0
                                  try clear c7b1
                                  try clear c8
                                  try clear c9
                                  try clear c9b0
                                  try clear c9b1
                                  try clear c13
                                  try clear c13b0
                                  try clear c13b1
                                  try clear c14
                                  try clear c14b0
                                  try clear c14b1
                                  try clear c15
                                  try clear c15b0
                                  try clear c15b1
                                  try clear p15
                                  try clear q15
                                  try clear hx15
                                  try clear qi15
                                  try clear c19
                                  try clear c20
                                  try clear c20b0
                                  try clear c21
                                  try clear c21b0
                                  try clear c22
                                  try clear c22b0
                                  try clear c25
                                  try clear c27
                                  try clear c27b0
                                  try clear c28
                                  try clear c28b0
                                  try clear c29
                                  try clear c31
                                  try clear hcz12_0
                                  try clear hcz12_1
                                  try clear hcz16_0
                                  try clear hcz16_1
                                  try clear hcz17_0
                                  try clear hcz17_1
                                  try clear hcz18_0
                                  try clear hcz18_1
                                  try clear hcz26_0
                                  try clear hcz26_1
                                  try clear hcz30_0
                                  try clear hcz30_1
                                  try clear hcz32_0
                                  try clear hcz32_1
                                  try clear hfz12_0
                                  try clear hfz12_1
                                  try clear hfz16_0
                                  try clear hfz16_1
                                  try clear hfz17_0
                                  try clear hfz17_1
                                  try clear hfz18_0
                                  try clear hfz18_1
                                  try clear hfz26_0
                                  try clear hfz26_1
                                  try clear hfz30_0
                                  try clear hfz30_1
                                  try clear hfz32_0
                                  try clear hfz32_1
                                  try clear hx150_0
                                  try clear hx150_1
                                  try clear hx151_0
                                  try clear hx151_1
                                  try clear hx152_0
                                  try clear hx152_1
                                  try clear hx154_0
                                  try clear hx155_0
                                  try clear hx155_1
                                  try clear p1
                                  try clear p15
                                  try clear p150
                                  try clear p151
                                  try clear p152
                                  try clear p154
                                  try clear p155
                                  try clear p2
                                  try clear q1
                                  try clear q15
                                  try clear q150
                                  try clear q151
                                  try clear q152
                                  try clear q154
                                  try clear q155
                                  obtain ⟨kq, x67_22, rfl, HA, HJ22, BK153, BK156, HB⟩ := hcut
                                  cases kq with
                                  | zero => exact absurd HA.out (by simp [impl_ClassesOk.j4])
                                  | succ kj22 =>
                                    have H := HA.out
                                    clear HA
                                    simp only [impl_ClassesOk.j4] at H
                                    by_cases c33 : x67_22 = true
                                    · subst c33
                                      have H1 : (some false) = some r := by rw [if_pos rfl] at H; exact H
                                      clear H
                                      have H := H1
                                      clear H1
                                      obtain rfl := Option.some.inj H
                                      go_wp2
                                      go_ret
                                      exact ⟨by first | rfl | (simp [errW_none, errW_some] <;> rfl) | (simp [*, errW_none, errW_some] <;> rfl), by repeat (first | (with_reducible first | exact HB.out | apply below_alloc | apply pw_below_drewN | apply below_drew1 | refine below_set ?_ GE153.out | refine below_set ?_ GE156.out) | exact HB.out)⟩
                                    · replace c33 := Bool.eq_false_iff.mpr c33
                                      subst c33
                                      have H1 : (if (((rd_T34 l0 x50_4).f1).length : Int) > 2 then (some false) else (impl_ClassesOk.l1 kj22 l0 l0 (l0.length : Int) x50_4 ((rd_T34 l0 x50_4).f1) (((rd_T34 l0 x50_4).f1).length : Int) 0)) = some r := by rw [if_neg (show ¬ (false = true) by decide)] at H; exact H
                                      clear H
                                      have H := H1
                                      clear H1
                                      by_cases c34 : (((rd_T34 l0 x50_4).f1).length : Int) > 2
                                      · rw [if_pos c34] at H
                                        have c34b0 : decide (2 < (((rd_T34 l0 x50_4).f1).length : Int)) = true := decide_eq_true c34
                                        have c34b1 : decide (2 < ((rd_T34 l0 x50_4).f1).length) = true := decide_eq_true (by omega)
                                        clear c34
                                        obtain rfl := Option.some.inj H
                                        have hnb35 := NB156_153.out
                                        have hnc35 := NB153_156.out
                                        have hcz36_0 : wc.cell? ⟨gb156, 0, none⟩ = some (.int .i64 ((rd_T34 l0 x50_4).f0)) := (blk_cell BK156.out 0).trans rfl
                                        have hcz36_1 : wc.cell? ⟨gb156, 1, none⟩ = some (.slice A155_1 ((rd_T34 l0 x50_4).f1).length c155_1) := (blk_cell BK156.out 1).trans rfl
                                        have hfz36_0 := blk_frozen BK156.out 0
                                        have hfz36_1 := blk_frozen BK156.out 1
                                        go_wp2
                                        go_ret
                                        exact ⟨by first | rfl | (simp [errW_none, errW_some] <;> rfl) | (simp [*, errW_none, errW_some] <;> rfl), by repeat (first | (with_reducible first | exact HB.out | apply below_alloc | apply pw_below_drewN | apply below_drew1 | refine below_set ?_ GE153.out | refine below_set ?_ GE156.out) | exact HB.out)⟩
                                      · rw [if_neg c34] at H
                                        have c34b0 : decide (2 < (((rd_T34 l0 x50_4).f1).length : Int)) = false := decide_eq_false c34
                                        have c34b1 : decide (2 < ((rd_T34 l0 x50_4).f1).length) = false := decide_eq_false (by omega)
                                        clear c34
                                        have H' := Aside0.mk H
                                        clear H
                                        have hnb37 := NB156_153.out
                                        have hnc37 := NB153_156.out
                                        have hcz38_0 : wc.cell? ⟨gb156, 0, none⟩ = some (.int .i64 ((rd_T34 l0 x50_4).f0)) := (blk_cell BK156.out 0).trans rfl
                                        have hcz38_1 : wc.cell? ⟨gb156, 1, none⟩ = some (.slice A155_1 ((rd_T34 l0 x50_4).f1).length c155_1) := (blk_cell BK156.out 1).trans rfl
                                        have hfz38_0 := blk_frozen BK156.out 0
                                        have hfz38_1 := blk_frozen BK156.out 1
                                        go_wp2
                                        go_loopg [75] kj22 (fun kq v75 w' => ∃ (x75_6 : Int), v75 = .int .i64 x75_6 ∧ Aside0 (impl_ClassesOk.l1 kq l0 l0 (l0.length : Int) x50_4 ((rd_T34 l0 x50_4).f1) (((rd_T34 l0 x50_4).f1).length : Int) x75_6 = some r) ∧ Aside0 (kq ≤ kj22) ∧ Aside0 (w'.heap[gb153]? = some (.cells #[.int .i64 ((rd_T34 l0 1).f0), (.slice A152_1 ((rd_T34 l0 1).f1).length c152_1)] 34 (0, 0))) ∧ Aside0 (w'.heap[gb156]? = some (.cells #[.int .i64 ((rd_T34 l0 x50_4).f0), (.slice A155_1 ((rd_T34 l0 x50_4).f1).length c155_1)] 34 (0, 0))) ∧ Aside0 (Below w.heap.size w w'))
                                        case atStart => exact ⟨(0), (by first | rfl | (simp; done) | (simp [*]; done)), H', ⟨Nat.le_refl _⟩, ⟨by (with_reducible repeat (first | refine blk_drewN ?_ _ | refine blk_drew ?_ | refine blk_alloc ?_ _)); exact BK153.out⟩, ⟨by (with_reducible repeat (first | refine blk_drewN ?_ _ | refine blk_drew ?_ | refine blk_alloc ?_ _)); exact BK156.out⟩, ⟨by repeat (first | (with_reducible first | exact HB.out | apply below_alloc | apply pw_below_drewN | apply below_drew1 | refine below_set ?_ GE153.out | refine below_set ?_ GE156.out) | exact HB.out)⟩⟩
                                        case round =>
                                          clear H'
                                          try clear c1
                                          try clear p1
                                          try clear q1
                                          try clear hx1
                                          try clear qi1
                                          try clear c2
                                          try clear p2
                                          try clear c3
                                          try clear c3b0
                                          try clear c3b1
                                          try clear c4
                                          try clear c5
                                          try clear c6
                                          try clear c6b0
                                          try clear c6b1
                                          try clear c7
                                          try clear c7b0
                                          try clear c7b1
                                          try clear c8
                                          try clear c9
                                          try clear c9b0
                                          try clear c9b1
                                          try clear c13
                                          try clear c13b0
                                          try clear c13b1
                                          try clear c14
                                          try clear c14b0
                                          try clear c14b1
                                          try clear c15
                                          try clear c15b0
                                          try clear c15b1
                                          try clear p15
                                          try clear q15
                                          try clear hx15
                                          try clear qi15
                                          try clear c19
                                          try clear c20
                                          try clear c20b0
                                          try clear c21
                                          try clear c21b0
                                          try clear c22
                                          try clear c22b0
                                          try clear c25
                                          try clear c27
                                          try clear c27b0
                                          try clear c28
                                          try clear c28b0
                                          try clear c29
                                          try clear c31
                                          try clear c33
                                          try clear c34
                                          try clear c34b0
                                          try clear c34b1
                                          try clear c35
                                          try clear c37
                                          try clear hcz12_0
                                          try clear hcz12_1
                                          try clear hcz16_0
                                          try clear hcz16_1
                                          try clear hcz17_0
                                          try clear hcz17_1
                                          try clear hcz18_0
                                          try clear hcz18_1
                                          try clear hcz26_0
                                          try clear hcz26_1
                                          try clear hcz30_0
                                          try clear hcz30_1
                                          try clear hcz32_0
                                          try clear hcz32_1
                                          try clear hcz36_0
                                          try clear hcz36_1
                                          try clear hcz38_0
                                          try clear hcz38_1
                                          try clear hfz12_0
                                          try clear hfz12_1
                                          try clear hfz16_0
                                          try clear hfz16_1
                                          try clear hfz17_0
                                          try clear hfz17_1
                                          try clear hfz18_0
                                          try clear hfz18_1
                                          try clear hfz26_0
                                          try clear hfz26_1
                                          try clear hfz30_0
                                          try clear hfz30_1
                                          try clear hfz32_0
                                          try clear hfz32_1
                                          try clear hfz36_0
                                          try clear hfz36_1
                                          try clear hfz38_0
                                          try clear hfz38_1
                                          try clear hx150_0
                                          try clear hx150_1
                                          try clear hx151_0
                                          try clear hx151_1
                                          try clear hx152_0
                                          try clear hx152_1
                                          try clear hx154_0
                                          try clear hx155_0
                                          try clear hx155_1
                                          try clear p1
                                          try clear p15
                                          try clear p150
                                          try clear p151
                                          try clear p152
                                          try clear p154
                                          try clear p155
                                          try clear p2
                                          try clear q1
                                          try clear q15
                                          try clear q150
                                          try clear q151
                                          try clear q152
                                          try clear q154
                                          try clear q155
                                          obtain ⟨x75_6, rfl, HA, HK6, BK153, BK156, HB⟩ := hrel
                                          cases gk with
                                          | zero => exact absurd HA.out (by simp [impl_ClassesOk.l1])
                                          | succ k6 =>
                                            have H := HA.out
                                            clear HA
                                            simp only [impl_ClassesOk.l1] at H
                                            by_cases c39 : x75_6 < (((rd_T34 l0 x50_4).f1).length : Int)
                                            · rw [if_pos c39] at H
                                              have c39b0 : decide (x75_6 < (((rd_T34 l0 x50_4).f1).length : Int)) = true := decide_eq_true c39
                                              clear c39
                                              by_cases c40 : 0 ≤ x75_6
                                              · rw [if_pos c40] at H
                                                have c40b0 : decide (0 ≤ x75_6) = true := decide_eq_true c40
                                                clear c40
                                                by_cases c41 : x75_6 < (((rd_T34 l0 x50_4).f1).length : Int)
                                                · rw [if_pos c41] at H
                                                  have c41b0 : decide (x75_6 < (((rd_T34 l0 x50_4).f1).length : Int)) = true := decide_eq_true c41
                                                  clear c41
                                                  replace H := Option.bind_eq_some_iff.mp H
                                                  obtain ⟨t158, A420, H⟩ := H
                                                  replace H : (if t158 = true then (impl_ClassesOk.l1 k6 l0 l0 (l0.length : Int) x50_4 ((rd_T34 l0 x50_4).f1) (((rd_T34 l0 x50_4).f1).length : Int) (wrap64 (x75_6 + 1))) else (some false)) = some r := H
                                                  have A42 := Aside0.mk A420
                                                  clear A420
                                                  by_cases c43 : t158 = true
                                                  · subst c43
                                                    have H1 : (impl_ClassesOk.l1 k6 l0 l0 (l0.length : Int) x50_4 ((rd_T34 l0 x50_4).f1) (((rd_T34 l0 x50_4).f1).length : Int) (wrap64 (x75_6 + 1))) = some r := by rw [if_pos rfl] at H; exact H
                                                    clear H
                                                    have H := H1
                                                    clear H1
                                                    have H' := Aside0.mk H
                                                    clear H
                                                    have p157 : 0 ≤ (x75_6 : Int) := of_decide_eq_true (by first | (with_reducible assumption) | assumption)
                                                    have q157 : x75_6 < (((rd_T34 l0 x50_4).f1).length : Int) := of_decide_eq_true (by first | (with_reducible assumption) | assumption)
                                                    obtain ⟨ad157, e157, hx157_0⟩ := Kd.at_int HR155_1.out x75_6 p157 q157
                                                    cases e157
                                                    replace hx157_0 := (HB.out.cell (World.block_lt_of_cell? w _ hx157_0)).trans hx157_0
                                                    replace p157 := eq_true p157
                                                    replace q157 := eq_true q157
                                                    go_wp2_with (first | ((with_reducible refine gate_callee (f := 79) rfl ?_); refine goesL_ (some 82) rfl rfl Try.func79 (by kernel_rfl) rfl #[.int .i64 (l0.length : Int), .int .i64 (rd ((rd_T34 l0 x50_4).f1) x75_6)] rfl (by (try simp only [List.map_toArray, List.map_cons, List.map_nil]); first | done | rfl | (simp only [List.length_drop, List.length_take]; rfl)) ?_; (with_reducible refine (impl_fieldType.calls (l0.length : Int) (rd ((rd_T34 l0 x50_4).f1) x75_6) true _ A42.out).mono ?_); rintro e w' ⟨rfl, ⟨nd, rfl⟩⟩; refine ⟨_, rfl, ?_⟩))
                                                    go_roundg k6
                                                    case measure => have := HJ1.out; have := HJ4.out; have := HJ9.out; have := HK4.out; have := HJ22.out; have := HK6.out; omega
                                                    case rel => exact ⟨(wrap64 (x75_6 + 1)), (by first | rfl | (simp; done) | (simp [*]; done)), H', ⟨by have := HJ1.out; have := HJ4.out; have := HJ9.out; have := HK4.out; have := HJ22.out; have := HK6.out; omega⟩, ⟨by (with_reducible repeat (first | refine blk_drewN ?_ _ | refine blk_drew ?_ | refine blk_alloc ?_ _)); exact BK153.out⟩, ⟨by (with_reducible repeat (first | refine blk_drewN ?_ _ | refine blk_drew ?_ | refine blk_alloc ?_ _)); exact BK156.out⟩, ⟨by repeat (first | (with_reducible first | exact HB.out | apply below_alloc | apply pw_below_drewN | apply below_drew1 | refine below_set ?_ GE153.out | refine below_set ?_ GE156.out) | exact HB.out)⟩⟩
                                                  · replace c43 := Bool.eq_false_iff.mpr c43
                                                    subst c43
                                                    have H1 : (some false) = some r := by rw [if_neg (show ¬ (false = true) by decide)] at H; exact H
                                                    clear H
                                                    have H := H1
                                                    clear H1
                                                    obtain rfl := Option.some.inj H
                                                    have p157 : 0 ≤ (x75_6 : Int) := of_decide_eq_true (by first | (with_reducible assumption) | assumption)
                                                    have q157 : x75_6 < (((rd_T34 l0 x50_4).f1).length : Int) := of_decide_eq_true (by first | (with_reducible assumption) | assumption)
                                                    obtain ⟨ad157, e157, hx157_0⟩ := Kd.at_int HR155_1.out x75_6 p157 q157
                                                    cases e157
                                                    replace hx157_0 := (HB.out.cell (World.block_lt_of_cell? w _ hx157_0)).trans hx157_0
                                                    replace p157 := eq_true p157
                                                    replace q157 := eq_true q157
                                                    go_wp2_with (first | ((with_reducible refine gate_callee (f := 79) rfl ?_); refine goesL_ (some 82) rfl rfl Try.func79 (by kernel_rfl) rfl #[.int .i64 (l0.length : Int), .int .i64 (rd ((rd_T34 l0 x50_4).f1) x75_6)] rfl (by (try simp only [List.map_toArray, List.map_cons, List.map_nil]); first | done | rfl | (simp only [List.length_drop, List.length_take]; rfl)) ?_; (with_reducible refine (impl_fieldType.calls (l0.length : Int) (rd ((rd_T34 l0 x50_4).f1) x75_6) false _ A42.out).mono ?_); rintro e w' ⟨rfl, ⟨nd, rfl⟩⟩; refine ⟨_, rfl, ?_⟩))
                                                    go_ret
                                                    exact ⟨by first | rfl | (simp [errW_none, errW_some] <;> rfl) | (simp [*, errW_none, errW_some] <;> rfl), by repeat (first | (with_reducible first | exact HB.out | apply below_alloc | apply pw_below_drewN | apply below_drew1 | refine below_set ?_ GE153.out | refine below_set ?_ GE156.out) | exact HB.out)⟩
                                                · rw [if_neg c41] at H
                                                  exact absurd H (by simp)
                                              · rw [if_neg c40] at H
                                                exact absurd H (by simp)
                                            · rw [if_neg c39] at H
                                              have c39b0 : decide (x75_6 < (((rd_T34 l0 x50_4).f1).length : Int)) = false := decide_eq_false c39
                                              clear c39
                                              have H' := Aside0.mk H
                                              clear H
                                              go_wp2
                                              go_roundg k6
                                              case measure => have := HJ1.out; have := HJ4.out; have := HJ9.out; have := HK4.out; have := HJ22.out; have := HK6.out; omega
                                              case rel => exact ⟨(wrap64 (x50_4 + 1)), (by first | rfl | (simp; done) | (simp [*]; done)), H', ⟨by have := HJ1.out; have := HJ4.out; have := HJ9.out; have := HK4.out; have := HJ22.out; have := HK6.out; omega⟩, ⟨by (with_reducible repeat (first | refine blk_drewN ?_ _ | refine blk_drew ?_ | refine blk_alloc ?_ _)); exact BK153.out⟩, ⟨by repeat (first | (with_reducible first | exact HB.out | apply below_alloc | apply pw_below_drewN | apply below_drew1 | refine below_set ?_ GE153.out | refine below_set ?_ GE156.out) | exact HB.out)⟩⟩
                              · rw [if_neg c22] at H
                                exact absurd H (by simp)
                            · rw [if_neg c21] at H
                              exact absurd H (by simp)
                          · rw [if_neg c20] at H
                            have c20b0 : decide (x50_4 < (l0.length : Int)) = false := decide_eq_false c20
                            clear c20
                            obtain rfl := Option.some.inj H
                            go_wp2
                            go_ret
                            exact ⟨by first | rfl | (simp [errW_none, errW_some] <;> rfl) | (simp [*, errW_none, errW_some] <;> rfl), by repeat (first | (with_reducible first | exact HB.out | apply below_alloc | apply pw_below_drewN | apply below_drew1 | refine below_set ?_ GE153.out) | exact HB.out)⟩
              · rw [if_neg c9] at H
                exact absurd H (by simp)

end Go.Proofs.Ytfcbeodndplenaa.K

/- Function 107, impl_classUp: what it answers, and the walk. (Printed or laid by this session's program wip/pr.py.) -/
namespace Go.Proofs.Ytfcbeodndplenaa.K
open Go.RowKit Go.Proofs.YtfcbeodndplenaaW.PrintWords Go.Proofs.YtfcbeodndplenaaW.PrintLast Go.Proofs.YtfcbeodndplenaaW.PrintMore
attribute [local go_sem] max2_int min2_int max_two min_two max_three min_three max_four min_four
set_option linter.unusedVariables false
set_option linter.unusedSimpArgs false

/-! ### impl_classUp: function 107 -/
def impl_classUp.l0 : Nat → List (S34) → Int → Int → Option (Bool)
  | 0, _, _, _ => none
  | k + 1, x0, x2, x7 => if x7 ≥ 0 then (if x7 = x2 then (some true) else (if 0 ≤ x7 then (if x7 < (x0.length : Int) then (impl_classUp.l0 k x0 x2 ((rd_T34 x0 x7).f0)) else (none)) else (none))) else (some false)
def impl_classUp.f (k : Nat) (l0 : List (S34)) (a1 : Int) (a2 : Int) : Option (Bool) := impl_classUp.l0 k l0 a2 a1
theorem impl_classUp.mono_l : ∀ k, (∀ y0 y1 y2, LeO (impl_classUp.l0 k y0 y1 y2) (impl_classUp.l0 (k + 1) y0 y1 y2))
  | 0 => fun _ _ _ r h => by simp [impl_classUp.l0] at h
  | k + 1 => by
    have ih0 := impl_classUp.mono_l k
    · intro y0 y1 y2
      unfold impl_classUp.l0
      repeat' first
      | (with_reducible exact ih0 _ _ _)
      | (with_reducible exact LeO.refl _)
      | (with_reducible exact LeO.none _)
      | (with_reducible refine LeO.ite ?_ ?_)
      | (with_reducible refine LeO.bind ?_ (fun _ => ?_))
      | exact ih0 _ _ _
      | exact LeO.none _
      | refine LeO.ite ?_ ?_
      | refine LeO.bind ?_ (fun _ => ?_)
theorem impl_classUp.mono : ∀ a0 a1 a2 k, LeO (impl_classUp.f k a0 a1 a2) (impl_classUp.f (k + 1) a0 a1 a2) := by
  intro a0 a1 a2 k
  have ih0 := impl_classUp.mono_l k
  unfold impl_classUp.f
  repeat' first
      | (with_reducible exact ih0 _ _ _)
      | (with_reducible exact LeO.refl _)
      | (with_reducible exact LeO.none _)
      | (with_reducible refine LeO.ite ?_ ?_)
      | (with_reducible refine LeO.bind ?_ (fun _ => ?_))
      | exact ih0 _ _ _
      | exact LeO.none _
      | refine LeO.ite ?_ ?_
      | refine LeO.bind ?_ (fun _ => ?_)
set_option maxHeartbeats 8000000 in
set_option maxRecDepth 100000 in
theorem impl_classUp.calls (k : Nat) (A0 : Option Addr) (c0 : Nat) (l0 : List (S34)) (a1 : Int) (a2 : Int) (r : Bool) (w : World) (hr0 : Kd.C k34 w A0 l0.length l0) (hc0 : l0.length ≤ c0) (h : impl_classUp.f k l0 a1 a2 = some r) :
    Calls Try.prog 107 #[.slice A0 l0.length c0, .int .i64 a1, .int .i64 a2] w fun e w' => e = .returned (.bool r) ∧ Drawn0 w w' := by
  have HR0 := Aside0.mk hr0
  have HC0 := Aside0.mk hc0
  clear hr0 hc0
  have H : (impl_classUp.l0 k l0 a2 a1) = some r := h
  clear h
  have H' := Aside0.mk H
  clear H
  go_enter Try.func107, Try.ntmps107
  go_wp2
  go_loopg [7] k (fun kq v7 w' => ∃ (x7_1 : Int), v7 = .int .i64 x7_1 ∧ Aside0 (impl_classUp.l0 kq l0 a2 x7_1 = some r) ∧ Aside0 (kq ≤ k) ∧ Drawn0 w w')
  case atStart => exact ⟨(a1), (by first | rfl | (simp; done) | (simp [*]; done)), H', ⟨Nat.le_refl _⟩, by repeat (first | exact Drawn0.refl _ | apply Drawn0.step)⟩
  case round =>
    clear H'
    try clear c1
    try clear p2
    obtain ⟨x7_1, rfl, HA, HK1, ⟨m1, rfl⟩⟩ := hrel
    cases gk with
    | zero => exact absurd HA.out (by simp [impl_classUp.l0])
    | succ k1 =>
      have H := HA.out
      clear HA
      simp only [impl_classUp.l0] at H
      by_cases c4 : x7_1 ≥ 0
      · rw [if_pos c4] at H
        have c4b0 : decide (0 ≤ x7_1) = true := decide_eq_true c4
        clear c4
        by_cases c5 : x7_1 = a2
        · rw [if_pos c5] at H
          have c5b0 : (x7_1 == a2) = true := beq_iff_eq.mpr c5
          have c5b1 : (x7_1 != a2) = false := bne_eq_false_iff_eq.mpr c5
          clear c5
          obtain rfl := Option.some.inj H
          go_wp2
          go_ret
          exact ⟨by first | rfl | (simp; done) | (simp [*]; done), by repeat (first | exact Drawn0.refl _ | apply Drawn0.step)⟩
        · rw [if_neg c5] at H
          have c5b0 : (x7_1 == a2) = false := beq_eq_false_iff_ne.mpr c5
          have c5b1 : (x7_1 != a2) = true := bne_iff_ne.mpr c5
          by_cases c6 : 0 ≤ x7_1
          · rw [if_pos c6] at H
            have c6b0 : decide (0 ≤ x7_1) = true := decide_eq_true c6
            clear c6
            by_cases c7 : x7_1 < (l0.length : Int)
            · rw [if_pos c7] at H
              have c7b0 : decide (x7_1 < (l0.length : Int)) = true := decide_eq_true c7
              clear c7
              have H' := Aside0.mk H
              clear H
              have p159 : 0 ≤ (x7_1 : Int) := of_decide_eq_true (by first | (with_reducible assumption) | assumption)
              have q159 : x7_1 < (l0.length : Int) := of_decide_eq_true (by first | (with_reducible assumption) | assumption)
              obtain ⟨ad159, A159_1, c159_1, e159, hx159_0, hx159_1, hl159_1, hi159_1⟩ := at_T34 HR0.out x7_1 p159 q159
              cases e159
              have HR159_1 := Aside0.mk hi159_1
              have HC159_1 := Aside0.mk hl159_1
              clear hi159_1 hl159_1
              replace p159 := eq_true p159
              replace q159 := eq_true q159
              go_wp2
              go_roundg k1
              case measure => have := HK1.out; omega
              case rel => exact ⟨((rd_T34 l0 x7_1).f0), (by first | rfl | (simp; done) | (simp [*]; done)), H', ⟨by have := HK1.out; omega⟩, by repeat (first | exact Drawn0.refl _ | apply Drawn0.step)⟩
            · rw [if_neg c7] at H
              exact absurd H (by simp)
          · rw [if_neg c6] at H
            exact absurd H (by simp)
      · rw [if_neg c4] at H
        have c4b0 : decide (0 ≤ x7_1) = false := decide_eq_false c4
        clear c4
        obtain rfl := Option.some.inj H
        go_wp2
        go_ret
        exact ⟨by first | rfl | (simp; done) | (simp [*]; done), by repeat (first | exact Drawn0.refl _ | apply Drawn0.step)⟩

end Go.Proofs.Ytfcbeodndplenaa.K

/- Function 82, impl_kindIn: what it answers, and the walk. (Printed or laid by this session's program wip/pr.py.) -/
namespace Go.Proofs.Ytfcbeodndplenaa.K
open Go.RowKit Go.Proofs.YtfcbeodndplenaaW.PrintWords Go.Proofs.YtfcbeodndplenaaW.PrintLast Go.Proofs.YtfcbeodndplenaaW.PrintMore
attribute [local go_sem] max2_int min2_int max_two min_two max_three min_three max_four min_four
set_option linter.unusedVariables false
set_option linter.unusedSimpArgs false

/-! ### impl_kindIn: function 82 -/
/-- May what is of one kind stand where another one is told, the kinds by their numbers. -/
def kndIn (l0 : List S34) (a b : Int) : Option Bool :=
  if a = b ∨ b = 0 then some true
  else if a = 2 then some (!decide (b = 1))
  else if a = 3 ∨ a = 4 then some (decide (b = 8))
  else if 8 ≤ a then (if 8 ≤ b then impl_classUp.f 100 l0 (a - 8) (b - 8) else some false)
  else some false
theorem kv0 : kv 0 := by unfold kv; omega
theorem kv1 : kv 1 := by unfold kv; omega
theorem kv8 : kv 8 := by unfold kv; omega
set_option maxHeartbeats 4000000 in
theorem impl_kindIn.calls (A0 : Option Addr) (c0 : Nat) (l0 : List S34) (a b : Int) (r : Bool) (w : World) (hr0 : Kd.C k34 w A0 l0.length l0) (hc0 : l0.length ≤ c0) (ha : kv a) (hb : kv b) (hB : b ≤ 9223372036854775807) (h : kndIn l0 a b = some r) :
    Calls Try.prog 82 #[.slice A0 l0.length c0, kndV a, kndV b] w fun e w' => e = .returned (.bool r) ∧ Below w.heap.size w w' := by
  have HR0 := Aside0.mk hr0
  have HC0 := Aside0.mk hc0
  have E1 := kind_eql ha hb
  have E2 : ∀ W : World, (binOp .eql 98 (kndV b) (.iface 101 (.agg #[]))).run Try.prog W = .ok (.bool (decide (b = 0))) W := kind_eql hb kv0
  have E3 : ∀ W : World, (binOp .neq 98 (kndV b) (.iface 102 (.agg #[]))).run Try.prog W = .ok (.bool (!decide (b = 1))) W := kind_neq hb kv1
  have E4 : ∀ W : World, (binOp .eql 98 (kndV b) (.iface 108 (.agg #[.int .i64 0]))).run Try.prog W = .ok (.bool (decide (b = 8))) W := kind_eql hb kv8
  have G1 := guard_knd a
  have G2 := guard_knd b
  have T1 := kind_null ha
  have T2 := kind_arr ha
  have T3 := kind_class ha
  have T4 := kind_class hb
  clear hr0 hc0
  by_cases c1 : a = b
  · have HR := Aside0.mk (Option.some.inj ((if_pos (Or.inl c1)).symm.trans h))
    have d1 : decide (a = b) = true := decide_eq_true c1
    clear h c1
    go_enter Try.func82, Try.ntmps82
    go_wp2
    go_ret
    exact ⟨by rw [← HR.out]; rfl, Below.refl _ _⟩
  have d1 : decide (a = b) = false := decide_eq_false c1
  by_cases c2 : b = 0
  · have HR := Aside0.mk (Option.some.inj ((if_pos (Or.inr c2)).symm.trans h))
    have d2 : decide (b = 0) = true := decide_eq_true c2
    clear h c1 c2
    go_enter Try.func82, Try.ntmps82
    go_wp2
    go_ret
    exact ⟨by rw [← HR.out]; rfl, Below.refl _ _⟩
  have d2 : decide (b = 0) = false := decide_eq_false c2
  have h := (if_neg (show ¬ (a = b ∨ b = 0) from fun z => z.elim c1 c2)).symm.trans h
  by_cases c3 : a = 2
  · have HR := Aside0.mk (Option.some.inj ((if_pos c3).symm.trans h))
    have d3 : decide (a = 2) = true := decide_eq_true c3
    clear h c1 c2 c3
    go_enter Try.func82, Try.ntmps82
    go_wp2
    go_ret
    exact ⟨by rw [← HR.out]; rfl, by repeat (first | exact Below.refl _ _ | apply below_alloc | (refine below_set ?_ (by simp)))⟩
  have h := (if_neg c3).symm.trans h
  have d3 : decide (a = 2) = false := decide_eq_false c3
  by_cases c4 : a = 3 ∨ a = 4
  · have HR := Aside0.mk (Option.some.inj ((if_pos c4).symm.trans h))
    have d4 : decide (a = 3 ∨ a = 4) = true := decide_eq_true c4
    clear h c1 c2 c3 c4
    go_enter Try.func82, Try.ntmps82
    go_wp2
    go_ret
    exact ⟨by rw [← HR.out]; rfl, by repeat (first | exact Below.refl _ _ | apply below_alloc | (refine below_set ?_ (by simp)))⟩
  have h := (if_neg c4).symm.trans h
  have d4 : decide (a = 3 ∨ a = 4) = false := decide_eq_false c4
  by_cases c5 : 8 ≤ a
  · have h := (if_pos c5).symm.trans h
    have d5 : decide (8 ≤ a) = true := decide_eq_true c5
    have e5 : clsOf a = a - 8 := if_pos c5
    by_cases c6 : 8 ≤ b
    · have HR := Aside0.mk ((if_pos c6).symm.trans h)
      have d6 : decide (8 ≤ b) = true := decide_eq_true c6
      have e6 : clsOf b = b - 8 := if_pos c6
      clear h c1 c2 c3 c4
      go_enter Try.func82, Try.ntmps82
      go_wp2_with (go_at_call 107; refine (impl_classUp.calls 100 A0 c0 l0 (a - 8) (b - 8) r _ (Kd.C_below HR0.out (by repeat (first | exact Below.refl _ _ | apply below_alloc))) HC0.out HR.out).mono ?_; rintro e w' ⟨rfl, ⟨n, rfl⟩⟩)
      go_ret
      exact ⟨rfl, by repeat (first | exact Below.refl _ _ | apply below_alloc | apply pw_below_drewN | (refine below_set ?_ (by simp)))⟩
    · have HR := Aside0.mk (Option.some.inj ((if_neg c6).symm.trans h))
      have d6 : decide (8 ≤ b) = false := decide_eq_false c6
      have e6 : clsOf b = 0 := if_neg c6
      clear h c1 c2 c3 c4
      go_enter Try.func82, Try.ntmps82
      go_wp2
      go_ret
      exact ⟨by rw [← HR.out]; rfl, by repeat (first | exact Below.refl _ _ | apply below_alloc | (refine below_set ?_ (by simp)))⟩
  have HR := Aside0.mk (Option.some.inj ((if_neg c5).symm.trans h))
  have d5 : decide (8 ≤ a) = false := decide_eq_false c5
  clear h c1 c2 c3 c4
  go_enter Try.func82, Try.ntmps82
  go_wp2
  go_ret
  exact ⟨by rw [← HR.out]; rfl, by repeat (first | exact Below.refl _ _ | apply below_alloc | (refine below_set ?_ (by simp)))⟩

end Go.Proofs.Ytfcbeodndplenaa.K

/- Function 59, impl_typeIn: what it answers, and the walk. (Printed or laid by this session's program wip/pr.py.) -/
namespace Go.Proofs.Ytfcbeodndplenaa.K
open Go.RowKit Go.Proofs.YtfcbeodndplenaaW.PrintWords Go.Proofs.YtfcbeodndplenaaW.PrintLast Go.Proofs.YtfcbeodndplenaaW.PrintMore
attribute [local go_sem] max2_int min2_int max_two min_two max_three min_three max_four min_four
set_option linter.unusedVariables false
set_option linter.unusedSimpArgs false

/-! ### impl_typeIn: function 59 -/
/-- May what is of a type stand where another one is told. -/
def impl_typeIn.f (l0 : List S34) (a1 a2 : Int) : Option Bool :=
  if l0.length ≤ 1000 ∧ a2 ≤ 9223372036854775807 then (if kOk l0.length a1 = true then (if kOk l0.length a2 = true then kndIn l0 a1 a2 else some false) else some false) else none
theorem kv_of_kOk {n t : Int} (h : kOk n t = true) : kv t := by simp [kOk] at h; unfold kv; omega
set_option maxHeartbeats 4000000 in
theorem impl_typeIn.calls (A0 : Option Addr) (c0 : Nat) (l0 : List S34) (a1 : Int) (a2 : Int) (r : Bool) (w : World) (hr0 : Kd.C k34 w A0 l0.length l0) (hc0 : l0.length ≤ c0) (h : impl_typeIn.f l0 a1 a2 = some r) :
    Calls Try.prog 59 #[.slice A0 l0.length c0, .int .i64 a1, .int .i64 a2] w fun e w' => e = .returned (.bool r) ∧ Below w.heap.size w w' := by
  have HR0 := Aside0.mk hr0
  have HC0 := Aside0.mk hc0
  clear hr0 hc0
  have hl : l0.length ≤ 1000 ∧ a2 ≤ 9223372036854775807 := by
    unfold impl_typeIn.f at h
    split at h
    · assumption
    · simp at h
  have h : (if kOk l0.length a1 = true then (if kOk l0.length a2 = true then kndIn l0 a1 a2 else some false) else some false) = some r := (if_pos hl).symm.trans h
  obtain ⟨hl, ha2⟩ := hl
  have N1 := kndO_neq l0.length a1
  have N2 := kndO_neq l0.length a2
  have G1 := fun (op : BinOp) (T : TypeId) (x : Operand) (c : Value) (v : Value) => guard_kndO l0.length a1 op T x c v
  have G2 := fun (op : BinOp) (T : TypeId) (x : Operand) (c : Value) (v : Value) => guard_kndO l0.length a2 op T x c v
  by_cases k1 : kOk l0.length a1 = true
  · have h := (if_pos k1).symm.trans h
    have V1 := Aside0.mk (kv_of_kOk k1)
    have O1 := Aside0.mk (show kndO l0.length a1 = kndV a1 from if_pos k1)
    by_cases k2 : kOk l0.length a2 = true
    · have H := Aside0.mk ((if_pos k2).symm.trans h)
      have V2 := Aside0.mk (kv_of_kOk k2)
      have O2 := Aside0.mk (show kndO l0.length a2 = kndV a2 from if_pos k2)
      clear h
      go_enter Try.func59, Try.ntmps59
      go_wp2_with fail
      refine (impl_kindOf.calls _ _ _ (by omega) (by omega)).mono ?_
      rintro e w' ⟨rfl, ⟨n1, rfl⟩⟩
      go_wp2_with fail
      refine (impl_kindOf.calls _ _ _ (by omega) (by omega)).mono ?_
      rintro e w' ⟨rfl, ⟨n2, rfl⟩⟩
      go_wp2_with fail
      rw [O1.out, O2.out]
      refine (impl_kindIn.calls A0 c0 l0 a1 a2 r _ (Kd.C_below HR0.out (by repeat (first | exact Below.refl _ _ | apply below_alloc | apply pw_below_drewN))) HC0.out V1.out V2.out ha2 H.out).mono ?_
      rintro e w' ⟨rfl, hb⟩
      go_wp2
      go_ret
      exact ⟨rfl, below_step (by repeat (first | exact Below.refl _ _ | apply below_alloc | apply pw_below_drewN)) hb⟩
    · have H := Aside0.mk (Option.some.inj ((if_neg k2).symm.trans h))
      have k2 := Bool.not_eq_true _ |>.mp k2
      clear h
      go_enter Try.func59, Try.ntmps59
      go_wp2_with fail
      refine (impl_kindOf.calls _ _ _ (by omega) (by omega)).mono ?_
      rintro e w' ⟨rfl, ⟨n1, rfl⟩⟩
      go_wp2_with fail
      refine (impl_kindOf.calls _ _ _ (by omega) (by omega)).mono ?_
      rintro e w' ⟨rfl, ⟨n2, rfl⟩⟩
      go_wp2
      go_ret
      exact ⟨by rw [← H.out]; rfl, (by repeat (first | exact Below.refl _ _ | apply below_alloc | apply pw_below_drewN))⟩
  · have H := Aside0.mk (Option.some.inj ((if_neg k1).symm.trans h))
    have k1 := Bool.not_eq_true _ |>.mp k1
    clear h
    go_enter Try.func59, Try.ntmps59
    go_wp2_with fail
    refine (impl_kindOf.calls _ _ _ (by omega) (by omega)).mono ?_
    rintro e w' ⟨rfl, ⟨n1, rfl⟩⟩
    go_wp2_with fail
    refine (impl_kindOf.calls _ _ _ (by omega) (by omega)).mono ?_
    rintro e w' ⟨rfl, ⟨n2, rfl⟩⟩
    go_wp2
    go_ret
    exact ⟨by rw [← H.out]; rfl, (by repeat (first | exact Below.refl _ _ | apply below_alloc | apply pw_below_drewN))⟩

end Go.Proofs.Ytfcbeodndplenaa.K
