import Derived.Test.YtjnbilfhpdkcbaaPm24
import Derived.Test.YtjnbilfhpdkcbaaPm28
namespace Go.Proofs.Ytjnbilfhpdkcbaa.K
open Go.RowKit Go.Proofs.YtjnbilfhpdkcbaaW.PrintWords Go.Proofs.YtjnbilfhpdkcbaaW.PrintLast Go.Proofs.YtjnbilfhpdkcbaaW.PrintMore
attribute [local go_sem] max2_int min2_int max_two min_two max_three min_three max_four min_four
set_option linter.unusedVariables false
set_option linter.unusedSimpArgs false
mutual
def spec_l21Bounds.j0 : Nat → Int → Bool → List Int → Int → Int → Int → List Bool → Option (Bool)
  | 0, _, _, _, _, _, _, _ => none
  | k + 1, x5, x54, x151000, x151001, x151002, x151003, x151004 => if x54 = true then (some false) else (spec_l21Bounds.l0 k x5 0 x151000 x151001 x151002 x151003 x151004)
def spec_l21Bounds.l0 : Nat → Int → Int → List Int → Int → Int → Int → List Bool → Option (Bool)
  | 0, _, _, _, _, _, _, _ => none
  | k + 1, x5, x6, x151000, x151001, x151002, x151003, x151004 => if x6 < x5 then ((spec_l6In.f x6 x151002 (wrap64 (x151001 - 1))).bind fun t157 => (if t157 = true then (if 0 ≤ x6 then (if x6 < (x151000.length : Int) then (if (rd x151000 x6) = 0 then (spec_l21Bounds.l0 k x5 (wrap64 (x6 + 1)) x151000 x151001 x151002 x151003 x151004) else (some false)) else (none)) else (none)) else (if x6 ≥ x151003 then (if 0 ≤ x6 then (if x6 < (x151000.length : Int) then (if (rd x151000 x6) = 0 then (spec_l21Bounds.l0 k x5 (wrap64 (x6 + 1)) x151000 x151001 x151002 x151003 x151004) else (some false)) else (none)) else (none)) else (spec_l21Bounds.l0 k x5 (wrap64 (x6 + 1)) x151000 x151001 x151002 x151003 x151004)))) else (some true)
end
def spec_l21Bounds.f (k : Nat) (l0 : List (S32)) (l1_0 : List Int) (a1_1 : Int) (a1_2 : Int) (a1_3 : Int) (l1_4 : List Bool) : Option (Bool) := (spec_ClassesOk.f k l0).bind fun t151 => (if t151 = true then ((spec_l6In.f a1_1 0 40).bind fun t152 => (if t152 = true then ((spec_l6In.f (wrap64 ((l1_0.length : Int) - a1_1)) 14 120).bind fun t153 => (if t153 = true then ((spec_l6In.f a1_2 0 a1_1).bind fun t154 => (if t154 = true then ((spec_l6In.f a1_3 a1_1 (l1_0.length : Int)).bind fun t155 => (if t155 = true then ((spec_l21Cards.f (wrap64 ((l1_0.length : Int) - a1_1))).bind fun t156 => (spec_l21Bounds.j0 k (l1_0.length : Int) ((l1_4.length : Int) != t156) l1_0 a1_1 a1_2 a1_3 l1_4)) else (spec_l21Bounds.j0 k (l1_0.length : Int) true l1_0 a1_1 a1_2 a1_3 l1_4))) else (spec_l21Bounds.j0 k (l1_0.length : Int) true l1_0 a1_1 a1_2 a1_3 l1_4))) else (spec_l21Bounds.j0 k (l1_0.length : Int) true l1_0 a1_1 a1_2 a1_3 l1_4))) else (spec_l21Bounds.j0 k (l1_0.length : Int) true l1_0 a1_1 a1_2 a1_3 l1_4))) else (spec_l21Bounds.j0 k (l1_0.length : Int) true l1_0 a1_1 a1_2 a1_3 l1_4))
theorem spec_l21Bounds.mono_l : ∀ k, (∀ y0 y1 y2 y3 y4 y5 y6, LeO (spec_l21Bounds.j0 k y0 y1 y2 y3 y4 y5 y6) (spec_l21Bounds.j0 (k + 1) y0 y1 y2 y3 y4 y5 y6)) ∧ (∀ y0 y1 y2 y3 y4 y5 y6, LeO (spec_l21Bounds.l0 k y0 y1 y2 y3 y4 y5 y6) (spec_l21Bounds.l0 (k + 1) y0 y1 y2 y3 y4 y5 y6))
  | 0 => ⟨fun _ _ _ _ _ _ _ r h => by simp [spec_l21Bounds.j0] at h, fun _ _ _ _ _ _ _ r h => by simp [spec_l21Bounds.l0] at h⟩
  | k + 1 => by
    obtain ⟨ih0, ih1⟩ := spec_l21Bounds.mono_l k
    refine ⟨?_, ?_⟩
    · intro y0 y1 y2 y3 y4 y5 y6
      unfold spec_l21Bounds.j0
      repeat' first
      | (with_reducible exact ih0 _ _ _ _ _ _ _)
      | (with_reducible exact ih1 _ _ _ _ _ _ _)
      | (with_reducible exact spec_ClassesOk.mono _ _)
      | (with_reducible exact LeO.refl _)
      | (with_reducible exact LeO.none _)
      | (with_reducible refine LeO.ite ?_ ?_)
      | (with_reducible refine LeO.bind ?_ (fun _ => ?_))
      | exact ih0 _ _ _ _ _ _ _
      | exact ih1 _ _ _ _ _ _ _
      | exact spec_ClassesOk.mono _ _
      | exact LeO.none _
      | refine LeO.ite ?_ ?_
      | refine LeO.bind ?_ (fun _ => ?_)
    · intro y0 y1 y2 y3 y4 y5 y6
      unfold spec_l21Bounds.l0
      repeat' first
      | (with_reducible exact ih0 _ _ _ _ _ _ _)
      | (with_reducible exact ih1 _ _ _ _ _ _ _)
      | (with_reducible exact spec_ClassesOk.mono _ _)
      | (with_reducible exact LeO.refl _)
      | (with_reducible exact LeO.none _)
      | (with_reducible refine LeO.ite ?_ ?_)
      | (with_reducible refine LeO.bind ?_ (fun _ => ?_))
      | exact ih0 _ _ _ _ _ _ _
      | exact ih1 _ _ _ _ _ _ _
      | exact spec_ClassesOk.mono _ _
      | exact LeO.none _
      | refine LeO.ite ?_ ?_
      | refine LeO.bind ?_ (fun _ => ?_)
def spec_l21Bounds.T2 : Bool × List (List Nat × List Nat) := (true, [([], []), ([0], [0]), ([1], [1]), ([2, 1], [2]), ([3], [3]), ([4, 3], [3, 4]), ([5, 3, 3], [3, 5]), ([6, 3], [3, 6]), ([3, 7], [3, 7]), ([8, 6], [8]), ([9], [9]), ([9], [9]), ([11, 9], [9, 11]), ([10, 12, 9], [9, 10, 12]), ([13, 9, 9], [9, 13]), ([14, 9], [9, 14]), ([9, 15], [9, 15]), ([16, 14], [16]), ([17], [17]), ([18, 17], [17, 18]), ([17], [17]), ([20, 17], [17, 20]), ([19, 21, 17, 17], [17, 19, 21]), ([22, 17], [17, 22]), ([17, 23], [17, 23]), ([24, 22], [24]), ([25], [25]), ([26, 25], [25, 26]), ([25], [25]), ([28, 25], [25, 28]), ([25], [25]), ([27, 29, 30, 25, 25], [25, 27, 29, 30]), ([31, 25], [25, 31]), ([25, 32], [25, 32]), ([33, 31], [33]), ([34], [34]), ([35, 34], [34, 35]), ([36, 34], [34, 36]), ([34], [34]), ([34], [34]), ([39, 34], [34, 39]), ([38, 40, 34], [34, 38, 40]), ([41, 34, 34], [34, 41]), ([37, 42, 34], [34, 37, 42]), ([34, 43], [34, 43])])
def spec_l21Bounds.B2 : List Nat := [0, 1, 3, 7, 15, 31, 63, 127, 255, 511, 1023, 1023, 3071, 8191, 16383, 32767, 65535, 131071, 262143, 524287, 262143, 1310719, 4194303, 8388607, 16777215, 33554431, 67108863, 134217727, 67108863, 335544319, 67108863, 2147483647, 4294967295, 8589934591, 17179869183, 34359738367, 68719476735, 137438953471, 34359738367, 34359738367, 584115552255, 1958505086975, 4157528342527, 8796093022207, 17592186044415]
theorem spec_l21Bounds.tab2 : rtab .any (opsOf Try.f43 2) = spec_l21Bounds.T2 := by kernel_rfl
theorem spec_l21Bounds.bits2 : waitsOk spec_l21Bounds.T2.2 spec_l21Bounds.B2 = true := by kernel_rfl
set_option maxHeartbeats 8000000 in
set_option maxRecDepth 100000 in
theorem spec_l21Bounds.calls (k : Nat) (A0 : Option Addr) (c0 : Nat) (l0 : List (S32)) (A1_0 : Option Addr) (c1_0 : Nat) (l1_0 : List Int) (a1_1 : Int) (a1_2 : Int) (a1_3 : Int) (A1_4 : Option Addr) (c1_4 : Nat) (l1_4 : List Bool) (r : Bool) (w : World) (hr0 : Kd.C k32 w A0 l0.length l0) (hc0 : l0.length ≤ c0) (hr1_0 : Kd.C (Kd.int .i64) w A1_0 l1_0.length l1_0) (hc1_0 : l1_0.length ≤ c1_0) (hr1_4 : Kd.C Kd.bool w A1_4 l1_4.length l1_4) (hc1_4 : l1_4.length ≤ c1_4) (h : spec_l21Bounds.f k l0 l1_0 a1_1 a1_2 a1_3 l1_4 = some r) :
    Calls Try.prog 43 #[.slice A0 l0.length c0, .agg #[.slice A1_0 l1_0.length c1_0, .int .i64 a1_1, .int .i64 a1_2, .int .i64 a1_3, .slice A1_4 l1_4.length c1_4]] w fun e w' => e = .returned (.bool r) ∧ Below w.heap.size w w' := by
  have hu28 := Try.underlying28
  have HR0 := Aside0.mk hr0
  have HC0 := Aside0.mk hc0
  clear hr0 hc0
  have HR1_0 := Aside0.mk hr1_0
  have HC1_0 := Aside0.mk hc1_0
  clear hr1_0 hc1_0
  have HR1_4 := Aside0.mk hr1_4
  have HC1_4 := Aside0.mk hc1_4
  clear hr1_4 hc1_4
  have HB := Aside0.mk (Below.refl w.heap.size w)
  have H : ((spec_ClassesOk.f k l0).bind fun t151 => (if t151 = true then ((spec_l6In.f a1_1 0 40).bind fun t152 => (if t152 = true then ((spec_l6In.f (wrap64 ((l1_0.length : Int) - a1_1)) 14 120).bind fun t153 => (if t153 = true then ((spec_l6In.f a1_2 0 a1_1).bind fun t154 => (if t154 = true then ((spec_l6In.f a1_3 a1_1 (l1_0.length : Int)).bind fun t155 => (if t155 = true then ((spec_l21Cards.f (wrap64 ((l1_0.length : Int) - a1_1))).bind fun t156 => (spec_l21Bounds.j0 k (l1_0.length : Int) ((l1_4.length : Int) != t156) l1_0 a1_1 a1_2 a1_3 l1_4)) else (spec_l21Bounds.j0 k (l1_0.length : Int) true l1_0 a1_1 a1_2 a1_3 l1_4))) else (spec_l21Bounds.j0 k (l1_0.length : Int) true l1_0 a1_1 a1_2 a1_3 l1_4))) else (spec_l21Bounds.j0 k (l1_0.length : Int) true l1_0 a1_1 a1_2 a1_3 l1_4))) else (spec_l21Bounds.j0 k (l1_0.length : Int) true l1_0 a1_1 a1_2 a1_3 l1_4))) else (spec_l21Bounds.j0 k (l1_0.length : Int) true l1_0 a1_1 a1_2 a1_3 l1_4))) = some r := h
  clear h
  have HC3 := Aside0.mk H
  clear H
  go_enter Try.func43, Try.ntmps43
  go_upto_region 2 with (first | ((with_reducible refine gate_dst (N := 3) rfl ?_); (try (refine gate_guard (by rfl) ?_; dsimp only)); refine box_event ?hg (N := 3) ?hd (cs := #[.slice A1_0 l1_0.length c1_0, .int .i64 a1_1, .int .i64 a1_2, .int .i64 a1_3, .slice A1_4 l1_4.length c1_4]) (t := 28) ?hr ?_; (case hd => rfl); (case hg => rfl); (case hr => first | (go_simp; done) | (go_simp; rfl)); intro gb150 hg w4 hbox hb; have n0_ := Aside0.mk (below_step (by repeat (first | (with_reducible first | exact HB.out | apply below_alloc | apply pw_below_drewN | apply below_drew1) | exact HB.out)) hb); have n1_ := Aside0.mk (hbox); have n2_ := Aside0.mk ((by rw [hg]; exact (below_size (by repeat (first | (with_reducible first | exact HB.out | apply below_alloc | apply pw_below_drewN | apply below_drew1) | exact HB.out))) : w.heap.size ≤ gb150)); have n3_ := Aside0.mk ((by rw [hg]; exact (below_size (by repeat (first | (with_reducible first | exact HB.out | apply below_alloc | apply pw_below_drewN | apply below_drew1) | exact HB.out))) : w.heap.size ≤ gb150)); clear HB; have HB := n0_; have BK150 := n1_; have GW150 := n2_; have GE150 := n3_; clear n0_ n1_ n2_ n3_; clear hb hbox hg; have hcz5_0 : w4.cell? ⟨gb150, 0, none⟩ = some (.slice A1_0 l1_0.length c1_0) := (blk_cell BK150.out 0).trans rfl; have hcz5_1 : w4.cell? ⟨gb150, 1, none⟩ = some (.int .i64 a1_1) := (blk_cell BK150.out 1).trans rfl; have hcz5_2 : w4.cell? ⟨gb150, 2, none⟩ = some (.int .i64 a1_2) := (blk_cell BK150.out 2).trans rfl; have hcz5_3 : w4.cell? ⟨gb150, 3, none⟩ = some (.int .i64 a1_3) := (blk_cell BK150.out 3).trans rfl; have hcz5_4 : w4.cell? ⟨gb150, 4, none⟩ = some (.slice A1_4 l1_4.length c1_4) := (blk_cell BK150.out 4).trans rfl; have hfz5_0 := blk_frozen BK150.out 0; have hfz5_1 := blk_frozen BK150.out 1; have hfz5_2 := blk_frozen BK150.out 2; have hfz5_3 := blk_frozen BK150.out 3; have hfz5_4 := blk_frozen BK150.out 4))
  (try simp only [Act.put, List.setIfInBounds_toArray, List.set_cons_zero, List.set_cons_succ])
  go_cut [54] (fun v54 wc => ∃ (kq : Nat) (x54_2 : Bool), v54 = .bool x54_2 ∧ Aside0 (spec_l21Bounds.j0 kq (l1_0.length : Int) x54_2 l1_0 a1_1 a1_2 a1_3 l1_4 = some r) ∧ Aside0 (kq ≤ k) ∧ Aside0 (wc.heap[gb150]? = some (.cells #[(.slice A1_0 l1_0.length c1_0), .int .i64 a1_1, .int .i64 a1_2, .int .i64 a1_3, (.slice A1_4 l1_4.length c1_4)] 28 (0, 0))) ∧ Aside0 (Below w.heap.size w wc))
  case first =>
    have H := HC3.out
    clear HC3
    replace H := Option.bind_eq_some_iff.mp H
    obtain ⟨t151, A60, H⟩ := H
    replace H : (if t151 = true then ((spec_l6In.f a1_1 0 40).bind fun t152 => (if t152 = true then ((spec_l6In.f (wrap64 ((l1_0.length : Int) - a1_1)) 14 120).bind fun t153 => (if t153 = true then ((spec_l6In.f a1_2 0 a1_1).bind fun t154 => (if t154 = true then ((spec_l6In.f a1_3 a1_1 (l1_0.length : Int)).bind fun t155 => (if t155 = true then ((spec_l21Cards.f (wrap64 ((l1_0.length : Int) - a1_1))).bind fun t156 => (spec_l21Bounds.j0 k (l1_0.length : Int) ((l1_4.length : Int) != t156) l1_0 a1_1 a1_2 a1_3 l1_4)) else (spec_l21Bounds.j0 k (l1_0.length : Int) true l1_0 a1_1 a1_2 a1_3 l1_4))) else (spec_l21Bounds.j0 k (l1_0.length : Int) true l1_0 a1_1 a1_2 a1_3 l1_4))) else (spec_l21Bounds.j0 k (l1_0.length : Int) true l1_0 a1_1 a1_2 a1_3 l1_4))) else (spec_l21Bounds.j0 k (l1_0.length : Int) true l1_0 a1_1 a1_2 a1_3 l1_4))) else (spec_l21Bounds.j0 k (l1_0.length : Int) true l1_0 a1_1 a1_2 a1_3 l1_4)) = some r := H
    have A6 := Aside0.mk A60
    clear A60
    by_cases c7 : t151 = true
    · subst c7
      have H1 : ((spec_l6In.f a1_1 0 40).bind fun t152 => (if t152 = true then ((spec_l6In.f (wrap64 ((l1_0.length : Int) - a1_1)) 14 120).bind fun t153 => (if t153 = true then ((spec_l6In.f a1_2 0 a1_1).bind fun t154 => (if t154 = true then ((spec_l6In.f a1_3 a1_1 (l1_0.length : Int)).bind fun t155 => (if t155 = true then ((spec_l21Cards.f (wrap64 ((l1_0.length : Int) - a1_1))).bind fun t156 => (spec_l21Bounds.j0 k (l1_0.length : Int) ((l1_4.length : Int) != t156) l1_0 a1_1 a1_2 a1_3 l1_4)) else (spec_l21Bounds.j0 k (l1_0.length : Int) true l1_0 a1_1 a1_2 a1_3 l1_4))) else (spec_l21Bounds.j0 k (l1_0.length : Int) true l1_0 a1_1 a1_2 a1_3 l1_4))) else (spec_l21Bounds.j0 k (l1_0.length : Int) true l1_0 a1_1 a1_2 a1_3 l1_4))) else (spec_l21Bounds.j0 k (l1_0.length : Int) true l1_0 a1_1 a1_2 a1_3 l1_4))) = some r := by rw [if_pos rfl] at H; exact H
      clear H
      have H := H1
      clear H1
      replace H := Option.bind_eq_some_iff.mp H
      obtain ⟨t152, A80, H⟩ := H
      replace H : (if t152 = true then ((spec_l6In.f (wrap64 ((l1_0.length : Int) - a1_1)) 14 120).bind fun t153 => (if t153 = true then ((spec_l6In.f a1_2 0 a1_1).bind fun t154 => (if t154 = true then ((spec_l6In.f a1_3 a1_1 (l1_0.length : Int)).bind fun t155 => (if t155 = true then ((spec_l21Cards.f (wrap64 ((l1_0.length : Int) - a1_1))).bind fun t156 => (spec_l21Bounds.j0 k (l1_0.length : Int) ((l1_4.length : Int) != t156) l1_0 a1_1 a1_2 a1_3 l1_4)) else (spec_l21Bounds.j0 k (l1_0.length : Int) true l1_0 a1_1 a1_2 a1_3 l1_4))) else (spec_l21Bounds.j0 k (l1_0.length : Int) true l1_0 a1_1 a1_2 a1_3 l1_4))) else (spec_l21Bounds.j0 k (l1_0.length : Int) true l1_0 a1_1 a1_2 a1_3 l1_4))) else (spec_l21Bounds.j0 k (l1_0.length : Int) true l1_0 a1_1 a1_2 a1_3 l1_4)) = some r := H
      have A8 := Aside0.mk A80
      clear A80
      by_cases c9 : t152 = true
      · subst c9
        have H1 : ((spec_l6In.f (wrap64 ((l1_0.length : Int) - a1_1)) 14 120).bind fun t153 => (if t153 = true then ((spec_l6In.f a1_2 0 a1_1).bind fun t154 => (if t154 = true then ((spec_l6In.f a1_3 a1_1 (l1_0.length : Int)).bind fun t155 => (if t155 = true then ((spec_l21Cards.f (wrap64 ((l1_0.length : Int) - a1_1))).bind fun t156 => (spec_l21Bounds.j0 k (l1_0.length : Int) ((l1_4.length : Int) != t156) l1_0 a1_1 a1_2 a1_3 l1_4)) else (spec_l21Bounds.j0 k (l1_0.length : Int) true l1_0 a1_1 a1_2 a1_3 l1_4))) else (spec_l21Bounds.j0 k (l1_0.length : Int) true l1_0 a1_1 a1_2 a1_3 l1_4))) else (spec_l21Bounds.j0 k (l1_0.length : Int) true l1_0 a1_1 a1_2 a1_3 l1_4))) = some r := by rw [if_pos rfl] at H; exact H
        clear H
        have H := H1
        clear H1
        replace H := Option.bind_eq_some_iff.mp H
        obtain ⟨t153, A100, H⟩ := H
        replace H : (if t153 = true then ((spec_l6In.f a1_2 0 a1_1).bind fun t154 => (if t154 = true then ((spec_l6In.f a1_3 a1_1 (l1_0.length : Int)).bind fun t155 => (if t155 = true then ((spec_l21Cards.f (wrap64 ((l1_0.length : Int) - a1_1))).bind fun t156 => (spec_l21Bounds.j0 k (l1_0.length : Int) ((l1_4.length : Int) != t156) l1_0 a1_1 a1_2 a1_3 l1_4)) else (spec_l21Bounds.j0 k (l1_0.length : Int) true l1_0 a1_1 a1_2 a1_3 l1_4))) else (spec_l21Bounds.j0 k (l1_0.length : Int) true l1_0 a1_1 a1_2 a1_3 l1_4))) else (spec_l21Bounds.j0 k (l1_0.length : Int) true l1_0 a1_1 a1_2 a1_3 l1_4)) = some r := H
        have A10 := Aside0.mk A100
        clear A100
        by_cases c11 : t153 = true
        · subst c11
          have H1 : ((spec_l6In.f a1_2 0 a1_1).bind fun t154 => (if t154 = true then ((spec_l6In.f a1_3 a1_1 (l1_0.length : Int)).bind fun t155 => (if t155 = true then ((spec_l21Cards.f (wrap64 ((l1_0.length : Int) - a1_1))).bind fun t156 => (spec_l21Bounds.j0 k (l1_0.length : Int) ((l1_4.length : Int) != t156) l1_0 a1_1 a1_2 a1_3 l1_4)) else (spec_l21Bounds.j0 k (l1_0.length : Int) true l1_0 a1_1 a1_2 a1_3 l1_4))) else (spec_l21Bounds.j0 k (l1_0.length : Int) true l1_0 a1_1 a1_2 a1_3 l1_4))) = some r := by rw [if_pos rfl] at H; exact H
          clear H
          have H := H1
          clear H1
          replace H := Option.bind_eq_some_iff.mp H
          obtain ⟨t154, A120, H⟩ := H
          replace H : (if t154 = true then ((spec_l6In.f a1_3 a1_1 (l1_0.length : Int)).bind fun t155 => (if t155 = true then ((spec_l21Cards.f (wrap64 ((l1_0.length : Int) - a1_1))).bind fun t156 => (spec_l21Bounds.j0 k (l1_0.length : Int) ((l1_4.length : Int) != t156) l1_0 a1_1 a1_2 a1_3 l1_4)) else (spec_l21Bounds.j0 k (l1_0.length : Int) true l1_0 a1_1 a1_2 a1_3 l1_4))) else (spec_l21Bounds.j0 k (l1_0.length : Int) true l1_0 a1_1 a1_2 a1_3 l1_4)) = some r := H
          have A12 := Aside0.mk A120
          clear A120
          by_cases c13 : t154 = true
          · subst c13
            have H1 : ((spec_l6In.f a1_3 a1_1 (l1_0.length : Int)).bind fun t155 => (if t155 = true then ((spec_l21Cards.f (wrap64 ((l1_0.length : Int) - a1_1))).bind fun t156 => (spec_l21Bounds.j0 k (l1_0.length : Int) ((l1_4.length : Int) != t156) l1_0 a1_1 a1_2 a1_3 l1_4)) else (spec_l21Bounds.j0 k (l1_0.length : Int) true l1_0 a1_1 a1_2 a1_3 l1_4))) = some r := by rw [if_pos rfl] at H; exact H
            clear H
            have H := H1
            clear H1
            replace H := Option.bind_eq_some_iff.mp H
            obtain ⟨t155, A140, H⟩ := H
            replace H : (if t155 = true then ((spec_l21Cards.f (wrap64 ((l1_0.length : Int) - a1_1))).bind fun t156 => (spec_l21Bounds.j0 k (l1_0.length : Int) ((l1_4.length : Int) != t156) l1_0 a1_1 a1_2 a1_3 l1_4)) else (spec_l21Bounds.j0 k (l1_0.length : Int) true l1_0 a1_1 a1_2 a1_3 l1_4)) = some r := H
            have A14 := Aside0.mk A140
            clear A140
            by_cases c15 : t155 = true
            · subst c15
              have H1 : ((spec_l21Cards.f (wrap64 ((l1_0.length : Int) - a1_1))).bind fun t156 => (spec_l21Bounds.j0 k (l1_0.length : Int) ((l1_4.length : Int) != t156) l1_0 a1_1 a1_2 a1_3 l1_4)) = some r := by rw [if_pos rfl] at H; exact H
              clear H
              have H := H1
              clear H1
              replace H := Option.bind_eq_some_iff.mp H
              obtain ⟨t156, A160, H⟩ := H
              replace H : (spec_l21Bounds.j0 k (l1_0.length : Int) ((l1_4.length : Int) != t156) l1_0 a1_1 a1_2 a1_3 l1_4) = some r := H
              have A16 := Aside0.mk A160
              clear A160
              have H' := Aside0.mk H
              clear H
              try go_wp2
              have n0_ := Aside0.mk (blk_drew BK150.out)
              have n1_ := Aside0.mk (below_drew1 HB.out)
              clear BK150
              clear HB
              have BK150 := n0_
              have HB := n1_
              clear n0_ n1_
              refine start_ (n := 45) (S := fun w' => w'.cell? ⟨gb150, 0, none⟩ = some (.slice A1_0 l1_0.length c1_0) ∧ w'.cell? ⟨gb150, 1, none⟩ = some (.int .i64 a1_1) ∧ w'.cell? ⟨gb150, 2, none⟩ = some (.int .i64 a1_2) ∧ w'.cell? ⟨gb150, 3, none⟩ = some (.int .i64 a1_3) ∧ w'.cell? ⟨gb150, 4, none⟩ = some (.slice A1_4 l1_4.length c1_4)) (ds := []) #[false, false, false, false, false, false, false, false, false, false, false, false, false, false, false, false, false, false, false, false, false, false, false, false, false, false, false, false, false, false, false, false, false, false, false, false, false, false, false, false, false, false, false, false, false] (by kernel_rfl) rfl rfl ⟨(blk_cell BK150.out 0).trans rfl, (blk_cell BK150.out 1).trans rfl, (blk_cell BK150.out 2).trans rfl, (blk_cell BK150.out 3).trans rfl, (blk_cell BK150.out 4).trans rfl⟩ (fun hHeld => ?_); refine with_tabW spec_l21Bounds.tab2 spec_l21Bounds.bits2 (fun HT_ HW_ => ?_)
              generalize w4.drew = w17 at BK150 HB hHeld ⊢
              refine pS 0 10 (lA 45 1) ?_ (hc := (any_of HT_.out (by kernel_rfl)))
              refine one_ (i := 1) (N := some 11) (lA 45 3) rfl rfl (one_of HT_.out (by kernel_rfl)) (by decide) (fun K hK => ?_)
              refine goes_ Try.func70 (by kernel_rfl) rfl #[.slice A0 l0.length c0] (by rfl) rfl rfl (by (try simp only [List.map_toArray, List.map_cons, List.map_nil]); first | done | rfl | (simp only [List.length_drop, List.length_take]; rfl)) ?_
              with_reducible refine (spec_ClassesOk.calls k _ _ l0 true _ ?side1 ?side2 A6.out).mono ?_
              (case side1 => repeat (first | exact (Kd.C_below HR0.out HB.out) | (with_reducible refine Kd.C_alloc ?_ _) | (with_reducible refine Kd.C_drewN ?_ _) | (with_reducible refine Kd.C_drew ?_)))
              (case side2 => exact HC0.out)
              rintro e w18 ⟨rfl, hb⟩
              refine ⟨_, rfl, ?_⟩
              have n0_ := Aside0.mk (blk_below (g := gb150) (o := .cells #[.slice A1_0 l1_0.length c1_0, .int .i64 a1_1, .int .i64 a1_2, .int .i64 a1_3, .slice A1_4 l1_4.length c1_4] 28 (0, 0)) (by (with_reducible repeat (first | refine blk_drewN ?_ _ | refine blk_drew ?_ | refine blk_alloc ?_ _)); exact BK150.out) hb)
              have n1_ := Aside0.mk (below_step (by repeat (first | (with_reducible first | exact HB.out | apply below_alloc | apply pw_below_drewN | apply below_drew1 | refine below_set ?_ GE150.out) | exact HB.out)) hb)
              clear BK150
              clear HB
              have BK150 := n0_
              have HB := n1_
              clear n0_ n1_
              (try clear hb)
              (try clear hb2)
              (try clear hk)
              (try clear hi)
              refine hK.out _ _ ⟨(blk_cell BK150.out 0).trans rfl, (blk_cell BK150.out 1).trans rfl, (blk_cell BK150.out 2).trans rfl, (blk_cell BK150.out 3).trans rfl, (blk_cell BK150.out 4).trans rfl⟩ (fun hHeld => ?_)
              clear hK K
              refine norm_ (a' := ?_) ?_ ?_
              rotate_left
              · show Act.put _ (some 11) _ = _
                simp only [Act.put, lA1, lA2, lA3, i64_w, i32_w]
                rfl
              refine pS 2 12 (lA 45 7) ?_ (hc := (any_of HT_.out (by kernel_rfl)))
              refine pS 3 13 (lA 45 15) ?_ (hc := (any_of HT_.out (by kernel_rfl)))
              refine pS 4 14 (lA 45 31) ?_ (hc := (any_of HT_.out (by kernel_rfl)))
              refine tS 5 15 (lA 45 63) rfl rfl (take_ofW HT_.out HW_.out (by kernel_rfl)) hHeld (by rintro w' ⟨s0, s1, s2, s3, s4⟩; go_simp; with_reducible rfl) ?_
              refine one_ (i := 6) (N := some 16) (lA 45 127) rfl rfl (one_of HT_.out (by kernel_rfl)) (by decide) (fun K hK => ?_)
              refine goes_ Try.func37 (by kernel_rfl) rfl #[.int .i64 a1_1, .int .i64 0, .int .i64 40] (by rfl) rfl rfl (by (try simp only [List.map_toArray, List.map_cons, List.map_nil]); first | done | rfl | (simp only [List.length_drop, List.length_take]; rfl)) ?_
              with_reducible refine (spec_l6In.calls a1_1 0 40 true _ A8.out).mono ?_
              rintro e w' ⟨rfl, ⟨nd, rfl⟩⟩
              refine ⟨_, rfl, ?_⟩
              refine hK.out _ _ ⟨(blk_cell BK150.out 0).trans rfl, (blk_cell BK150.out 1).trans rfl, (blk_cell BK150.out 2).trans rfl, (blk_cell BK150.out 3).trans rfl, (blk_cell BK150.out 4).trans rfl⟩ (fun hHeld => ?_)
              clear hK K
              refine norm_ (a' := ?_) ?_ ?_
              rotate_left
              · show Act.put _ (some 16) _ = _
                simp only [Act.put, lA1, lA2, lA3, i64_w, i32_w]
                rfl
              refine pS 7 17 (lA 45 255) ?_ (hc := (any_of HT_.out (by kernel_rfl)))
              refine pS 8 18 (lA 45 511) ?_ (hc := (any_of HT_.out (by kernel_rfl)))
              refine pS 9 19 (lA 45 1023) ?_ (hc := (any_of HT_.out (by kernel_rfl)))
              refine pS 10 20 (lA 45 2047) ?_ (hc := (any_of HT_.out (by kernel_rfl)))
              refine pS 11 21 (lA 45 4095) ?_ (hc := (any_of HT_.out (by kernel_rfl)))
              refine tS 12 22 (lA 45 8191) rfl rfl (take_ofW HT_.out HW_.out (by kernel_rfl)) hHeld (by rintro w' ⟨s0, s1, s2, s3, s4⟩; go_simp; with_reducible rfl) ?_
              refine pS 13 23 (lA 45 16383) ?_ (hc := (any_of HT_.out (by kernel_rfl)))
              refine one_ (i := 14) (N := some 24) (lA 45 32767) rfl rfl (one_of HT_.out (by kernel_rfl)) (by decide) (fun K hK => ?_)
              refine goes_ Try.func37 (by kernel_rfl) rfl #[.int .i64 (wrap64 ((l1_0.length : Int) - a1_1)), .int .i64 14, .int .i64 120] (by rfl) rfl rfl (by (try simp only [List.map_toArray, List.map_cons, List.map_nil]); first | done | rfl | (simp only [List.length_drop, List.length_take]; rfl)) ?_
              with_reducible refine (spec_l6In.calls (wrap64 ((l1_0.length : Int) - a1_1)) 14 120 true _ A10.out).mono ?_
              rintro e w' ⟨rfl, ⟨nd, rfl⟩⟩
              refine ⟨_, rfl, ?_⟩
              refine hK.out _ _ ⟨(blk_cell BK150.out 0).trans rfl, (blk_cell BK150.out 1).trans rfl, (blk_cell BK150.out 2).trans rfl, (blk_cell BK150.out 3).trans rfl, (blk_cell BK150.out 4).trans rfl⟩ (fun hHeld => ?_)
              clear hK K
              refine norm_ (a' := ?_) ?_ ?_
              rotate_left
              · show Act.put _ (some 24) _ = _
                simp only [Act.put, lA1, lA2, lA3, i64_w, i32_w]
                rfl
              refine pS 15 25 (lA 45 65535) ?_ (hc := (any_of HT_.out (by kernel_rfl)))
              refine pS 16 26 (lA 45 131071) ?_ (hc := (any_of HT_.out (by kernel_rfl)))
              refine pS 17 27 (lA 45 262143) ?_ (hc := (any_of HT_.out (by kernel_rfl)))
              refine pS 18 28 (lA 45 524287) ?_ (hc := (any_of HT_.out (by kernel_rfl)))
              refine pS 20 30 (lA 45 1572863) ?_ (hc := (any_of HT_.out (by kernel_rfl)))
              refine tS 19 29 (lA 45 2097151) rfl rfl (take_ofW HT_.out HW_.out (by kernel_rfl)) hHeld (by rintro w' ⟨s0, s1, s2, s3, s4⟩; go_simp; with_reducible rfl) ?_
              refine tS 21 31 (lA 45 4194303) rfl rfl (take_ofW HT_.out HW_.out (by kernel_rfl)) hHeld (by rintro w' ⟨s0, s1, s2, s3, s4⟩; go_simp; with_reducible rfl) ?_
              refine one_ (i := 22) (N := some 32) (lA 45 8388607) rfl rfl (one_of HT_.out (by kernel_rfl)) (by decide) (fun K hK => ?_)
              refine goes_ Try.func37 (by kernel_rfl) rfl #[.int .i64 a1_2, .int .i64 0, .int .i64 a1_1] (by rfl) rfl rfl (by (try simp only [List.map_toArray, List.map_cons, List.map_nil]); first | done | rfl | (simp only [List.length_drop, List.length_take]; rfl)) ?_
              with_reducible refine (spec_l6In.calls a1_2 0 a1_1 true _ A12.out).mono ?_
              rintro e w' ⟨rfl, ⟨nd, rfl⟩⟩
              refine ⟨_, rfl, ?_⟩
              refine hK.out _ _ ⟨(blk_cell BK150.out 0).trans rfl, (blk_cell BK150.out 1).trans rfl, (blk_cell BK150.out 2).trans rfl, (blk_cell BK150.out 3).trans rfl, (blk_cell BK150.out 4).trans rfl⟩ (fun hHeld => ?_)
              clear hK K
              refine norm_ (a' := ?_) ?_ ?_
              rotate_left
              · show Act.put _ (some 32) _ = _
                simp only [Act.put, lA1, lA2, lA3, i64_w, i32_w]
                rfl
              refine pS 23 33 (lA 45 16777215) ?_ (hc := (any_of HT_.out (by kernel_rfl)))
              refine pS 24 34 (lA 45 33554431) ?_ (hc := (any_of HT_.out (by kernel_rfl)))
              refine pS 25 35 (lA 45 67108863) ?_ (hc := (any_of HT_.out (by kernel_rfl)))
              refine pS 26 36 (lA 45 134217727) ?_ (hc := (any_of HT_.out (by kernel_rfl)))
              refine pS 28 38 (lA 45 402653183) ?_ (hc := (any_of HT_.out (by kernel_rfl)))
              refine pS 30 40 (lA 45 1476395007) ?_ (hc := (any_of HT_.out (by kernel_rfl)))
              refine tS 27 37 (lA 45 1610612735) rfl rfl (take_ofW HT_.out HW_.out (by kernel_rfl)) hHeld (by rintro w' ⟨s0, s1, s2, s3, s4⟩; go_simp; with_reducible rfl) ?_
              refine tS 29 39 (lA 45 2147483647) rfl rfl (take_ofW HT_.out HW_.out (by kernel_rfl)) hHeld (by rintro w' ⟨s0, s1, s2, s3, s4⟩; go_simp; with_reducible rfl) ?_
              refine one_ (i := 31) (N := some 41) (lA 45 4294967295) rfl rfl (one_of HT_.out (by kernel_rfl)) (by decide) (fun K hK => ?_)
              refine goes_ Try.func37 (by kernel_rfl) rfl #[.int .i64 a1_3, .int .i64 a1_1, .int .i64 (l1_0.length : Int)] (by rfl) rfl rfl (by (try simp only [List.map_toArray, List.map_cons, List.map_nil]); first | done | rfl | (simp only [List.length_drop, List.length_take]; rfl)) ?_
              with_reducible refine (spec_l6In.calls a1_3 a1_1 (l1_0.length : Int) true _ A14.out).mono ?_
              rintro e w' ⟨rfl, ⟨nd, rfl⟩⟩
              refine ⟨_, rfl, ?_⟩
              refine hK.out _ _ ⟨(blk_cell BK150.out 0).trans rfl, (blk_cell BK150.out 1).trans rfl, (blk_cell BK150.out 2).trans rfl, (blk_cell BK150.out 3).trans rfl, (blk_cell BK150.out 4).trans rfl⟩ (fun hHeld => ?_)
              clear hK K
              refine norm_ (a' := ?_) ?_ ?_
              rotate_left
              · show Act.put _ (some 41) _ = _
                simp only [Act.put, lA1, lA2, lA3, i64_w, i32_w]
                rfl
              refine pS 32 42 (lA 45 8589934591) ?_ (hc := (any_of HT_.out (by kernel_rfl)))
              refine pS 33 43 (lA 45 17179869183) ?_ (hc := (any_of HT_.out (by kernel_rfl)))
              refine pS 34 44 (lA 45 34359738367) ?_ (hc := (any_of HT_.out (by kernel_rfl)))
              refine pS 35 45 (lA 45 68719476735) ?_ (hc := (any_of HT_.out (by kernel_rfl)))
              refine pS 38 48 (lA 45 343597383679) ?_ (hc := (any_of HT_.out (by kernel_rfl)))
              refine pS 39 49 (lA 45 893353197567) ?_ (hc := (any_of HT_.out (by kernel_rfl)))
              refine tS 36 46 (lA 45 962072674303) rfl rfl (take_ofW HT_.out HW_.out (by kernel_rfl)) hHeld (by rintro w' ⟨s0, s1, s2, s3, s4⟩; go_simp; with_reducible rfl) ?_
              refine pS 37 47 (lA 45 1099511627775) ?_ (hc := (any_of HT_.out (by kernel_rfl)))
              refine tS 40 50 (lA 45 2199023255551) rfl rfl (take_ofW HT_.out HW_.out (by kernel_rfl)) hHeld (by rintro w' ⟨s0, s1, s2, s3, s4⟩; go_simp; with_reducible rfl) ?_
              refine pS 41 51 (lA 45 4398046511103) ?_ (hc := (any_of HT_.out (by kernel_rfl)))
              refine one_ (i := 42) (N := some 52) (lA 45 8796093022207) rfl rfl (one_of HT_.out (by kernel_rfl)) (by decide) (fun K hK => ?_)
              refine goes_ Try.func38 (by kernel_rfl) rfl #[.int .i64 (wrap64 ((l1_0.length : Int) - a1_1))] (by rfl) rfl rfl (by (try simp only [List.map_toArray, List.map_cons, List.map_nil]); first | done | rfl | (simp only [List.length_drop, List.length_take]; rfl)) ?_
              with_reducible refine (spec_l21Cards.calls (wrap64 ((l1_0.length : Int) - a1_1)) t156 _ A16.out).mono ?_
              rintro e w' ⟨rfl, ⟨nd, rfl⟩⟩
              refine ⟨_, rfl, ?_⟩
              refine hK.out _ _ ⟨(blk_cell BK150.out 0).trans rfl, (blk_cell BK150.out 1).trans rfl, (blk_cell BK150.out 2).trans rfl, (blk_cell BK150.out 3).trans rfl, (blk_cell BK150.out 4).trans rfl⟩ (fun hHeld => ?_)
              clear hK K
              refine norm_ (a' := ?_) ?_ ?_
              rotate_left
              · show Act.put _ (some 52) _ = _
                simp only [Act.put, lA1, lA2, lA3, i64_w, i32_w]
                rfl
              refine pS 43 53 (lA 45 17592186044415) ?_ (hc := (any_of HT_.out (by kernel_rfl)))
              refine pS 44 54 (lA 45 35184372088831) ?_ (hc := (any_of HT_.out (by kernel_rfl)))
              refine done_ (done_of HT_.out (by kernel_rfl)) ?_
              try go_wp2
              go_meet
              case rel => exact ⟨_, (((l1_4.length : Int) != t156)), (by first | rfl | (simp; done) | (simp [*]; done)), H', ⟨by first | omega | exact Nat.le_refl _⟩, ⟨by (with_reducible repeat (first | refine blk_drewN ?_ _ | refine blk_drew ?_ | refine blk_alloc ?_ _)); exact BK150.out⟩, ⟨by repeat (first | (with_reducible first | exact HB.out | apply below_alloc | apply pw_below_drewN | apply below_drew1 | refine below_set ?_ GE150.out) | exact HB.out)⟩⟩
            · replace c15 := Bool.eq_false_iff.mpr c15
              subst c15
              have H1 : (spec_l21Bounds.j0 k (l1_0.length : Int) true l1_0 a1_1 a1_2 a1_3 l1_4) = some r := by rw [if_neg (show ¬ (false = true) by decide)] at H; exact H
              clear H
              have H := H1
              clear H1
              have H' := Aside0.mk H
              clear H
              try go_wp2
              have n0_ := Aside0.mk (blk_drew BK150.out)
              have n1_ := Aside0.mk (below_drew1 HB.out)
              clear BK150
              clear HB
              have BK150 := n0_
              have HB := n1_
              clear n0_ n1_
              refine start_ (n := 45) (S := fun w' => w'.cell? ⟨gb150, 0, none⟩ = some (.slice A1_0 l1_0.length c1_0) ∧ w'.cell? ⟨gb150, 1, none⟩ = some (.int .i64 a1_1) ∧ w'.cell? ⟨gb150, 2, none⟩ = some (.int .i64 a1_2) ∧ w'.cell? ⟨gb150, 3, none⟩ = some (.int .i64 a1_3) ∧ w'.cell? ⟨gb150, 4, none⟩ = some (.slice A1_4 l1_4.length c1_4)) (ds := []) #[false, false, false, false, false, false, false, false, false, false, false, false, false, false, false, false, false, false, false, false, false, false, false, false, false, false, false, false, false, false, false, false, false, false, false, false, false, false, false, false, false, false, false, false, false] (by kernel_rfl) rfl rfl ⟨(blk_cell BK150.out 0).trans rfl, (blk_cell BK150.out 1).trans rfl, (blk_cell BK150.out 2).trans rfl, (blk_cell BK150.out 3).trans rfl, (blk_cell BK150.out 4).trans rfl⟩ (fun hHeld => ?_); refine with_tabW spec_l21Bounds.tab2 spec_l21Bounds.bits2 (fun HT_ HW_ => ?_)
              generalize w4.drew = w19 at BK150 HB hHeld ⊢
              refine pS 0 10 (lA 45 1) ?_ (hc := (any_of HT_.out (by kernel_rfl)))
              refine one_ (i := 1) (N := some 11) (lA 45 3) rfl rfl (one_of HT_.out (by kernel_rfl)) (by decide) (fun K hK => ?_)
              refine goes_ Try.func70 (by kernel_rfl) rfl #[.slice A0 l0.length c0] (by rfl) rfl rfl (by (try simp only [List.map_toArray, List.map_cons, List.map_nil]); first | done | rfl | (simp only [List.length_drop, List.length_take]; rfl)) ?_
              with_reducible refine (spec_ClassesOk.calls k _ _ l0 true _ ?side1 ?side2 A6.out).mono ?_
              (case side1 => repeat (first | exact (Kd.C_below HR0.out HB.out) | (with_reducible refine Kd.C_alloc ?_ _) | (with_reducible refine Kd.C_drewN ?_ _) | (with_reducible refine Kd.C_drew ?_)))
              (case side2 => exact HC0.out)
              rintro e w20 ⟨rfl, hb⟩
              refine ⟨_, rfl, ?_⟩
              have n0_ := Aside0.mk (blk_below (g := gb150) (o := .cells #[.slice A1_0 l1_0.length c1_0, .int .i64 a1_1, .int .i64 a1_2, .int .i64 a1_3, .slice A1_4 l1_4.length c1_4] 28 (0, 0)) (by (with_reducible repeat (first | refine blk_drewN ?_ _ | refine blk_drew ?_ | refine blk_alloc ?_ _)); exact BK150.out) hb)
              have n1_ := Aside0.mk (below_step (by repeat (first | (with_reducible first | exact HB.out | apply below_alloc | apply pw_below_drewN | apply below_drew1 | refine below_set ?_ GE150.out) | exact HB.out)) hb)
              clear BK150
              clear HB
              have BK150 := n0_
              have HB := n1_
              clear n0_ n1_
              (try clear hb)
              (try clear hb2)
              (try clear hk)
              (try clear hi)
              refine hK.out _ _ ⟨(blk_cell BK150.out 0).trans rfl, (blk_cell BK150.out 1).trans rfl, (blk_cell BK150.out 2).trans rfl, (blk_cell BK150.out 3).trans rfl, (blk_cell BK150.out 4).trans rfl⟩ (fun hHeld => ?_)
              clear hK K
              refine norm_ (a' := ?_) ?_ ?_
              rotate_left
              · show Act.put _ (some 11) _ = _
                simp only [Act.put, lA1, lA2, lA3, i64_w, i32_w]
                rfl
              refine pS 2 12 (lA 45 7) ?_ (hc := (any_of HT_.out (by kernel_rfl)))
              refine pS 3 13 (lA 45 15) ?_ (hc := (any_of HT_.out (by kernel_rfl)))
              refine pS 4 14 (lA 45 31) ?_ (hc := (any_of HT_.out (by kernel_rfl)))
              refine tS 5 15 (lA 45 63) rfl rfl (take_ofW HT_.out HW_.out (by kernel_rfl)) hHeld (by rintro w' ⟨s0, s1, s2, s3, s4⟩; go_simp; with_reducible rfl) ?_
              refine one_ (i := 6) (N := some 16) (lA 45 127) rfl rfl (one_of HT_.out (by kernel_rfl)) (by decide) (fun K hK => ?_)
              refine goes_ Try.func37 (by kernel_rfl) rfl #[.int .i64 a1_1, .int .i64 0, .int .i64 40] (by rfl) rfl rfl (by (try simp only [List.map_toArray, List.map_cons, List.map_nil]); first | done | rfl | (simp only [List.length_drop, List.length_take]; rfl)) ?_
              with_reducible refine (spec_l6In.calls a1_1 0 40 true _ A8.out).mono ?_
              rintro e w' ⟨rfl, ⟨nd, rfl⟩⟩
              refine ⟨_, rfl, ?_⟩
              refine hK.out _ _ ⟨(blk_cell BK150.out 0).trans rfl, (blk_cell BK150.out 1).trans rfl, (blk_cell BK150.out 2).trans rfl, (blk_cell BK150.out 3).trans rfl, (blk_cell BK150.out 4).trans rfl⟩ (fun hHeld => ?_)
              clear hK K
              refine norm_ (a' := ?_) ?_ ?_
              rotate_left
              · show Act.put _ (some 16) _ = _
                simp only [Act.put, lA1, lA2, lA3, i64_w, i32_w]
                rfl
              refine pS 7 17 (lA 45 255) ?_ (hc := (any_of HT_.out (by kernel_rfl)))
              refine pS 8 18 (lA 45 511) ?_ (hc := (any_of HT_.out (by kernel_rfl)))
              refine pS 9 19 (lA 45 1023) ?_ (hc := (any_of HT_.out (by kernel_rfl)))
              refine pS 10 20 (lA 45 2047) ?_ (hc := (any_of HT_.out (by kernel_rfl)))
              refine pS 11 21 (lA 45 4095) ?_ (hc := (any_of HT_.out (by kernel_rfl)))
              refine tS 12 22 (lA 45 8191) rfl rfl (take_ofW HT_.out HW_.out (by kernel_rfl)) hHeld (by rintro w' ⟨s0, s1, s2, s3, s4⟩; go_simp; with_reducible rfl) ?_
              refine pS 13 23 (lA 45 16383) ?_ (hc := (any_of HT_.out (by kernel_rfl)))
              refine one_ (i := 14) (N := some 24) (lA 45 32767) rfl rfl (one_of HT_.out (by kernel_rfl)) (by decide) (fun K hK => ?_)
              refine goes_ Try.func37 (by kernel_rfl) rfl #[.int .i64 (wrap64 ((l1_0.length : Int) - a1_1)), .int .i64 14, .int .i64 120] (by rfl) rfl rfl (by (try simp only [List.map_toArray, List.map_cons, List.map_nil]); first | done | rfl | (simp only [List.length_drop, List.length_take]; rfl)) ?_
              with_reducible refine (spec_l6In.calls (wrap64 ((l1_0.length : Int) - a1_1)) 14 120 true _ A10.out).mono ?_
              rintro e w' ⟨rfl, ⟨nd, rfl⟩⟩
              refine ⟨_, rfl, ?_⟩
              refine hK.out _ _ ⟨(blk_cell BK150.out 0).trans rfl, (blk_cell BK150.out 1).trans rfl, (blk_cell BK150.out 2).trans rfl, (blk_cell BK150.out 3).trans rfl, (blk_cell BK150.out 4).trans rfl⟩ (fun hHeld => ?_)
              clear hK K
              refine norm_ (a' := ?_) ?_ ?_
              rotate_left
              · show Act.put _ (some 24) _ = _
                simp only [Act.put, lA1, lA2, lA3, i64_w, i32_w]
                rfl
              refine pS 15 25 (lA 45 65535) ?_ (hc := (any_of HT_.out (by kernel_rfl)))
              refine pS 16 26 (lA 45 131071) ?_ (hc := (any_of HT_.out (by kernel_rfl)))
              refine pS 17 27 (lA 45 262143) ?_ (hc := (any_of HT_.out (by kernel_rfl)))
              refine pS 18 28 (lA 45 524287) ?_ (hc := (any_of HT_.out (by kernel_rfl)))
              refine pS 20 30 (lA 45 1572863) ?_ (hc := (any_of HT_.out (by kernel_rfl)))
              refine tS 19 29 (lA 45 2097151) rfl rfl (take_ofW HT_.out HW_.out (by kernel_rfl)) hHeld (by rintro w' ⟨s0, s1, s2, s3, s4⟩; go_simp; with_reducible rfl) ?_
              refine tS 21 31 (lA 45 4194303) rfl rfl (take_ofW HT_.out HW_.out (by kernel_rfl)) hHeld (by rintro w' ⟨s0, s1, s2, s3, s4⟩; go_simp; with_reducible rfl) ?_
              refine one_ (i := 22) (N := some 32) (lA 45 8388607) rfl rfl (one_of HT_.out (by kernel_rfl)) (by decide) (fun K hK => ?_)
              refine goes_ Try.func37 (by kernel_rfl) rfl #[.int .i64 a1_2, .int .i64 0, .int .i64 a1_1] (by rfl) rfl rfl (by (try simp only [List.map_toArray, List.map_cons, List.map_nil]); first | done | rfl | (simp only [List.length_drop, List.length_take]; rfl)) ?_
              with_reducible refine (spec_l6In.calls a1_2 0 a1_1 true _ A12.out).mono ?_
              rintro e w' ⟨rfl, ⟨nd, rfl⟩⟩
              refine ⟨_, rfl, ?_⟩
              refine hK.out _ _ ⟨(blk_cell BK150.out 0).trans rfl, (blk_cell BK150.out 1).trans rfl, (blk_cell BK150.out 2).trans rfl, (blk_cell BK150.out 3).trans rfl, (blk_cell BK150.out 4).trans rfl⟩ (fun hHeld => ?_)
              clear hK K
              refine norm_ (a' := ?_) ?_ ?_
              rotate_left
              · show Act.put _ (some 32) _ = _
                simp only [Act.put, lA1, lA2, lA3, i64_w, i32_w]
                rfl
              refine pS 23 33 (lA 45 16777215) ?_ (hc := (any_of HT_.out (by kernel_rfl)))
              refine pS 24 34 (lA 45 33554431) ?_ (hc := (any_of HT_.out (by kernel_rfl)))
              refine pS 25 35 (lA 45 67108863) ?_ (hc := (any_of HT_.out (by kernel_rfl)))
              refine pS 26 36 (lA 45 134217727) ?_ (hc := (any_of HT_.out (by kernel_rfl)))
              refine pS 28 38 (lA 45 402653183) ?_ (hc := (any_of HT_.out (by kernel_rfl)))
              refine pS 30 40 (lA 45 1476395007) ?_ (hc := (any_of HT_.out (by kernel_rfl)))
              refine tS 27 37 (lA 45 1610612735) rfl rfl (take_ofW HT_.out HW_.out (by kernel_rfl)) hHeld (by rintro w' ⟨s0, s1, s2, s3, s4⟩; go_simp; with_reducible rfl) ?_
              refine tS 29 39 (lA 45 2147483647) rfl rfl (take_ofW HT_.out HW_.out (by kernel_rfl)) hHeld (by rintro w' ⟨s0, s1, s2, s3, s4⟩; go_simp; with_reducible rfl) ?_
              refine one_ (i := 31) (N := some 41) (lA 45 4294967295) rfl rfl (one_of HT_.out (by kernel_rfl)) (by decide) (fun K hK => ?_)
              refine goes_ Try.func37 (by kernel_rfl) rfl #[.int .i64 a1_3, .int .i64 a1_1, .int .i64 (l1_0.length : Int)] (by rfl) rfl rfl (by (try simp only [List.map_toArray, List.map_cons, List.map_nil]); first | done | rfl | (simp only [List.length_drop, List.length_take]; rfl)) ?_
              with_reducible refine (spec_l6In.calls a1_3 a1_1 (l1_0.length : Int) false _ A14.out).mono ?_
              rintro e w' ⟨rfl, ⟨nd, rfl⟩⟩
              refine ⟨_, rfl, ?_⟩
              refine hK.out _ _ ⟨(blk_cell BK150.out 0).trans rfl, (blk_cell BK150.out 1).trans rfl, (blk_cell BK150.out 2).trans rfl, (blk_cell BK150.out 3).trans rfl, (blk_cell BK150.out 4).trans rfl⟩ (fun hHeld => ?_)
              clear hK K
              refine norm_ (a' := ?_) ?_ ?_
              rotate_left
              · show Act.put _ (some 41) _ = _
                simp only [Act.put, lA1, lA2, lA3, i64_w, i32_w]
                rfl
              refine pS 32 42 (lA 45 8589934591) ?_ (hc := (any_of HT_.out (by kernel_rfl)))
              refine pS 33 43 (lA 45 17179869183) ?_ (hc := (any_of HT_.out (by kernel_rfl)))
              refine pS 34 44 (lA 45 34359738367) ?_ (hc := (any_of HT_.out (by kernel_rfl)))
              refine pU 35 45 (lA 45 68719476735) ?_ (hc := (any_of HT_.out (by kernel_rfl)))
              refine pU 36 46 (lA 45 137438953471) ?_ (hc := (any_of HT_.out (by kernel_rfl)))
              refine pU 37 47 (lA 45 274877906943) ?_ (hc := (any_of HT_.out (by kernel_rfl)))
              refine pU 38 48 (lA 45 549755813887) ?_ (hc := (any_of HT_.out (by kernel_rfl)))
              refine pU 39 49 (lA 45 1099511627775) ?_ (hc := (any_of HT_.out (by kernel_rfl)))
              refine pU 40 50 (lA 45 2199023255551) ?_ (hc := (any_of HT_.out (by kernel_rfl)))
              refine pU 41 51 (lA 45 4398046511103) ?_ (hc := (any_of HT_.out (by kernel_rfl)))
              refine pU 42 52 (lA 45 8796093022207) ?_ (hc := (any_of HT_.out (by kernel_rfl)))
              refine pU 43 53 (lA 45 17592186044415) ?_ (hc := (any_of HT_.out (by kernel_rfl)))
              refine pS 44 54 (lA 45 35184372088831) ?_ (hc := (any_of HT_.out (by kernel_rfl)))
              refine done_ (done_of HT_.out (by kernel_rfl)) ?_
              try go_wp2
              go_meet
              case rel => exact ⟨_, (true), (by first | rfl | (simp; done) | (simp [*]; done)), H', ⟨by first | omega | exact Nat.le_refl _⟩, ⟨by (with_reducible repeat (first | refine blk_drewN ?_ _ | refine blk_drew ?_ | refine blk_alloc ?_ _)); exact BK150.out⟩, ⟨by repeat (first | (with_reducible first | exact HB.out | apply below_alloc | apply pw_below_drewN | apply below_drew1 | refine below_set ?_ GE150.out) | exact HB.out)⟩⟩
          · replace c13 := Bool.eq_false_iff.mpr c13
            subst c13
            have H1 : (spec_l21Bounds.j0 k (l1_0.length : Int) true l1_0 a1_1 a1_2 a1_3 l1_4) = some r := by rw [if_neg (show ¬ (false = true) by decide)] at H; exact H
            clear H
            have H := H1
            clear H1
            have H' := Aside0.mk H
            clear H
            try go_wp2
            have n0_ := Aside0.mk (blk_drew BK150.out)
            have n1_ := Aside0.mk (below_drew1 HB.out)
            clear BK150
            clear HB
            have BK150 := n0_
            have HB := n1_
            clear n0_ n1_
            refine start_ (n := 45) (S := fun w' => w'.cell? ⟨gb150, 0, none⟩ = some (.slice A1_0 l1_0.length c1_0) ∧ w'.cell? ⟨gb150, 1, none⟩ = some (.int .i64 a1_1) ∧ w'.cell? ⟨gb150, 2, none⟩ = some (.int .i64 a1_2) ∧ w'.cell? ⟨gb150, 3, none⟩ = some (.int .i64 a1_3) ∧ w'.cell? ⟨gb150, 4, none⟩ = some (.slice A1_4 l1_4.length c1_4)) (ds := []) #[false, false, false, false, false, false, false, false, false, false, false, false, false, false, false, false, false, false, false, false, false, false, false, false, false, false, false, false, false, false, false, false, false, false, false, false, false, false, false, false, false, false, false, false, false] (by kernel_rfl) rfl rfl ⟨(blk_cell BK150.out 0).trans rfl, (blk_cell BK150.out 1).trans rfl, (blk_cell BK150.out 2).trans rfl, (blk_cell BK150.out 3).trans rfl, (blk_cell BK150.out 4).trans rfl⟩ (fun hHeld => ?_); refine with_tabW spec_l21Bounds.tab2 spec_l21Bounds.bits2 (fun HT_ HW_ => ?_)
            generalize w4.drew = w21 at BK150 HB hHeld ⊢
            refine pS 0 10 (lA 45 1) ?_ (hc := (any_of HT_.out (by kernel_rfl)))
            refine one_ (i := 1) (N := some 11) (lA 45 3) rfl rfl (one_of HT_.out (by kernel_rfl)) (by decide) (fun K hK => ?_)
            refine goes_ Try.func70 (by kernel_rfl) rfl #[.slice A0 l0.length c0] (by rfl) rfl rfl (by (try simp only [List.map_toArray, List.map_cons, List.map_nil]); first | done | rfl | (simp only [List.length_drop, List.length_take]; rfl)) ?_
            with_reducible refine (spec_ClassesOk.calls k _ _ l0 true _ ?side1 ?side2 A6.out).mono ?_
            (case side1 => repeat (first | exact (Kd.C_below HR0.out HB.out) | (with_reducible refine Kd.C_alloc ?_ _) | (with_reducible refine Kd.C_drewN ?_ _) | (with_reducible refine Kd.C_drew ?_)))
            (case side2 => exact HC0.out)
            rintro e w22 ⟨rfl, hb⟩
            refine ⟨_, rfl, ?_⟩
            have n0_ := Aside0.mk (blk_below (g := gb150) (o := .cells #[.slice A1_0 l1_0.length c1_0, .int .i64 a1_1, .int .i64 a1_2, .int .i64 a1_3, .slice A1_4 l1_4.length c1_4] 28 (0, 0)) (by (with_reducible repeat (first | refine blk_drewN ?_ _ | refine blk_drew ?_ | refine blk_alloc ?_ _)); exact BK150.out) hb)
            have n1_ := Aside0.mk (below_step (by repeat (first | (with_reducible first | exact HB.out | apply below_alloc | apply pw_below_drewN | apply below_drew1 | refine below_set ?_ GE150.out) | exact HB.out)) hb)
            clear BK150
            clear HB
            have BK150 := n0_
            have HB := n1_
            clear n0_ n1_
            (try clear hb)
            (try clear hb2)
            (try clear hk)
            (try clear hi)
            refine hK.out _ _ ⟨(blk_cell BK150.out 0).trans rfl, (blk_cell BK150.out 1).trans rfl, (blk_cell BK150.out 2).trans rfl, (blk_cell BK150.out 3).trans rfl, (blk_cell BK150.out 4).trans rfl⟩ (fun hHeld => ?_)
            clear hK K
            refine norm_ (a' := ?_) ?_ ?_
            rotate_left
            · show Act.put _ (some 11) _ = _
              simp only [Act.put, lA1, lA2, lA3, i64_w, i32_w]
              rfl
            refine pS 2 12 (lA 45 7) ?_ (hc := (any_of HT_.out (by kernel_rfl)))
            refine pS 3 13 (lA 45 15) ?_ (hc := (any_of HT_.out (by kernel_rfl)))
            refine pS 4 14 (lA 45 31) ?_ (hc := (any_of HT_.out (by kernel_rfl)))
            refine tS 5 15 (lA 45 63) rfl rfl (take_ofW HT_.out HW_.out (by kernel_rfl)) hHeld (by rintro w' ⟨s0, s1, s2, s3, s4⟩; go_simp; with_reducible rfl) ?_
            refine one_ (i := 6) (N := some 16) (lA 45 127) rfl rfl (one_of HT_.out (by kernel_rfl)) (by decide) (fun K hK => ?_)
            refine goes_ Try.func37 (by kernel_rfl) rfl #[.int .i64 a1_1, .int .i64 0, .int .i64 40] (by rfl) rfl rfl (by (try simp only [List.map_toArray, List.map_cons, List.map_nil]); first | done | rfl | (simp only [List.length_drop, List.length_take]; rfl)) ?_
            with_reducible refine (spec_l6In.calls a1_1 0 40 true _ A8.out).mono ?_
            rintro e w' ⟨rfl, ⟨nd, rfl⟩⟩
            refine ⟨_, rfl, ?_⟩
            refine hK.out _ _ ⟨(blk_cell BK150.out 0).trans rfl, (blk_cell BK150.out 1).trans rfl, (blk_cell BK150.out 2).trans rfl, (blk_cell BK150.out 3).trans rfl, (blk_cell BK150.out 4).trans rfl⟩ (fun hHeld => ?_)
            clear hK K
            refine norm_ (a' := ?_) ?_ ?_
            rotate_left
            · show Act.put _ (some 16) _ = _
              simp only [Act.put, lA1, lA2, lA3, i64_w, i32_w]
              rfl
            refine pS 7 17 (lA 45 255) ?_ (hc := (any_of HT_.out (by kernel_rfl)))
            refine pS 8 18 (lA 45 511) ?_ (hc := (any_of HT_.out (by kernel_rfl)))
            refine pS 9 19 (lA 45 1023) ?_ (hc := (any_of HT_.out (by kernel_rfl)))
            refine pS 10 20 (lA 45 2047) ?_ (hc := (any_of HT_.out (by kernel_rfl)))
            refine pS 11 21 (lA 45 4095) ?_ (hc := (any_of HT_.out (by kernel_rfl)))
            refine tS 12 22 (lA 45 8191) rfl rfl (take_ofW HT_.out HW_.out (by kernel_rfl)) hHeld (by rintro w' ⟨s0, s1, s2, s3, s4⟩; go_simp; with_reducible rfl) ?_
            refine pS 13 23 (lA 45 16383) ?_ (hc := (any_of HT_.out (by kernel_rfl)))
            refine one_ (i := 14) (N := some 24) (lA 45 32767) rfl rfl (one_of HT_.out (by kernel_rfl)) (by decide) (fun K hK => ?_)
            refine goes_ Try.func37 (by kernel_rfl) rfl #[.int .i64 (wrap64 ((l1_0.length : Int) - a1_1)), .int .i64 14, .int .i64 120] (by rfl) rfl rfl (by (try simp only [List.map_toArray, List.map_cons, List.map_nil]); first | done | rfl | (simp only [List.length_drop, List.length_take]; rfl)) ?_
            with_reducible refine (spec_l6In.calls (wrap64 ((l1_0.length : Int) - a1_1)) 14 120 true _ A10.out).mono ?_
            rintro e w' ⟨rfl, ⟨nd, rfl⟩⟩
            refine ⟨_, rfl, ?_⟩
            refine hK.out _ _ ⟨(blk_cell BK150.out 0).trans rfl, (blk_cell BK150.out 1).trans rfl, (blk_cell BK150.out 2).trans rfl, (blk_cell BK150.out 3).trans rfl, (blk_cell BK150.out 4).trans rfl⟩ (fun hHeld => ?_)
            clear hK K
            refine norm_ (a' := ?_) ?_ ?_
            rotate_left
            · show Act.put _ (some 24) _ = _
              simp only [Act.put, lA1, lA2, lA3, i64_w, i32_w]
              rfl
            refine pS 15 25 (lA 45 65535) ?_ (hc := (any_of HT_.out (by kernel_rfl)))
            refine pS 16 26 (lA 45 131071) ?_ (hc := (any_of HT_.out (by kernel_rfl)))
            refine pS 17 27 (lA 45 262143) ?_ (hc := (any_of HT_.out (by kernel_rfl)))
            refine pS 18 28 (lA 45 524287) ?_ (hc := (any_of HT_.out (by kernel_rfl)))
            refine pS 20 30 (lA 45 1572863) ?_ (hc := (any_of HT_.out (by kernel_rfl)))
            refine tS 19 29 (lA 45 2097151) rfl rfl (take_ofW HT_.out HW_.out (by kernel_rfl)) hHeld (by rintro w' ⟨s0, s1, s2, s3, s4⟩; go_simp; with_reducible rfl) ?_
            refine tS 21 31 (lA 45 4194303) rfl rfl (take_ofW HT_.out HW_.out (by kernel_rfl)) hHeld (by rintro w' ⟨s0, s1, s2, s3, s4⟩; go_simp; with_reducible rfl) ?_
            refine one_ (i := 22) (N := some 32) (lA 45 8388607) rfl rfl (one_of HT_.out (by kernel_rfl)) (by decide) (fun K hK => ?_)
            refine goes_ Try.func37 (by kernel_rfl) rfl #[.int .i64 a1_2, .int .i64 0, .int .i64 a1_1] (by rfl) rfl rfl (by (try simp only [List.map_toArray, List.map_cons, List.map_nil]); first | done | rfl | (simp only [List.length_drop, List.length_take]; rfl)) ?_
            with_reducible refine (spec_l6In.calls a1_2 0 a1_1 false _ A12.out).mono ?_
            rintro e w' ⟨rfl, ⟨nd, rfl⟩⟩
            refine ⟨_, rfl, ?_⟩
            refine hK.out _ _ ⟨(blk_cell BK150.out 0).trans rfl, (blk_cell BK150.out 1).trans rfl, (blk_cell BK150.out 2).trans rfl, (blk_cell BK150.out 3).trans rfl, (blk_cell BK150.out 4).trans rfl⟩ (fun hHeld => ?_)
            clear hK K
            refine norm_ (a' := ?_) ?_ ?_
            rotate_left
            · show Act.put _ (some 32) _ = _
              simp only [Act.put, lA1, lA2, lA3, i64_w, i32_w]
              rfl
            refine pS 23 33 (lA 45 16777215) ?_ (hc := (any_of HT_.out (by kernel_rfl)))
            refine pS 24 34 (lA 45 33554431) ?_ (hc := (any_of HT_.out (by kernel_rfl)))
            refine pS 25 35 (lA 45 67108863) ?_ (hc := (any_of HT_.out (by kernel_rfl)))
            refine pU 26 36 (lA 45 134217727) ?_ (hc := (any_of HT_.out (by kernel_rfl)))
            refine pU 27 37 (lA 45 268435455) ?_ (hc := (any_of HT_.out (by kernel_rfl)))
            refine pU 28 38 (lA 45 536870911) ?_ (hc := (any_of HT_.out (by kernel_rfl)))
            refine pU 29 39 (lA 45 1073741823) ?_ (hc := (any_of HT_.out (by kernel_rfl)))
            refine pU 30 40 (lA 45 2147483647) ?_ (hc := (any_of HT_.out (by kernel_rfl)))
            refine pU 31 41 (lA 45 4294967295) ?_ (hc := (any_of HT_.out (by kernel_rfl)))
            refine pU 32 42 (lA 45 8589934591) ?_ (hc := (any_of HT_.out (by kernel_rfl)))
            refine pS 33 43 (lA 45 17179869183) ?_ (hc := (any_of HT_.out (by kernel_rfl)))
            refine pS 34 44 (lA 45 34359738367) ?_ (hc := (any_of HT_.out (by kernel_rfl)))
            refine pU 35 45 (lA 45 68719476735) ?_ (hc := (any_of HT_.out (by kernel_rfl)))
            refine pU 36 46 (lA 45 137438953471) ?_ (hc := (any_of HT_.out (by kernel_rfl)))
            refine pU 37 47 (lA 45 274877906943) ?_ (hc := (any_of HT_.out (by kernel_rfl)))
            refine pU 38 48 (lA 45 549755813887) ?_ (hc := (any_of HT_.out (by kernel_rfl)))
            refine pU 39 49 (lA 45 1099511627775) ?_ (hc := (any_of HT_.out (by kernel_rfl)))
            refine pU 40 50 (lA 45 2199023255551) ?_ (hc := (any_of HT_.out (by kernel_rfl)))
            refine pU 41 51 (lA 45 4398046511103) ?_ (hc := (any_of HT_.out (by kernel_rfl)))
            refine pU 42 52 (lA 45 8796093022207) ?_ (hc := (any_of HT_.out (by kernel_rfl)))
            refine pU 43 53 (lA 45 17592186044415) ?_ (hc := (any_of HT_.out (by kernel_rfl)))
            refine pS 44 54 (lA 45 35184372088831) ?_ (hc := (any_of HT_.out (by kernel_rfl)))
            refine done_ (done_of HT_.out (by kernel_rfl)) ?_
            try go_wp2
            go_meet
            case rel => exact ⟨_, (true), (by first | rfl | (simp; done) | (simp [*]; done)), H', ⟨by first | omega | exact Nat.le_refl _⟩, ⟨by (with_reducible repeat (first | refine blk_drewN ?_ _ | refine blk_drew ?_ | refine blk_alloc ?_ _)); exact BK150.out⟩, ⟨by repeat (first | (with_reducible first | exact HB.out | apply below_alloc | apply pw_below_drewN | apply below_drew1 | refine below_set ?_ GE150.out) | exact HB.out)⟩⟩
        · replace c11 := Bool.eq_false_iff.mpr c11
          subst c11
          have H1 : (spec_l21Bounds.j0 k (l1_0.length : Int) true l1_0 a1_1 a1_2 a1_3 l1_4) = some r := by rw [if_neg (show ¬ (false = true) by decide)] at H; exact H
          clear H
          have H := H1
          clear H1
          have H' := Aside0.mk H
          clear H
          try go_wp2
          have n0_ := Aside0.mk (blk_drew BK150.out)
          have n1_ := Aside0.mk (below_drew1 HB.out)
          clear BK150
          clear HB
          have BK150 := n0_
          have HB := n1_
          clear n0_ n1_
          refine start_ (n := 45) (S := fun w' => w'.cell? ⟨gb150, 0, none⟩ = some (.slice A1_0 l1_0.length c1_0) ∧ w'.cell? ⟨gb150, 1, none⟩ = some (.int .i64 a1_1) ∧ w'.cell? ⟨gb150, 2, none⟩ = some (.int .i64 a1_2) ∧ w'.cell? ⟨gb150, 3, none⟩ = some (.int .i64 a1_3) ∧ w'.cell? ⟨gb150, 4, none⟩ = some (.slice A1_4 l1_4.length c1_4)) (ds := []) #[false, false, false, false, false, false, false, false, false, false, false, false, false, false, false, false, false, false, false, false, false, false, false, false, false, false, false, false, false, false, false, false, false, false, false, false, false, false, false, false, false, false, false, false, false] (by kernel_rfl) rfl rfl ⟨(blk_cell BK150.out 0).trans rfl, (blk_cell BK150.out 1).trans rfl, (blk_cell BK150.out 2).trans rfl, (blk_cell BK150.out 3).trans rfl, (blk_cell BK150.out 4).trans rfl⟩ (fun hHeld => ?_); refine with_tabW spec_l21Bounds.tab2 spec_l21Bounds.bits2 (fun HT_ HW_ => ?_)
          generalize w4.drew = w23 at BK150 HB hHeld ⊢
          refine pS 0 10 (lA 45 1) ?_ (hc := (any_of HT_.out (by kernel_rfl)))
          refine one_ (i := 1) (N := some 11) (lA 45 3) rfl rfl (one_of HT_.out (by kernel_rfl)) (by decide) (fun K hK => ?_)
          refine goes_ Try.func70 (by kernel_rfl) rfl #[.slice A0 l0.length c0] (by rfl) rfl rfl (by (try simp only [List.map_toArray, List.map_cons, List.map_nil]); first | done | rfl | (simp only [List.length_drop, List.length_take]; rfl)) ?_
          with_reducible refine (spec_ClassesOk.calls k _ _ l0 true _ ?side1 ?side2 A6.out).mono ?_
          (case side1 => repeat (first | exact (Kd.C_below HR0.out HB.out) | (with_reducible refine Kd.C_alloc ?_ _) | (with_reducible refine Kd.C_drewN ?_ _) | (with_reducible refine Kd.C_drew ?_)))
          (case side2 => exact HC0.out)
          rintro e w24 ⟨rfl, hb⟩
          refine ⟨_, rfl, ?_⟩
          have n0_ := Aside0.mk (blk_below (g := gb150) (o := .cells #[.slice A1_0 l1_0.length c1_0, .int .i64 a1_1, .int .i64 a1_2, .int .i64 a1_3, .slice A1_4 l1_4.length c1_4] 28 (0, 0)) (by (with_reducible repeat (first | refine blk_drewN ?_ _ | refine blk_drew ?_ | refine blk_alloc ?_ _)); exact BK150.out) hb)
          have n1_ := Aside0.mk (below_step (by repeat (first | (with_reducible first | exact HB.out | apply below_alloc | apply pw_below_drewN | apply below_drew1 | refine below_set ?_ GE150.out) | exact HB.out)) hb)
          clear BK150
          clear HB
          have BK150 := n0_
          have HB := n1_
          clear n0_ n1_
          (try clear hb)
          (try clear hb2)
          (try clear hk)
          (try clear hi)
          refine hK.out _ _ ⟨(blk_cell BK150.out 0).trans rfl, (blk_cell BK150.out 1).trans rfl, (blk_cell BK150.out 2).trans rfl, (blk_cell BK150.out 3).trans rfl, (blk_cell BK150.out 4).trans rfl⟩ (fun hHeld => ?_)
          clear hK K
          refine norm_ (a' := ?_) ?_ ?_
          rotate_left
          · show Act.put _ (some 11) _ = _
            simp only [Act.put, lA1, lA2, lA3, i64_w, i32_w]
            rfl
          refine pS 2 12 (lA 45 7) ?_ (hc := (any_of HT_.out (by kernel_rfl)))
          refine pS 3 13 (lA 45 15) ?_ (hc := (any_of HT_.out (by kernel_rfl)))
          refine pS 4 14 (lA 45 31) ?_ (hc := (any_of HT_.out (by kernel_rfl)))
          refine tS 5 15 (lA 45 63) rfl rfl (take_ofW HT_.out HW_.out (by kernel_rfl)) hHeld (by rintro w' ⟨s0, s1, s2, s3, s4⟩; go_simp; with_reducible rfl) ?_
          refine one_ (i := 6) (N := some 16) (lA 45 127) rfl rfl (one_of HT_.out (by kernel_rfl)) (by decide) (fun K hK => ?_)
          refine goes_ Try.func37 (by kernel_rfl) rfl #[.int .i64 a1_1, .int .i64 0, .int .i64 40] (by rfl) rfl rfl (by (try simp only [List.map_toArray, List.map_cons, List.map_nil]); first | done | rfl | (simp only [List.length_drop, List.length_take]; rfl)) ?_
          with_reducible refine (spec_l6In.calls a1_1 0 40 true _ A8.out).mono ?_
          rintro e w' ⟨rfl, ⟨nd, rfl⟩⟩
          refine ⟨_, rfl, ?_⟩
          refine hK.out _ _ ⟨(blk_cell BK150.out 0).trans rfl, (blk_cell BK150.out 1).trans rfl, (blk_cell BK150.out 2).trans rfl, (blk_cell BK150.out 3).trans rfl, (blk_cell BK150.out 4).trans rfl⟩ (fun hHeld => ?_)
          clear hK K
          refine norm_ (a' := ?_) ?_ ?_
          rotate_left
          · show Act.put _ (some 16) _ = _
            simp only [Act.put, lA1, lA2, lA3, i64_w, i32_w]
            rfl
          refine pS 7 17 (lA 45 255) ?_ (hc := (any_of HT_.out (by kernel_rfl)))
          refine pS 8 18 (lA 45 511) ?_ (hc := (any_of HT_.out (by kernel_rfl)))
          refine pS 9 19 (lA 45 1023) ?_ (hc := (any_of HT_.out (by kernel_rfl)))
          refine pS 10 20 (lA 45 2047) ?_ (hc := (any_of HT_.out (by kernel_rfl)))
          refine pS 11 21 (lA 45 4095) ?_ (hc := (any_of HT_.out (by kernel_rfl)))
          refine tS 12 22 (lA 45 8191) rfl rfl (take_ofW HT_.out HW_.out (by kernel_rfl)) hHeld (by rintro w' ⟨s0, s1, s2, s3, s4⟩; go_simp; with_reducible rfl) ?_
          refine pS 13 23 (lA 45 16383) ?_ (hc := (any_of HT_.out (by kernel_rfl)))
          refine one_ (i := 14) (N := some 24) (lA 45 32767) rfl rfl (one_of HT_.out (by kernel_rfl)) (by decide) (fun K hK => ?_)
          refine goes_ Try.func37 (by kernel_rfl) rfl #[.int .i64 (wrap64 ((l1_0.length : Int) - a1_1)), .int .i64 14, .int .i64 120] (by rfl) rfl rfl (by (try simp only [List.map_toArray, List.map_cons, List.map_nil]); first | done | rfl | (simp only [List.length_drop, List.length_take]; rfl)) ?_
          with_reducible refine (spec_l6In.calls (wrap64 ((l1_0.length : Int) - a1_1)) 14 120 false _ A10.out).mono ?_
          rintro e w' ⟨rfl, ⟨nd, rfl⟩⟩
          refine ⟨_, rfl, ?_⟩
          refine hK.out _ _ ⟨(blk_cell BK150.out 0).trans rfl, (blk_cell BK150.out 1).trans rfl, (blk_cell BK150.out 2).trans rfl, (blk_cell BK150.out 3).trans rfl, (blk_cell BK150.out 4).trans rfl⟩ (fun hHeld => ?_)
          clear hK K
          refine norm_ (a' := ?_) ?_ ?_
          rotate_left
          · show Act.put _ (some 24) _ = _
            simp only [Act.put, lA1, lA2, lA3, i64_w, i32_w]
            rfl
          refine pS 15 25 (lA 45 65535) ?_ (hc := (any_of HT_.out (by kernel_rfl)))
          refine pS 16 26 (lA 45 131071) ?_ (hc := (any_of HT_.out (by kernel_rfl)))
          refine pS 17 27 (lA 45 262143) ?_ (hc := (any_of HT_.out (by kernel_rfl)))
          refine pU 18 28 (lA 45 524287) ?_ (hc := (any_of HT_.out (by kernel_rfl)))
          refine pU 19 29 (lA 45 1048575) ?_ (hc := (any_of HT_.out (by kernel_rfl)))
          refine pU 20 30 (lA 45 2097151) ?_ (hc := (any_of HT_.out (by kernel_rfl)))
          refine pU 21 31 (lA 45 4194303) ?_ (hc := (any_of HT_.out (by kernel_rfl)))
          refine pU 22 32 (lA 45 8388607) ?_ (hc := (any_of HT_.out (by kernel_rfl)))
          refine pU 23 33 (lA 45 16777215) ?_ (hc := (any_of HT_.out (by kernel_rfl)))
          refine pS 24 34 (lA 45 33554431) ?_ (hc := (any_of HT_.out (by kernel_rfl)))
          refine pS 25 35 (lA 45 67108863) ?_ (hc := (any_of HT_.out (by kernel_rfl)))
          refine pU 26 36 (lA 45 134217727) ?_ (hc := (any_of HT_.out (by kernel_rfl)))
          refine pU 27 37 (lA 45 268435455) ?_ (hc := (any_of HT_.out (by kernel_rfl)))
          refine pU 28 38 (lA 45 536870911) ?_ (hc := (any_of HT_.out (by kernel_rfl)))
          refine pU 29 39 (lA 45 1073741823) ?_ (hc := (any_of HT_.out (by kernel_rfl)))
          refine pU 30 40 (lA 45 2147483647) ?_ (hc := (any_of HT_.out (by kernel_rfl)))
          refine pU 31 41 (lA 45 4294967295) ?_ (hc := (any_of HT_.out (by kernel_rfl)))
          refine pU 32 42 (lA 45 8589934591) ?_ (hc := (any_of HT_.out (by kernel_rfl)))
          refine pS 33 43 (lA 45 17179869183) ?_ (hc := (any_of HT_.out (by kernel_rfl)))
          refine pS 34 44 (lA 45 34359738367) ?_ (hc := (any_of HT_.out (by kernel_rfl)))
          refine pU 35 45 (lA 45 68719476735) ?_ (hc := (any_of HT_.out (by kernel_rfl)))
          refine pU 36 46 (lA 45 137438953471) ?_ (hc := (any_of HT_.out (by kernel_rfl)))
          refine pU 37 47 (lA 45 274877906943) ?_ (hc := (any_of HT_.out (by kernel_rfl)))
          refine pU 38 48 (lA 45 549755813887) ?_ (hc := (any_of HT_.out (by kernel_rfl)))
          refine pU 39 49 (lA 45 1099511627775) ?_ (hc := (any_of HT_.out (by kernel_rfl)))
          refine pU 40 50 (lA 45 2199023255551) ?_ (hc := (any_of HT_.out (by kernel_rfl)))
          refine pU 41 51 (lA 45 4398046511103) ?_ (hc := (any_of HT_.out (by kernel_rfl)))
          refine pU 42 52 (lA 45 8796093022207) ?_ (hc := (any_of HT_.out (by kernel_rfl)))
          refine pU 43 53 (lA 45 17592186044415) ?_ (hc := (any_of HT_.out (by kernel_rfl)))
          refine pS 44 54 (lA 45 35184372088831) ?_ (hc := (any_of HT_.out (by kernel_rfl)))
          refine done_ (done_of HT_.out (by kernel_rfl)) ?_
          try go_wp2
          go_meet
          case rel => exact ⟨_, (true), (by first | rfl | (simp; done) | (simp [*]; done)), H', ⟨by first | omega | exact Nat.le_refl _⟩, ⟨by (with_reducible repeat (first | refine blk_drewN ?_ _ | refine blk_drew ?_ | refine blk_alloc ?_ _)); exact BK150.out⟩, ⟨by repeat (first | (with_reducible first | exact HB.out | apply below_alloc | apply pw_below_drewN | apply below_drew1 | refine below_set ?_ GE150.out) | exact HB.out)⟩⟩
      · replace c9 := Bool.eq_false_iff.mpr c9
        subst c9
        have H1 : (spec_l21Bounds.j0 k (l1_0.length : Int) true l1_0 a1_1 a1_2 a1_3 l1_4) = some r := by rw [if_neg (show ¬ (false = true) by decide)] at H; exact H
        clear H
        have H := H1
        clear H1
        have H' := Aside0.mk H
        clear H
        try go_wp2
        have n0_ := Aside0.mk (blk_drew BK150.out)
        have n1_ := Aside0.mk (below_drew1 HB.out)
        clear BK150
        clear HB
        have BK150 := n0_
        have HB := n1_
        clear n0_ n1_
        refine start_ (n := 45) (S := fun w' => w'.cell? ⟨gb150, 0, none⟩ = some (.slice A1_0 l1_0.length c1_0) ∧ w'.cell? ⟨gb150, 1, none⟩ = some (.int .i64 a1_1) ∧ w'.cell? ⟨gb150, 2, none⟩ = some (.int .i64 a1_2) ∧ w'.cell? ⟨gb150, 3, none⟩ = some (.int .i64 a1_3) ∧ w'.cell? ⟨gb150, 4, none⟩ = some (.slice A1_4 l1_4.length c1_4)) (ds := []) #[false, false, false, false, false, false, false, false, false, false, false, false, false, false, false, false, false, false, false, false, false, false, false, false, false, false, false, false, false, false, false, false, false, false, false, false, false, false, false, false, false, false, false, false, false] (by kernel_rfl) rfl rfl ⟨(blk_cell BK150.out 0).trans rfl, (blk_cell BK150.out 1).trans rfl, (blk_cell BK150.out 2).trans rfl, (blk_cell BK150.out 3).trans rfl, (blk_cell BK150.out 4).trans rfl⟩ (fun hHeld => ?_); refine with_tabW spec_l21Bounds.tab2 spec_l21Bounds.bits2 (fun HT_ HW_ => ?_)
        generalize w4.drew = w25 at BK150 HB hHeld ⊢
        refine pS 0 10 (lA 45 1) ?_ (hc := (any_of HT_.out (by kernel_rfl)))
        refine one_ (i := 1) (N := some 11) (lA 45 3) rfl rfl (one_of HT_.out (by kernel_rfl)) (by decide) (fun K hK => ?_)
        refine goes_ Try.func70 (by kernel_rfl) rfl #[.slice A0 l0.length c0] (by rfl) rfl rfl (by (try simp only [List.map_toArray, List.map_cons, List.map_nil]); first | done | rfl | (simp only [List.length_drop, List.length_take]; rfl)) ?_
        with_reducible refine (spec_ClassesOk.calls k _ _ l0 true _ ?side1 ?side2 A6.out).mono ?_
        (case side1 => repeat (first | exact (Kd.C_below HR0.out HB.out) | (with_reducible refine Kd.C_alloc ?_ _) | (with_reducible refine Kd.C_drewN ?_ _) | (with_reducible refine Kd.C_drew ?_)))
        (case side2 => exact HC0.out)
        rintro e w26 ⟨rfl, hb⟩
        refine ⟨_, rfl, ?_⟩
        have n0_ := Aside0.mk (blk_below (g := gb150) (o := .cells #[.slice A1_0 l1_0.length c1_0, .int .i64 a1_1, .int .i64 a1_2, .int .i64 a1_3, .slice A1_4 l1_4.length c1_4] 28 (0, 0)) (by (with_reducible repeat (first | refine blk_drewN ?_ _ | refine blk_drew ?_ | refine blk_alloc ?_ _)); exact BK150.out) hb)
        have n1_ := Aside0.mk (below_step (by repeat (first | (with_reducible first | exact HB.out | apply below_alloc | apply pw_below_drewN | apply below_drew1 | refine below_set ?_ GE150.out) | exact HB.out)) hb)
        clear BK150
        clear HB
        have BK150 := n0_
        have HB := n1_
        clear n0_ n1_
        (try clear hb)
        (try clear hb2)
        (try clear hk)
        (try clear hi)
        refine hK.out _ _ ⟨(blk_cell BK150.out 0).trans rfl, (blk_cell BK150.out 1).trans rfl, (blk_cell BK150.out 2).trans rfl, (blk_cell BK150.out 3).trans rfl, (blk_cell BK150.out 4).trans rfl⟩ (fun hHeld => ?_)
        clear hK K
        refine norm_ (a' := ?_) ?_ ?_
        rotate_left
        · show Act.put _ (some 11) _ = _
          simp only [Act.put, lA1, lA2, lA3, i64_w, i32_w]
          rfl
        refine pS 2 12 (lA 45 7) ?_ (hc := (any_of HT_.out (by kernel_rfl)))
        refine pS 3 13 (lA 45 15) ?_ (hc := (any_of HT_.out (by kernel_rfl)))
        refine pS 4 14 (lA 45 31) ?_ (hc := (any_of HT_.out (by kernel_rfl)))
        refine tS 5 15 (lA 45 63) rfl rfl (take_ofW HT_.out HW_.out (by kernel_rfl)) hHeld (by rintro w' ⟨s0, s1, s2, s3, s4⟩; go_simp; with_reducible rfl) ?_
        refine one_ (i := 6) (N := some 16) (lA 45 127) rfl rfl (one_of HT_.out (by kernel_rfl)) (by decide) (fun K hK => ?_)
        refine goes_ Try.func37 (by kernel_rfl) rfl #[.int .i64 a1_1, .int .i64 0, .int .i64 40] (by rfl) rfl rfl (by (try simp only [List.map_toArray, List.map_cons, List.map_nil]); first | done | rfl | (simp only [List.length_drop, List.length_take]; rfl)) ?_
        with_reducible refine (spec_l6In.calls a1_1 0 40 false _ A8.out).mono ?_
        rintro e w' ⟨rfl, ⟨nd, rfl⟩⟩
        refine ⟨_, rfl, ?_⟩
        refine hK.out _ _ ⟨(blk_cell BK150.out 0).trans rfl, (blk_cell BK150.out 1).trans rfl, (blk_cell BK150.out 2).trans rfl, (blk_cell BK150.out 3).trans rfl, (blk_cell BK150.out 4).trans rfl⟩ (fun hHeld => ?_)
        clear hK K
        refine norm_ (a' := ?_) ?_ ?_
        rotate_left
        · show Act.put _ (some 16) _ = _
          simp only [Act.put, lA1, lA2, lA3, i64_w, i32_w]
          rfl
        refine pS 7 17 (lA 45 255) ?_ (hc := (any_of HT_.out (by kernel_rfl)))
        refine pS 8 18 (lA 45 511) ?_ (hc := (any_of HT_.out (by kernel_rfl)))
        refine pS 9 19 (lA 45 1023) ?_ (hc := (any_of HT_.out (by kernel_rfl)))
        refine pU 10 20 (lA 45 2047) ?_ (hc := (any_of HT_.out (by kernel_rfl)))
        refine pU 11 21 (lA 45 4095) ?_ (hc := (any_of HT_.out (by kernel_rfl)))
        refine pU 12 22 (lA 45 8191) ?_ (hc := (any_of HT_.out (by kernel_rfl)))
        refine pU 13 23 (lA 45 16383) ?_ (hc := (any_of HT_.out (by kernel_rfl)))
        refine pU 14 24 (lA 45 32767) ?_ (hc := (any_of HT_.out (by kernel_rfl)))
        refine pU 15 25 (lA 45 65535) ?_ (hc := (any_of HT_.out (by kernel_rfl)))
        refine pS 16 26 (lA 45 131071) ?_ (hc := (any_of HT_.out (by kernel_rfl)))
        refine pS 17 27 (lA 45 262143) ?_ (hc := (any_of HT_.out (by kernel_rfl)))
        refine pU 18 28 (lA 45 524287) ?_ (hc := (any_of HT_.out (by kernel_rfl)))
        refine pU 19 29 (lA 45 1048575) ?_ (hc := (any_of HT_.out (by kernel_rfl)))
        refine pU 20 30 (lA 45 2097151) ?_ (hc := (any_of HT_.out (by kernel_rfl)))
        refine pU 21 31 (lA 45 4194303) ?_ (hc := (any_of HT_.out (by kernel_rfl)))
        refine pU 22 32 (lA 45 8388607) ?_ (hc := (any_of HT_.out (by kernel_rfl)))
        refine pU 23 33 (lA 45 16777215) ?_ (hc := (any_of HT_.out (by kernel_rfl)))
        refine pS 24 34 (lA 45 33554431) ?_ (hc := (any_of HT_.out (by kernel_rfl)))
        refine pS 25 35 (lA 45 67108863) ?_ (hc := (any_of HT_.out (by kernel_rfl)))
        refine pU 26 36 (lA 45 134217727) ?_ (hc := (any_of HT_.out (by kernel_rfl)))
        refine pU 27 37 (lA 45 268435455) ?_ (hc := (any_of HT_.out (by kernel_rfl)))
        refine pU 28 38 (lA 45 536870911) ?_ (hc := (any_of HT_.out (by kernel_rfl)))
        refine pU 29 39 (lA 45 1073741823) ?_ (hc := (any_of HT_.out (by kernel_rfl)))
        refine pU 30 40 (lA 45 2147483647) ?_ (hc := (any_of HT_.out (by kernel_rfl)))
        refine pU 31 41 (lA 45 4294967295) ?_ (hc := (any_of HT_.out (by kernel_rfl)))
        refine pU 32 42 (lA 45 8589934591) ?_ (hc := (any_of HT_.out (by kernel_rfl)))
        refine pS 33 43 (lA 45 17179869183) ?_ (hc := (any_of HT_.out (by kernel_rfl)))
        refine pS 34 44 (lA 45 34359738367) ?_ (hc := (any_of HT_.out (by kernel_rfl)))
        refine pU 35 45 (lA 45 68719476735) ?_ (hc := (any_of HT_.out (by kernel_rfl)))
        refine pU 36 46 (lA 45 137438953471) ?_ (hc := (any_of HT_.out (by kernel_rfl)))
        refine pU 37 47 (lA 45 274877906943) ?_ (hc := (any_of HT_.out (by kernel_rfl)))
        refine pU 38 48 (lA 45 549755813887) ?_ (hc := (any_of HT_.out (by kernel_rfl)))
        refine pU 39 49 (lA 45 1099511627775) ?_ (hc := (any_of HT_.out (by kernel_rfl)))
        refine pU 40 50 (lA 45 2199023255551) ?_ (hc := (any_of HT_.out (by kernel_rfl)))
        refine pU 41 51 (lA 45 4398046511103) ?_ (hc := (any_of HT_.out (by kernel_rfl)))
        refine pU 42 52 (lA 45 8796093022207) ?_ (hc := (any_of HT_.out (by kernel_rfl)))
        refine pU 43 53 (lA 45 17592186044415) ?_ (hc := (any_of HT_.out (by kernel_rfl)))
        refine pS 44 54 (lA 45 35184372088831) ?_ (hc := (any_of HT_.out (by kernel_rfl)))
        refine done_ (done_of HT_.out (by kernel_rfl)) ?_
        try go_wp2
        go_meet
        case rel => exact ⟨_, (true), (by first | rfl | (simp; done) | (simp [*]; done)), H', ⟨by first | omega | exact Nat.le_refl _⟩, ⟨by (with_reducible repeat (first | refine blk_drewN ?_ _ | refine blk_drew ?_ | refine blk_alloc ?_ _)); exact BK150.out⟩, ⟨by repeat (first | (with_reducible first | exact HB.out | apply below_alloc | apply pw_below_drewN | apply below_drew1 | refine below_set ?_ GE150.out) | exact HB.out)⟩⟩
    · replace c7 := Bool.eq_false_iff.mpr c7
      subst c7
      have H1 : (spec_l21Bounds.j0 k (l1_0.length : Int) true l1_0 a1_1 a1_2 a1_3 l1_4) = some r := by rw [if_neg (show ¬ (false = true) by decide)] at H; exact H
      clear H
      have H := H1
      clear H1
      have H' := Aside0.mk H
      clear H
      try go_wp2
      have n0_ := Aside0.mk (blk_drew BK150.out)
      have n1_ := Aside0.mk (below_drew1 HB.out)
      clear BK150
      clear HB
      have BK150 := n0_
      have HB := n1_
      clear n0_ n1_
      refine start_ (n := 45) (S := fun w' => True) (ds := []) #[false, false, false, false, false, false, false, false, false, false, false, false, false, false, false, false, false, false, false, false, false, false, false, false, false, false, false, false, false, false, false, false, false, false, false, false, false, false, false, false, false, false, false, false, false] (by kernel_rfl) rfl rfl trivial (fun hHeld => ?_); refine with_tabW spec_l21Bounds.tab2 spec_l21Bounds.bits2 (fun HT_ HW_ => ?_)
      generalize w4.drew = w27 at BK150 HB hHeld ⊢
      refine pS 0 10 (lA 45 1) ?_ (hc := (any_of HT_.out (by kernel_rfl)))
      refine one_ (i := 1) (N := some 11) (lA 45 3) rfl rfl (one_of HT_.out (by kernel_rfl)) (by decide) (fun K hK => ?_)
      refine goes_ Try.func70 (by kernel_rfl) rfl #[.slice A0 l0.length c0] (by rfl) rfl rfl (by (try simp only [List.map_toArray, List.map_cons, List.map_nil]); first | done | rfl | (simp only [List.length_drop, List.length_take]; rfl)) ?_
      with_reducible refine (spec_ClassesOk.calls k _ _ l0 false _ ?side1 ?side2 A6.out).mono ?_
      (case side1 => repeat (first | exact (Kd.C_below HR0.out HB.out) | (with_reducible refine Kd.C_alloc ?_ _) | (with_reducible refine Kd.C_drewN ?_ _) | (with_reducible refine Kd.C_drew ?_)))
      (case side2 => exact HC0.out)
      rintro e w28 ⟨rfl, hb⟩
      refine ⟨_, rfl, ?_⟩
      have n0_ := Aside0.mk (blk_below (g := gb150) (o := .cells #[.slice A1_0 l1_0.length c1_0, .int .i64 a1_1, .int .i64 a1_2, .int .i64 a1_3, .slice A1_4 l1_4.length c1_4] 28 (0, 0)) (by (with_reducible repeat (first | refine blk_drewN ?_ _ | refine blk_drew ?_ | refine blk_alloc ?_ _)); exact BK150.out) hb)
      have n1_ := Aside0.mk (below_step (by repeat (first | (with_reducible first | exact HB.out | apply below_alloc | apply pw_below_drewN | apply below_drew1 | refine below_set ?_ GE150.out) | exact HB.out)) hb)
      clear BK150
      clear HB
      have BK150 := n0_
      have HB := n1_
      clear n0_ n1_
      (try clear hb)
      (try clear hb2)
      (try clear hk)
      (try clear hi)
      refine hK.out _ _ trivial (fun hHeld => ?_)
      clear hK K
      refine norm_ (a' := ?_) ?_ ?_
      rotate_left
      · show Act.put _ (some 11) _ = _
        simp only [Act.put, lA1, lA2, lA3, i64_w, i32_w]
        rfl
      refine pS 2 12 (lA 45 7) ?_ (hc := (any_of HT_.out (by kernel_rfl)))
      refine pS 3 13 (lA 45 15) ?_ (hc := (any_of HT_.out (by kernel_rfl)))
      refine pU 4 14 (lA 45 31) ?_ (hc := (any_of HT_.out (by kernel_rfl)))
      refine pU 5 15 (lA 45 63) ?_ (hc := (any_of HT_.out (by kernel_rfl)))
      refine pU 6 16 (lA 45 127) ?_ (hc := (any_of HT_.out (by kernel_rfl)))
      refine pU 7 17 (lA 45 255) ?_ (hc := (any_of HT_.out (by kernel_rfl)))
      refine pS 8 18 (lA 45 511) ?_ (hc := (any_of HT_.out (by kernel_rfl)))
      refine pS 9 19 (lA 45 1023) ?_ (hc := (any_of HT_.out (by kernel_rfl)))
      refine pU 10 20 (lA 45 2047) ?_ (hc := (any_of HT_.out (by kernel_rfl)))
      refine pU 11 21 (lA 45 4095) ?_ (hc := (any_of HT_.out (by kernel_rfl)))
      refine pU 12 22 (lA 45 8191) ?_ (hc := (any_of HT_.out (by kernel_rfl)))
      refine pU 13 23 (lA 45 16383) ?_ (hc := (any_of HT_.out (by kernel_rfl)))
      refine pU 14 24 (lA 45 32767) ?_ (hc := (any_of HT_.out (by kernel_rfl)))
      refine pU 15 25 (lA 45 65535) ?_ (hc := (any_of HT_.out (by kernel_rfl)))
      refine pS 16 26 (lA 45 131071) ?_ (hc := (any_of HT_.out (by kernel_rfl)))
      refine pS 17 27 (lA 45 262143) ?_ (hc := (any_of HT_.out (by kernel_rfl)))
      refine pU 18 28 (lA 45 524287) ?_ (hc := (any_of HT_.out (by kernel_rfl)))
      refine pU 19 29 (lA 45 1048575) ?_ (hc := (any_of HT_.out (by kernel_rfl)))
      refine pU 20 30 (lA 45 2097151) ?_ (hc := (any_of HT_.out (by kernel_rfl)))
      refine pU 21 31 (lA 45 4194303) ?_ (hc := (any_of HT_.out (by kernel_rfl)))
      refine pU 22 32 (lA 45 8388607) ?_ (hc := (any_of HT_.out (by kernel_rfl)))
      refine pU 23 33 (lA 45 16777215) ?_ (hc := (any_of HT_.out (by kernel_rfl)))
      refine pS 24 34 (lA 45 33554431) ?_ (hc := (any_of HT_.out (by kernel_rfl)))
      refine pS 25 35 (lA 45 67108863) ?_ (hc := (any_of HT_.out (by kernel_rfl)))
      refine pU 26 36 (lA 45 134217727) ?_ (hc := (any_of HT_.out (by kernel_rfl)))
      refine pU 27 37 (lA 45 268435455) ?_ (hc := (any_of HT_.out (by kernel_rfl)))
      refine pU 28 38 (lA 45 536870911) ?_ (hc := (any_of HT_.out (by kernel_rfl)))
      refine pU 29 39 (lA 45 1073741823) ?_ (hc := (any_of HT_.out (by kernel_rfl)))
      refine pU 30 40 (lA 45 2147483647) ?_ (hc := (any_of HT_.out (by kernel_rfl)))
      refine pU 31 41 (lA 45 4294967295) ?_ (hc := (any_of HT_.out (by kernel_rfl)))
      refine pU 32 42 (lA 45 8589934591) ?_ (hc := (any_of HT_.out (by kernel_rfl)))
      refine pS 33 43 (lA 45 17179869183) ?_ (hc := (any_of HT_.out (by kernel_rfl)))
      refine pS 34 44 (lA 45 34359738367) ?_ (hc := (any_of HT_.out (by kernel_rfl)))
      refine pU 35 45 (lA 45 68719476735) ?_ (hc := (any_of HT_.out (by kernel_rfl)))
      refine pU 36 46 (lA 45 137438953471) ?_ (hc := (any_of HT_.out (by kernel_rfl)))
      refine pU 37 47 (lA 45 274877906943) ?_ (hc := (any_of HT_.out (by kernel_rfl)))
      refine pU 38 48 (lA 45 549755813887) ?_ (hc := (any_of HT_.out (by kernel_rfl)))
      refine pU 39 49 (lA 45 1099511627775) ?_ (hc := (any_of HT_.out (by kernel_rfl)))
      refine pU 40 50 (lA 45 2199023255551) ?_ (hc := (any_of HT_.out (by kernel_rfl)))
      refine pU 41 51 (lA 45 4398046511103) ?_ (hc := (any_of HT_.out (by kernel_rfl)))
      refine pU 42 52 (lA 45 8796093022207) ?_ (hc := (any_of HT_.out (by kernel_rfl)))
      refine pU 43 53 (lA 45 17592186044415) ?_ (hc := (any_of HT_.out (by kernel_rfl)))
      refine pS 44 54 (lA 45 35184372088831) ?_ (hc := (any_of HT_.out (by kernel_rfl)))
      refine done_ (done_of HT_.out (by kernel_rfl)) ?_
      try go_wp2
      go_meet
      case rel => exact ⟨_, (true), (by first | rfl | (simp; done) | (simp [*]; done)), H', ⟨by first | omega | exact Nat.le_refl _⟩, ⟨by (with_reducible repeat (first | refine blk_drewN ?_ _ | refine blk_drew ?_ | refine blk_alloc ?_ _)); exact BK150.out⟩, ⟨by repeat (first | (with_reducible first | exact HB.out | apply below_alloc | apply pw_below_drewN | apply below_drew1 | refine below_set ?_ GE150.out) | exact HB.out)⟩⟩
  case rest =>
    clear HC3
    try clear c1
    try clear p2
    try clear c3
    try clear c7
    try clear c9
    obtain ⟨kq, x54_2, rfl, HA, HJ2, BK150, HB⟩ := hcut
    cases kq with
    | zero => exact absurd HA.out (by simp [spec_l21Bounds.j0])
    | succ kj2 =>
      have H := HA.out
      clear HA
      simp only [spec_l21Bounds.j0] at H
      by_cases c29 : x54_2 = true
      · subst c29
        have H1 : (some false) = some r := by rw [if_pos rfl] at H; exact H
        clear H
        have H := H1
        clear H1
        obtain rfl := Option.some.inj H
        go_wp2
        go_ret
        exact ⟨by first | rfl | (simp [errW_none, errW_some] <;> rfl) | (simp [*, errW_none, errW_some] <;> rfl), by repeat (first | (with_reducible first | exact HB.out | apply below_alloc | apply pw_below_drewN | apply below_drew1 | refine below_set ?_ GE150.out) | exact HB.out)⟩
      · replace c29 := Bool.eq_false_iff.mpr c29
        subst c29
        have H1 : (spec_l21Bounds.l0 kj2 (l1_0.length : Int) 0 l1_0 a1_1 a1_2 a1_3 l1_4) = some r := by rw [if_neg (show ¬ (false = true) by decide)] at H; exact H
        clear H
        have H := H1
        clear H1
        have H' := Aside0.mk H
        clear H
        go_wp2
        go_loopg [6] kj2 (fun kq v6 w' => ∃ (x6_2 : Int), v6 = .int .i64 x6_2 ∧ Aside0 (spec_l21Bounds.l0 kq (l1_0.length : Int) x6_2 l1_0 a1_1 a1_2 a1_3 l1_4 = some r) ∧ Aside0 (kq ≤ kj2) ∧ Aside0 (w'.heap[gb150]? = some (.cells #[(.slice A1_0 l1_0.length c1_0), .int .i64 a1_1, .int .i64 a1_2, .int .i64 a1_3, (.slice A1_4 l1_4.length c1_4)] 28 (0, 0))) ∧ Aside0 (Below w.heap.size w w'))
        case atStart => exact ⟨(0), (by first | rfl | (simp; done) | (simp [*]; done)), H', ⟨Nat.le_refl _⟩, ⟨by (with_reducible repeat (first | refine blk_drewN ?_ _ | refine blk_drew ?_ | refine blk_alloc ?_ _)); exact BK150.out⟩, ⟨by repeat (first | (with_reducible first | exact HB.out | apply below_alloc | apply pw_below_drewN | apply below_drew1 | refine below_set ?_ GE150.out) | exact HB.out)⟩⟩
        case round =>
          clear H'
          try clear c1
          try clear c2
          try clear p2
          try clear c3
          try clear c7
          try clear c9
          try clear c29
          try clear p2
          obtain ⟨x6_2, rfl, HA, HK2, BK150, HB⟩ := hrel
          cases gk with
          | zero => exact absurd HA.out (by simp [spec_l21Bounds.l0])
          | succ k2 =>
            have H := HA.out
            clear HA
            simp only [spec_l21Bounds.l0] at H
            by_cases c30 : x6_2 < (l1_0.length : Int)
            · rw [if_pos c30] at H
              have c30b0 : decide (x6_2 < (l1_0.length : Int)) = true := decide_eq_true c30
              clear c30
              replace H := Option.bind_eq_some_iff.mp H
              obtain ⟨t157, A310, H⟩ := H
              replace H : (if t157 = true then (if 0 ≤ x6_2 then (if x6_2 < (l1_0.length : Int) then (if (rd l1_0 x6_2) = 0 then (spec_l21Bounds.l0 k2 (l1_0.length : Int) (wrap64 (x6_2 + 1)) l1_0 a1_1 a1_2 a1_3 l1_4) else (some false)) else (none)) else (none)) else (if x6_2 ≥ a1_3 then (if 0 ≤ x6_2 then (if x6_2 < (l1_0.length : Int) then (if (rd l1_0 x6_2) = 0 then (spec_l21Bounds.l0 k2 (l1_0.length : Int) (wrap64 (x6_2 + 1)) l1_0 a1_1 a1_2 a1_3 l1_4) else (some false)) else (none)) else (none)) else (spec_l21Bounds.l0 k2 (l1_0.length : Int) (wrap64 (x6_2 + 1)) l1_0 a1_1 a1_2 a1_3 l1_4))) = some r := H
              have A31 := Aside0.mk A310
              clear A310
              by_cases c32 : t157 = true
              · subst c32
                have H1 : (if 0 ≤ x6_2 then (if x6_2 < (l1_0.length : Int) then (if (rd l1_0 x6_2) = 0 then (spec_l21Bounds.l0 k2 (l1_0.length : Int) (wrap64 (x6_2 + 1)) l1_0 a1_1 a1_2 a1_3 l1_4) else (some false)) else (none)) else (none)) = some r := by rw [if_pos rfl] at H; exact H
                clear H
                have H := H1
                clear H1
                by_cases c33 : 0 ≤ x6_2
                · rw [if_pos c33] at H
                  have c33b0 : decide (0 ≤ x6_2) = true := decide_eq_true c33
                  clear c33
                  by_cases c34 : x6_2 < (l1_0.length : Int)
                  · rw [if_pos c34] at H
                    have c34b0 : decide (x6_2 < (l1_0.length : Int)) = true := decide_eq_true c34
                    clear c34
                    by_cases c35 : (rd l1_0 x6_2) = 0
                    · rw [if_pos c35] at H
                      have c35b0 : ((rd l1_0 x6_2) == 0) = true := beq_iff_eq.mpr c35
                      have c35b1 : ((rd l1_0 x6_2) != 0) = false := bne_eq_false_iff_eq.mpr c35
                      clear c35
                      have H' := Aside0.mk H
                      clear H
                      have hcz36_0 : wr.cell? ⟨gb150, 0, none⟩ = some (.slice A1_0 l1_0.length c1_0) := (blk_cell BK150.out 0).trans rfl
                      have hcz36_1 : wr.cell? ⟨gb150, 1, none⟩ = some (.int .i64 a1_1) := (blk_cell BK150.out 1).trans rfl
                      have hcz36_2 : wr.cell? ⟨gb150, 2, none⟩ = some (.int .i64 a1_2) := (blk_cell BK150.out 2).trans rfl
                      have hcz36_3 : wr.cell? ⟨gb150, 3, none⟩ = some (.int .i64 a1_3) := (blk_cell BK150.out 3).trans rfl
                      have hcz36_4 : wr.cell? ⟨gb150, 4, none⟩ = some (.slice A1_4 l1_4.length c1_4) := (blk_cell BK150.out 4).trans rfl
                      have hfz36_0 := blk_frozen BK150.out 0
                      have hfz36_1 := blk_frozen BK150.out 1
                      have hfz36_2 := blk_frozen BK150.out 2
                      have hfz36_3 := blk_frozen BK150.out 3
                      have hfz36_4 := blk_frozen BK150.out 4
                      go_wp2_with (first | ((with_reducible refine gate_callee (f := 37) rfl ?_); refine goesL_ (some 66) rfl rfl Try.func37 (by kernel_rfl) rfl #[.int .i64 x6_2, .int .i64 a1_2, .int .i64 (wrap64 (a1_1 - 1))] rfl (by (try simp only [List.map_toArray, List.map_cons, List.map_nil]); first | done | rfl | (simp only [List.length_drop, List.length_take]; rfl)) ?_; (with_reducible refine (spec_l6In.calls x6_2 a1_2 (wrap64 (a1_1 - 1)) true _ A31.out).mono ?_); rintro e w' ⟨rfl, ⟨nd, rfl⟩⟩; refine ⟨_, rfl, ?_⟩; have p158 : 0 ≤ (x6_2 : Int) := of_decide_eq_true (by first | (with_reducible assumption) | assumption); have q158 : x6_2 < (l1_0.length : Int) := of_decide_eq_true (by first | (with_reducible assumption) | assumption); obtain ⟨ad158, e158, hx158_0⟩ := Kd.at_int HR1_0.out x6_2 p158 q158; cases e158; replace hx158_0 := (HB.out.cell (World.block_lt_of_cell? w _ hx158_0)).trans hx158_0; replace p158 := eq_true p158; replace q158 := eq_true q158))
                      go_roundg k2
                      case measure => have := HJ2.out; have := HK2.out; omega
                      case rel => exact ⟨(wrap64 (x6_2 + 1)), (by first | rfl | (simp; done) | (simp [*]; done)), H', ⟨by have := HJ2.out; have := HK2.out; omega⟩, ⟨by (with_reducible repeat (first | refine blk_drewN ?_ _ | refine blk_drew ?_ | refine blk_alloc ?_ _)); exact BK150.out⟩, ⟨by repeat (first | (with_reducible first | exact HB.out | apply below_alloc | apply pw_below_drewN | apply below_drew1 | refine below_set ?_ GE150.out) | exact HB.out)⟩⟩
                    · rw [if_neg c35] at H
                      have c35b0 : ((rd l1_0 x6_2) == 0) = false := beq_eq_false_iff_ne.mpr c35
                      have c35b1 : ((rd l1_0 x6_2) != 0) = true := bne_iff_ne.mpr c35
                      obtain rfl := Option.some.inj H
                      have hcz37_0 : wr.cell? ⟨gb150, 0, none⟩ = some (.slice A1_0 l1_0.length c1_0) := (blk_cell BK150.out 0).trans rfl
                      have hcz37_1 : wr.cell? ⟨gb150, 1, none⟩ = some (.int .i64 a1_1) := (blk_cell BK150.out 1).trans rfl
                      have hcz37_2 : wr.cell? ⟨gb150, 2, none⟩ = some (.int .i64 a1_2) := (blk_cell BK150.out 2).trans rfl
                      have hcz37_3 : wr.cell? ⟨gb150, 3, none⟩ = some (.int .i64 a1_3) := (blk_cell BK150.out 3).trans rfl
                      have hcz37_4 : wr.cell? ⟨gb150, 4, none⟩ = some (.slice A1_4 l1_4.length c1_4) := (blk_cell BK150.out 4).trans rfl
                      have hfz37_0 := blk_frozen BK150.out 0
                      have hfz37_1 := blk_frozen BK150.out 1
                      have hfz37_2 := blk_frozen BK150.out 2
                      have hfz37_3 := blk_frozen BK150.out 3
                      have hfz37_4 := blk_frozen BK150.out 4
                      go_wp2_with (first | ((with_reducible refine gate_callee (f := 37) rfl ?_); refine goesL_ (some 66) rfl rfl Try.func37 (by kernel_rfl) rfl #[.int .i64 x6_2, .int .i64 a1_2, .int .i64 (wrap64 (a1_1 - 1))] rfl (by (try simp only [List.map_toArray, List.map_cons, List.map_nil]); first | done | rfl | (simp only [List.length_drop, List.length_take]; rfl)) ?_; (with_reducible refine (spec_l6In.calls x6_2 a1_2 (wrap64 (a1_1 - 1)) true _ A31.out).mono ?_); rintro e w' ⟨rfl, ⟨nd, rfl⟩⟩; refine ⟨_, rfl, ?_⟩; have p158 : 0 ≤ (x6_2 : Int) := of_decide_eq_true (by first | (with_reducible assumption) | assumption); have q158 : x6_2 < (l1_0.length : Int) := of_decide_eq_true (by first | (with_reducible assumption) | assumption); obtain ⟨ad158, e158, hx158_0⟩ := Kd.at_int HR1_0.out x6_2 p158 q158; cases e158; replace hx158_0 := (HB.out.cell (World.block_lt_of_cell? w _ hx158_0)).trans hx158_0; replace p158 := eq_true p158; replace q158 := eq_true q158))
                      go_ret
                      exact ⟨by first | rfl | (simp [errW_none, errW_some] <;> rfl) | (simp [*, errW_none, errW_some] <;> rfl), by repeat (first | (with_reducible first | exact HB.out | apply below_alloc | apply pw_below_drewN | apply below_drew1 | refine below_set ?_ GE150.out) | exact HB.out)⟩
                  · rw [if_neg c34] at H
                    exact absurd H (by simp)
                · rw [if_neg c33] at H
                  exact absurd H (by simp)
              · replace c32 := Bool.eq_false_iff.mpr c32
                subst c32
                have H1 : (if x6_2 ≥ a1_3 then (if 0 ≤ x6_2 then (if x6_2 < (l1_0.length : Int) then (if (rd l1_0 x6_2) = 0 then (spec_l21Bounds.l0 k2 (l1_0.length : Int) (wrap64 (x6_2 + 1)) l1_0 a1_1 a1_2 a1_3 l1_4) else (some false)) else (none)) else (none)) else (spec_l21Bounds.l0 k2 (l1_0.length : Int) (wrap64 (x6_2 + 1)) l1_0 a1_1 a1_2 a1_3 l1_4)) = some r := by rw [if_neg (show ¬ (false = true) by decide)] at H; exact H
                clear H
                have H := H1
                clear H1
                by_cases c38 : x6_2 ≥ a1_3
                · rw [if_pos c38] at H
                  have c38b0 : decide (a1_3 ≤ x6_2) = true := decide_eq_true c38
                  clear c38
                  by_cases c39 : 0 ≤ x6_2
                  · rw [if_pos c39] at H
                    have c39b0 : decide (0 ≤ x6_2) = true := decide_eq_true c39
                    clear c39
                    by_cases c40 : x6_2 < (l1_0.length : Int)
                    · rw [if_pos c40] at H
                      have c40b0 : decide (x6_2 < (l1_0.length : Int)) = true := decide_eq_true c40
                      clear c40
                      by_cases c41 : (rd l1_0 x6_2) = 0
                      · rw [if_pos c41] at H
                        have c41b0 : ((rd l1_0 x6_2) == 0) = true := beq_iff_eq.mpr c41
                        have c41b1 : ((rd l1_0 x6_2) != 0) = false := bne_eq_false_iff_eq.mpr c41
                        clear c41
                        have H' := Aside0.mk H
                        clear H
                        have hcz42_0 : wr.cell? ⟨gb150, 0, none⟩ = some (.slice A1_0 l1_0.length c1_0) := (blk_cell BK150.out 0).trans rfl
                        have hcz42_1 : wr.cell? ⟨gb150, 1, none⟩ = some (.int .i64 a1_1) := (blk_cell BK150.out 1).trans rfl
                        have hcz42_2 : wr.cell? ⟨gb150, 2, none⟩ = some (.int .i64 a1_2) := (blk_cell BK150.out 2).trans rfl
                        have hcz42_3 : wr.cell? ⟨gb150, 3, none⟩ = some (.int .i64 a1_3) := (blk_cell BK150.out 3).trans rfl
                        have hcz42_4 : wr.cell? ⟨gb150, 4, none⟩ = some (.slice A1_4 l1_4.length c1_4) := (blk_cell BK150.out 4).trans rfl
                        have hfz42_0 := blk_frozen BK150.out 0
                        have hfz42_1 := blk_frozen BK150.out 1
                        have hfz42_2 := blk_frozen BK150.out 2
                        have hfz42_3 := blk_frozen BK150.out 3
                        have hfz42_4 := blk_frozen BK150.out 4
                        go_wp2_with (first | ((with_reducible refine gate_callee (f := 37) rfl ?_); refine goesL_ (some 66) rfl rfl Try.func37 (by kernel_rfl) rfl #[.int .i64 x6_2, .int .i64 a1_2, .int .i64 (wrap64 (a1_1 - 1))] rfl (by (try simp only [List.map_toArray, List.map_cons, List.map_nil]); first | done | rfl | (simp only [List.length_drop, List.length_take]; rfl)) ?_; (with_reducible refine (spec_l6In.calls x6_2 a1_2 (wrap64 (a1_1 - 1)) false _ A31.out).mono ?_); rintro e w' ⟨rfl, ⟨nd, rfl⟩⟩; refine ⟨_, rfl, ?_⟩; have p159 : 0 ≤ (x6_2 : Int) := of_decide_eq_true (by first | (with_reducible assumption) | assumption); have q159 : x6_2 < (l1_0.length : Int) := of_decide_eq_true (by first | (with_reducible assumption) | assumption); obtain ⟨ad159, e159, hx159_0⟩ := Kd.at_int HR1_0.out x6_2 p159 q159; cases e159; replace hx159_0 := (HB.out.cell (World.block_lt_of_cell? w _ hx159_0)).trans hx159_0; replace p159 := eq_true p159; replace q159 := eq_true q159))
                        go_roundg k2
                        case measure => have := HJ2.out; have := HK2.out; omega
                        case rel => exact ⟨(wrap64 (x6_2 + 1)), (by first | rfl | (simp; done) | (simp [*]; done)), H', ⟨by have := HJ2.out; have := HK2.out; omega⟩, ⟨by (with_reducible repeat (first | refine blk_drewN ?_ _ | refine blk_drew ?_ | refine blk_alloc ?_ _)); exact BK150.out⟩, ⟨by repeat (first | (with_reducible first | exact HB.out | apply below_alloc | apply pw_below_drewN | apply below_drew1 | refine below_set ?_ GE150.out) | exact HB.out)⟩⟩
                      · rw [if_neg c41] at H
                        have c41b0 : ((rd l1_0 x6_2) == 0) = false := beq_eq_false_iff_ne.mpr c41
                        have c41b1 : ((rd l1_0 x6_2) != 0) = true := bne_iff_ne.mpr c41
                        obtain rfl := Option.some.inj H
                        have hcz43_0 : wr.cell? ⟨gb150, 0, none⟩ = some (.slice A1_0 l1_0.length c1_0) := (blk_cell BK150.out 0).trans rfl
                        have hcz43_1 : wr.cell? ⟨gb150, 1, none⟩ = some (.int .i64 a1_1) := (blk_cell BK150.out 1).trans rfl
                        have hcz43_2 : wr.cell? ⟨gb150, 2, none⟩ = some (.int .i64 a1_2) := (blk_cell BK150.out 2).trans rfl
                        have hcz43_3 : wr.cell? ⟨gb150, 3, none⟩ = some (.int .i64 a1_3) := (blk_cell BK150.out 3).trans rfl
                        have hcz43_4 : wr.cell? ⟨gb150, 4, none⟩ = some (.slice A1_4 l1_4.length c1_4) := (blk_cell BK150.out 4).trans rfl
                        have hfz43_0 := blk_frozen BK150.out 0
                        have hfz43_1 := blk_frozen BK150.out 1
                        have hfz43_2 := blk_frozen BK150.out 2
                        have hfz43_3 := blk_frozen BK150.out 3
                        have hfz43_4 := blk_frozen BK150.out 4
                        go_wp2_with (first | ((with_reducible refine gate_callee (f := 37) rfl ?_); refine goesL_ (some 66) rfl rfl Try.func37 (by kernel_rfl) rfl #[.int .i64 x6_2, .int .i64 a1_2, .int .i64 (wrap64 (a1_1 - 1))] rfl (by (try simp only [List.map_toArray, List.map_cons, List.map_nil]); first | done | rfl | (simp only [List.length_drop, List.length_take]; rfl)) ?_; (with_reducible refine (spec_l6In.calls x6_2 a1_2 (wrap64 (a1_1 - 1)) false _ A31.out).mono ?_); rintro e w' ⟨rfl, ⟨nd, rfl⟩⟩; refine ⟨_, rfl, ?_⟩; have p159 : 0 ≤ (x6_2 : Int) := of_decide_eq_true (by first | (with_reducible assumption) | assumption); have q159 : x6_2 < (l1_0.length : Int) := of_decide_eq_true (by first | (with_reducible assumption) | assumption); obtain ⟨ad159, e159, hx159_0⟩ := Kd.at_int HR1_0.out x6_2 p159 q159; cases e159; replace hx159_0 := (HB.out.cell (World.block_lt_of_cell? w _ hx159_0)).trans hx159_0; replace p159 := eq_true p159; replace q159 := eq_true q159))
                        go_ret
                        exact ⟨by first | rfl | (simp [errW_none, errW_some] <;> rfl) | (simp [*, errW_none, errW_some] <;> rfl), by repeat (first | (with_reducible first | exact HB.out | apply below_alloc | apply pw_below_drewN | apply below_drew1 | refine below_set ?_ GE150.out) | exact HB.out)⟩
                    · rw [if_neg c40] at H
                      exact absurd H (by simp)
                  · rw [if_neg c39] at H
                    exact absurd H (by simp)
                · rw [if_neg c38] at H
                  have c38b0 : decide (a1_3 ≤ x6_2) = false := decide_eq_false c38
                  clear c38
                  have H' := Aside0.mk H
                  clear H
                  have hcz44_0 : wr.cell? ⟨gb150, 0, none⟩ = some (.slice A1_0 l1_0.length c1_0) := (blk_cell BK150.out 0).trans rfl
                  have hcz44_1 : wr.cell? ⟨gb150, 1, none⟩ = some (.int .i64 a1_1) := (blk_cell BK150.out 1).trans rfl
                  have hcz44_2 : wr.cell? ⟨gb150, 2, none⟩ = some (.int .i64 a1_2) := (blk_cell BK150.out 2).trans rfl
                  have hcz44_3 : wr.cell? ⟨gb150, 3, none⟩ = some (.int .i64 a1_3) := (blk_cell BK150.out 3).trans rfl
                  have hcz44_4 : wr.cell? ⟨gb150, 4, none⟩ = some (.slice A1_4 l1_4.length c1_4) := (blk_cell BK150.out 4).trans rfl
                  have hfz44_0 := blk_frozen BK150.out 0
                  have hfz44_1 := blk_frozen BK150.out 1
                  have hfz44_2 := blk_frozen BK150.out 2
                  have hfz44_3 := blk_frozen BK150.out 3
                  have hfz44_4 := blk_frozen BK150.out 4
                  go_wp2_with (first | ((with_reducible refine gate_callee (f := 37) rfl ?_); refine goesL_ (some 66) rfl rfl Try.func37 (by kernel_rfl) rfl #[.int .i64 x6_2, .int .i64 a1_2, .int .i64 (wrap64 (a1_1 - 1))] rfl (by (try simp only [List.map_toArray, List.map_cons, List.map_nil]); first | done | rfl | (simp only [List.length_drop, List.length_take]; rfl)) ?_; (with_reducible refine (spec_l6In.calls x6_2 a1_2 (wrap64 (a1_1 - 1)) false _ A31.out).mono ?_); rintro e w' ⟨rfl, ⟨nd, rfl⟩⟩; refine ⟨_, rfl, ?_⟩))
                  go_roundg k2
                  case measure => have := HJ2.out; have := HK2.out; omega
                  case rel => exact ⟨(wrap64 (x6_2 + 1)), (by first | rfl | (simp; done) | (simp [*]; done)), H', ⟨by have := HJ2.out; have := HK2.out; omega⟩, ⟨by (with_reducible repeat (first | refine blk_drewN ?_ _ | refine blk_drew ?_ | refine blk_alloc ?_ _)); exact BK150.out⟩, ⟨by repeat (first | (with_reducible first | exact HB.out | apply below_alloc | apply pw_below_drewN | apply below_drew1 | refine below_set ?_ GE150.out) | exact HB.out)⟩⟩
            · rw [if_neg c30] at H
              have c30b0 : decide (x6_2 < (l1_0.length : Int)) = false := decide_eq_false c30
              clear c30
              obtain rfl := Option.some.inj H
              go_wp2
              go_ret
              exact ⟨by first | rfl | (simp [errW_none, errW_some] <;> rfl) | (simp [*, errW_none, errW_some] <;> rfl), by repeat (first | (with_reducible first | exact HB.out | apply below_alloc | apply pw_below_drewN | apply below_drew1 | refine below_set ?_ GE150.out) | exact HB.out)⟩
end Go.Proofs.Ytjnbilfhpdkcbaa.K
