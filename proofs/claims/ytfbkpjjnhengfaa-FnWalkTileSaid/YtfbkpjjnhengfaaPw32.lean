import Derived.Test.YtfbkpjjnhengfaaPw24
import Derived.Test.YtfbkpjjnhengfaaPw27
import Derived.Test.YtfbkpjjnhengfaaPw28
import Derived.Test.YtfbkpjjnhengfaaPw31
import Derived.Test.YtfbkpjjnhengfaaPw25
import Derived.Test.YtfbkpjjnhengfaaPw26
import Derived.Laws.Bits64
import Derived.Test.YtfbkpjjnhengfaaPw29
namespace Go.Proofs.Ytfbkpjjnhengfaa.K
open Go.RowKit Go.Proofs.YtfbkpjjnhengfaaW.PrintWords Go.Proofs.YtfbkpjjnhengfaaW.PrintLast Go.Proofs.YtfbkpjjnhengfaaW.PrintMore
attribute [local go_sem] max2_int min2_int max_two min_two max_three min_three max_four min_four
set_option linter.unusedVariables false
set_option linter.unusedSimpArgs false
def spec_MemNew.f (a0 : Int) (a1 : Int) : Option (List Int × Int × Int × Int × List Bool) := (spec_l6In.f a0 0 40).bind fun t168 => (if t168 = true then ((spec_l6In.f a1 14 120).bind fun t169 => (if t169 = true then (if 0 ≤ (wrap64 (a0 + a1)) then (if (wrap64 (a0 + a1) : Int).toNat ≤ 35184372088832 then ((spec_l21Cards.f a1).bind fun t173 => (if 0 ≤ t173 then (if (t173 : Int).toNat ≤ 281474976710656 then (some ((List.replicate (wrap64 (a0 + a1) : Int).toNat 0), a0, 0, a0, (List.replicate (t173 : Int).toNat false))) else (none)) else (none))) else (none)) else (none)) else (some (([] : List Int), 0, 0, 0, ([] : List Bool))))) else (some (([] : List Int), 0, 0, 0, ([] : List Bool))))
def spec_MemNew.T3 : Bool × List (List Nat × List Nat) := (true, [([], []), ([], []), ([0, 1], [0, 1]), ([2, 2], [2]), ([], []), ([], []), ([], []), ([6], [6]), ([7, 7], [7]), ([3, 4, 5, 8], [3, 4, 5, 8]), ([9, 7, 0, 1, 2, 3, 4, 5, 6, 7, 8, 9], [9])])
def spec_MemNew.B3 : List Nat := [0, 0, 3, 7, 0, 0, 0, 64, 192, 511, 1023]
theorem spec_MemNew.tab3 : rtab .any (opsOf Try.f96 3) = spec_MemNew.T3 := by kernel_rfl
theorem spec_MemNew.bits3 : waitsOk spec_MemNew.T3.2 spec_MemNew.B3 = true := by kernel_rfl
set_option maxHeartbeats 8000000 in
set_option maxRecDepth 100000 in
theorem spec_MemNew.calls (a0 : Int) (a1 : Int) (r1 : List Int) (r2 : Int) (r3 : Int) (r4 : Int) (r5 : List Bool) (w : World) (h : spec_MemNew.f a0 a1 = some (r1, r2, r3, r4, r5)) :
  Calls Try.prog 96 #[.int .i64 a0, .int .i64 a1] w fun e w' => ∃ v0_ v4_ : Value, e = .returned (.agg #[v0_, .int .i64 r2, .int .i64 r3, .int .i64 r4, v4_]) ∧ Kd.R (Kd.int .i64) 3 w' w.heap.size (fun _ => True) v0_ r1 ∧ Kd.R Kd.bool 4 w' w.heap.size (fun _ => True) v4_ r5 ∧ Below w.heap.size w w' := by
 have hu27 := Try.underlying27
 have HB := Aside0.mk (Below.refl w.heap.size w)
 have H : ((spec_l6In.f a0 0 40).bind fun t168 => (if t168 = true then ((spec_l6In.f a1 14 120).bind fun t169 => (if t169 = true then (if 0 ≤ (wrap64 (a0 + a1)) then (if (wrap64 (a0 + a1) : Int).toNat ≤ 35184372088832 then ((spec_l21Cards.f a1).bind fun t173 => (if 0 ≤ t173 then (if (t173 : Int).toNat ≤ 281474976710656 then (some ((List.replicate (wrap64 (a0 + a1) : Int).toNat 0), a0, 0, a0, (List.replicate (t173 : Int).toNat false))) else (none)) else (none))) else (none)) else (none)) else (some (([] : List Int), 0, 0, 0, ([] : List Bool))))) else (some (([] : List Int), 0, 0, 0, ([] : List Bool))))) = some (r1, r2, r3, r4, r5) := h
 clear h
 replace H := Option.bind_eq_some_iff.mp H
 obtain ⟨t168, A30, H⟩ := H
 try dsimp only at H
 have A3 := Aside0.mk A30
 clear A30
 by_cases c4 : t168 = true
 ·subst c4
  rw [if_pos rfl] at H
  replace H := Option.bind_eq_some_iff.mp H
  obtain ⟨t169, A50, H⟩ := H
  try dsimp only at H
  have A5 := Aside0.mk A50
  clear A50
  by_cases c6 : t169 = true
  ·subst c6
   rw [if_pos rfl] at H
   obtain ⟨ji7, hji7⟩ : ∃ j_ : Int, (wrap64 (a0 + a1)) = j_ := ⟨_, rfl⟩
   replace H : (if 0 ≤ (ji7) then (if (ji7 : Int).toNat ≤ 35184372088832 then ((spec_l21Cards.f a1).bind fun t173 => (if 0 ≤ t173 then (if (t173 : Int).toNat ≤ 281474976710656 then (some ((List.replicate (ji7 : Int).toNat 0), a0, 0, a0, (List.replicate (t173 : Int).toNat false))) else (none)) else (none))) else (none)) else (none)) = some (r1, r2, r3, r4, r5) := by first | (rw [hji7] at H; exact H) | (simp only [hji7] at H ⊢; exact H)
   (try rw [hji7] at A3)
   (try rw [hji7] at A5)
   have hji7w : (IntKind.i64.wrap (a0 + a1)) = ji7 := (i64_w _).trans hji7
   by_cases c8 : 0 ≤ (ji7)
   ·rw [if_pos c8] at H
    have c8b0 := eq_true c8
    have c8b1 : decide (0 ≤ (ji7)) = true := decide_eq_true c8
    clear c8
    by_cases c9 : (ji7 : Int).toNat ≤ 35184372088832
    ·rw [if_pos c9] at H
     have c9b0 := eq_true c9
     have c9b1 : decide ((ji7 : Int).toNat ≤ 35184372088832) = true := decide_eq_true c9
     clear c9
     obtain ⟨y170, hy170⟩ : ∃ y_ : List Int, y_ = (List.replicate (ji7 : Int).toNat 0) := ⟨_, rfl⟩
     replace H : ((spec_l21Cards.f a1).bind fun t173 => (if 0 ≤ t173 then (if (t173 : Int).toNat ≤ 281474976710656 then (some (y170, a0, 0, a0, (List.replicate (t173 : Int).toNat false))) else (none)) else (none))) = some (r1, r2, r3, r4, r5) := by first | (rw [hy170]; with_reducible exact H) | (have H2_ := (Option.bind_some _ _).symm.trans H; rw [hy170]; with_reducible exact H2_) | (have H2_ := (Option.bind_some _ _).symm.trans H; with_reducible exact H2_) | with_reducible exact H | (rw [hy170]; exact H) | exact H
     have Ny170 := Aside0.mk hy170
     clear hy170
     replace H := Option.bind_eq_some_iff.mp H
     obtain ⟨t173, A100, H⟩ := H
     try dsimp only at H
     have A10 := Aside0.mk A100
     clear A100
     by_cases c11 : 0 ≤ t173
     ·rw [if_pos c11] at H
      have c11b0 := eq_true c11
      have c11b1 : decide (0 ≤ t173) = true := decide_eq_true c11
      clear c11
      by_cases c12 : (t173 : Int).toNat ≤ 281474976710656
      ·rw [if_pos c12] at H
       have c12b0 := eq_true c12
       have c12b1 : decide ((t173 : Int).toNat ≤ 281474976710656) = true := decide_eq_true c12
       clear c12
       obtain ⟨y174, hy174⟩ : ∃ y_ : List Bool, y_ = (List.replicate (t173 : Int).toNat false) := ⟨_, rfl⟩
       replace H : (some (y170, a0, 0, a0, y174)) = some (r1, r2, r3, r4, r5) := by first | (rw [hy174]; with_reducible exact H) | (have H2_ := (Option.bind_some _ _).symm.trans H; rw [hy174]; with_reducible exact H2_) | (have H2_ := (Option.bind_some _ _).symm.trans H; with_reducible exact H2_) | with_reducible exact H | (rw [hy174]; exact H) | exact H
       have Ny174 := Aside0.mk hy174
       clear hy174
       simp only [Option.some.injEq, Prod.mk.injEq] at H
       obtain ⟨rfl, rfl, rfl, rfl, rfl⟩ := H
       go_enter Try.func96, Try.ntmps96
       try go_wp2_with (first | ((with_reducible refine gate_dst (N := 4) rfl ?_); refine box_event ?hg (N := 4) ?hd (cs := #[.slice none 0 0, .int .i64 0, .int .i64 0, .int .i64 0, .slice none 0 0]) (t := 27) ?hr ?_; (case hd => rfl); (case hg => rfl); (case hr => first | (go_simp; done) | (go_simp; rfl)); intro gb167 hg w13 hbox hb; have BK167 := Aside0.mk (hbox); have GW167 := Aside0.mk ((by rw [hg]; exact (below_size z2) : w.heap.size ≤ gb167)); have GE167 := Aside0.mk ((by rw [hg]; exact (below_size z2) : w.heap.size ≤ gb167)); replace HB := Aside0.mk (below_step z2 hb); clear hb hbox hg) | ((with_reducible refine gate_callee (f := 63) rfl ?_); refine goesL_ (some 6) rfl rfl Try.func63 (by kernel_rfl) rfl #[.int .i64 a0, .int .i64 0, .int .i64 40] rfl z1 ?_; (with_reducible refine (spec_l6In.calls a0 0 40 true _ A3.out).mono ?_); rintro e w' ⟨rfl, ⟨nd, rfl⟩⟩; refine ⟨_, rfl, ?_⟩; (try (rw [drewN_self w13]; generalize hq_ : World.drewN w13 _ = w13; have n0_ : Aside0 (w13.heap[gb167]? = some (.cells #[.slice none 0 0, .int .i64 0, .int .i64 0, .int .i64 0, .slice none 0 0] 27 (0, 0))) := ⟨by rw [← hq_]; exact z12⟩; have n1_ : Aside0 (Below w.heap.size w w13) := ⟨by rw [← hq_]; exact z6⟩; clear BK167 HB hq_; have BK167 := n0_; have HB := n1_; clear n0_ n1_))) | (go_at_call 63; (with_reducible refine (spec_l6In.calls a1 14 120 true _ A5.out).mono ?_); rintro e w' ⟨rfl, ⟨nd, rfl⟩⟩; (try (rw [drewN_self w13]; generalize hq_ : World.drewN w13 _ = w13; have n0_ : Aside0 (w13.heap[gb167]? = some (.cells #[.slice none 0 0, .int .i64 0, .int .i64 0, .int .i64 0, .slice none 0 0] 27 (0, 0))) := ⟨by rw [← hq_]; exact z12⟩; have n1_ : Aside0 (Below w.heap.size w w13) := ⟨by rw [← hq_]; exact z6⟩; clear BK167 HB hq_; have BK167 := n0_; have HB := n1_; clear n0_ n1_))))
       have n0_ := Aside0.mk (blk_drew BK167.out)
       have n1_ := Aside0.mk (below_drew1 HB.out)
       clear BK167
       clear HB
       have BK167 := n0_
       have HB := n1_
       clear n0_ n1_
       refine start_ (n := 11) (S := fun w' => True) (ds := []) #[false, false, false, false, false, false, false, false, false, false, false] (by kernel_rfl) rfl rfl trivial (fun hHeld => ?_); refine with_tabW spec_MemNew.tab3 spec_MemNew.bits3 (fun HT_ HW_ => ?_)
       generalize w13.drew = w14 at BK167 HB hHeld ⊢
       refine pS 0 14 #[true, false, false, false, false, false, false, false, false, false, false] ?_ (hc := (any_of HT_.out (by kernel_rfl)))
       refine pS 1 15 #[true, true, false, false, false, false, false, false, false, false, false] ?_ (hc := (any_of HT_.out (by kernel_rfl)))
       refine pS 2 16 #[true, true, true, false, false, false, false, false, false, false, false] ?_ (hc := (any_of HT_.out (by kernel_rfl)))
       refine pS 4 18 #[true, true, true, false, true, false, false, false, false, false, false] ?_ (hc := (any_of HT_.out (by kernel_rfl)))
       refine pS 5 19 #[true, true, true, false, true, true, false, false, false, false, false] ?_ (hc := (any_of HT_.out (by kernel_rfl)))
       refine pS 6 20 #[true, true, true, false, true, true, true, false, false, false, false] ?_ (hc := (any_of HT_.out (by kernel_rfl)))
       refine join_ (σ := Value × Value) 2 #[true, true, true, true, true, true, true, true, true, false, false] (fun s_ => [(17, s_.1), (21, .int .i64 t173), (22, s_.2)]) (fun s_ w' => (Kd.R (Kd.int .i64) 3 w' w.heap.size (fun _ => True) s_.1 y170) ∧ (Kd.R Kd.bool 4 w' w.heap.size (fun _ => True) s_.2 y174) ∧ (w'.heap[gb167]? = some (.cells #[.slice none 0 0, .int .i64 0, .int .i64 0, .int .i64 0, .slice none 0 0] 27 (0, 0))) ∧ (Below w.heap.size w w')) ?_ ?_
       rotate_left
       ·intro hCont
        refine two_ (i := 3) (j := 7) (Ni := some 17) (Nj := some 21) #[true, true, true, true, true, true, true, false, false, false, false] #[true, true, true, false, true, true, true, true, false, false, false] rfl rfl rfl rfl (two_of HT_.out (by kernel_rfl)) (by decide) (by decide) (fun K hK => ?_) (fun K hK => ?_)
        ·skip
         refine Kd.R_make_step (Kd.int .i64) _ 3 (by rfl) (N := 17) rfl 24 _ _ rfl ji7 rfl rfl Try.underlying24 (.int .i64 0) 8 info3 rfl (by decide) (by omega) 0 (ok := fun _ => True) (okp := fun _ => True) rfl (fun _ hk => hk) trivial (of_decide_eq_true z3) (Nat.le_trans (Nat.mul_le_mul_right _ (of_decide_eq_true z3 : ji7.toNat ≤ 35184372088832)) (by omega)) (Below.refl _ _) (Nat.le_refl _) ?_
         intro v171 w15 ho16 hb hg_ hnew_
         clear hg_ hnew_
         (first | rw [← Ny170.out] at ho16 | (simp only [Int.reduceToNat] at ho16; rw [← Ny170.out] at ho16))
         have n0_ := Aside0.mk (Kd.R_lower ho16 (below_size z6))
         have n1_ := Aside0.mk (blk_below (g := gb167) (o := .cells #[.slice none 0 0, .int .i64 0, .int .i64 0, .int .i64 0, .slice none 0 0] 27 (0, 0)) z12 hb)
         have n2_ := Aside0.mk (below_step z6 hb)
         clear BK167
         clear HB
         have HO172 := n0_
         have BK167 := n1_
         have HB := n2_
         clear n0_ n1_ n2_
         clear hb ho16
         refine hK.out _ _ trivial (fun hHeld => ?_)
         clear hK K
         refine norm_ (a' := ?_) ?_ ?_
         rotate_left
         ·show Act.put _ (some 17) _ = _
          simp only [Act.put, lA1, lA2, lA3, i64_w, i32_w]
          rfl
         refine one_ (i := 7) (N := some 21) #[true, true, true, true, true, true, true, true, false, false, false] rfl rfl (one_of HT_.out (by kernel_rfl)) (by decide) (fun K hK => ?_)
         refine goes_ Try.func64 (by kernel_rfl) rfl #[.int .i64 a1] (by rfl) rfl rfl z1 ?_
         with_reducible refine (spec_l21Cards.calls a1 t173 _ A10.out).mono ?_
         rintro e w' ⟨rfl, ⟨nd, rfl⟩⟩
         refine ⟨_, rfl, ?_⟩
         refine hK.out _ _ trivial (fun hHeld => ?_)
         clear hK K
         refine norm_ (a' := ?_) ?_ ?_
         rotate_left
         ·show Act.put _ (some 21) _ = _
          simp only [Act.put, lA1, lA2, lA3, i64_w, i32_w]
          rfl
         refine one_ (i := 8) (N := some 22) #[true, true, true, true, true, true, true, true, true, false, false] rfl rfl (one_of HT_.out (by kernel_rfl)) (by decide) (fun K hK => ?_)
         refine Kd.R_make_step Kd.bool _ 4 (by rfl) (N := 22) rfl 25 _ _ rfl t173 rfl rfl Try.underlying25 (.bool false) 1 info4 rfl (by decide) (by omega) false (ok := fun _ => True) (okp := fun _ => True) rfl (fun _ hk => hk) trivial (of_decide_eq_true z3) (Nat.le_trans (Nat.mul_le_mul_right _ (of_decide_eq_true z3 : t173.toNat ≤ 281474976710656)) (by omega)) (Below.refl _ _) (Nat.le_refl _) ?_
         intro v175 w17 ho18 hb hg_ hnew_
         clear hg_ hnew_
         (first | rw [← Ny174.out] at ho18 | (simp only [Int.reduceToNat] at ho18; rw [← Ny174.out] at ho18))
         have n0_ := Aside0.mk (Kd.R_below z27 hb)
         have n1_ := Aside0.mk (Kd.R_lower ho18 (below_size z6))
         have n2_ := Aside0.mk (blk_below (g := gb167) (o := .cells #[.slice none 0 0, .int .i64 0, .int .i64 0, .int .i64 0, .slice none 0 0] 27 (0, 0)) z12 hb)
         have n3_ := Aside0.mk (below_step z6 hb)
         clear HO172
         clear BK167
         clear HB
         have HO172 := n0_
         have HO176 := n1_
         have BK167 := n2_
         have HB := n3_
         clear n0_ n1_ n2_ n3_
         clear hb ho18
         obtain ⟨Ao19, co19, eo19⟩ := Kd.R_slice HO176.out
         (first | subst eo19 | (injection eo19 with f1_ f2_ f3_; have f4_ := f1_.symm; have f5_ := f3_.symm; clear f1_ f2_ f3_; subst f4_; subst f5_))
         obtain ⟨Ao20, co20, eo20⟩ := Kd.R_slice HO172.out
         (first | subst eo20 | (injection eo20 with f1_ f2_ f3_; have f4_ := f1_.symm; have f5_ := f3_.symm; clear f1_ f2_ f3_; subst f4_; subst f5_))
         refine hK.out _ _ trivial (fun hHeld => ?_)
         clear hK K
         refine norm_ (a' := ?_) ?_ ?_
         rotate_left
         ·show Act.put _ (some 22) _ = _
          simp only [Act.put, lA1, lA2, lA3, i64_w, i32_w]
          rfl
         exact norm_ z16 (hCont (.slice Ao20 y170.length co20, .slice Ao19 y174.length co19) _ ⟨z27, (by (with_reducible repeat (first | apply Kd.R_alloc | apply Kd.R_drewN | apply Kd.R_drew)); exact HO176.out), z12, z6⟩)
        ·skip
         refine goes_ Try.func64 (by kernel_rfl) rfl #[.int .i64 a1] (by rfl) rfl rfl z1 ?_
         with_reducible refine (spec_l21Cards.calls a1 t173 _ A10.out).mono ?_
         rintro e w' ⟨rfl, ⟨nd, rfl⟩⟩
         refine ⟨_, rfl, ?_⟩
         refine hK.out _ _ trivial (fun hHeld => ?_)
         clear hK K
         refine norm_ (a' := ?_) ?_ ?_
         rotate_left
         ·show Act.put _ (some 21) _ = _
          simp only [Act.put, lA1, lA2, lA3, i64_w, i32_w]
          rfl
         refine two_ (i := 3) (j := 8) (Ni := some 17) (Nj := some 22) #[true, true, true, true, true, true, true, true, false, false, false] #[true, true, true, false, true, true, true, true, true, false, false] rfl rfl rfl rfl (two_of HT_.out (by kernel_rfl)) (by decide) (by decide) (fun K hK => ?_) (fun K hK => ?_)
         ·skip
          refine Kd.R_make_step (Kd.int .i64) _ 3 (by rfl) (N := 17) rfl 24 _ _ rfl ji7 rfl rfl Try.underlying24 (.int .i64 0) 8 info3 rfl (by decide) (by omega) 0 (ok := fun _ => True) (okp := fun _ => True) rfl (fun _ hk => hk) trivial (of_decide_eq_true z3) (Nat.le_trans (Nat.mul_le_mul_right _ (of_decide_eq_true z3 : ji7.toNat ≤ 35184372088832)) (by omega)) (Below.refl _ _) (Nat.le_refl _) ?_
          intro v171 w15 ho16 hb hg_ hnew_
          clear hg_ hnew_
          (first | rw [← Ny170.out] at ho16 | (simp only [Int.reduceToNat] at ho16; rw [← Ny170.out] at ho16))
          have n0_ := Aside0.mk (Kd.R_lower ho16 (below_size z6))
          have n1_ := Aside0.mk (blk_below (g := gb167) (o := .cells #[.slice none 0 0, .int .i64 0, .int .i64 0, .int .i64 0, .slice none 0 0] 27 (0, 0)) z12 hb)
          have n2_ := Aside0.mk (below_step z6 hb)
          clear BK167
          clear HB
          have HO172 := n0_
          have BK167 := n1_
          have HB := n2_
          clear n0_ n1_ n2_
          clear hb ho16
          refine hK.out _ _ trivial (fun hHeld => ?_)
          clear hK K
          refine norm_ (a' := ?_) ?_ ?_
          rotate_left
          ·show Act.put _ (some 17) _ = _
           simp only [Act.put, lA1, lA2, lA3, i64_w, i32_w]
           rfl
          refine one_ (i := 8) (N := some 22) #[true, true, true, true, true, true, true, true, true, false, false] rfl rfl (one_of HT_.out (by kernel_rfl)) (by decide) (fun K hK => ?_)
          refine Kd.R_make_step Kd.bool _ 4 (by rfl) (N := 22) rfl 25 _ _ rfl t173 rfl rfl Try.underlying25 (.bool false) 1 info4 rfl (by decide) (by omega) false (ok := fun _ => True) (okp := fun _ => True) rfl (fun _ hk => hk) trivial (of_decide_eq_true z3) (Nat.le_trans (Nat.mul_le_mul_right _ (of_decide_eq_true z3 : t173.toNat ≤ 281474976710656)) (by omega)) (Below.refl _ _) (Nat.le_refl _) ?_
          intro v175 w17 ho18 hb hg_ hnew_
          clear hg_ hnew_
          (first | rw [← Ny174.out] at ho18 | (simp only [Int.reduceToNat] at ho18; rw [← Ny174.out] at ho18))
          have n0_ := Aside0.mk (Kd.R_below z27 hb)
          have n1_ := Aside0.mk (Kd.R_lower ho18 (below_size z6))
          have n2_ := Aside0.mk (blk_below (g := gb167) (o := .cells #[.slice none 0 0, .int .i64 0, .int .i64 0, .int .i64 0, .slice none 0 0] 27 (0, 0)) z12 hb)
          have n3_ := Aside0.mk (below_step z6 hb)
          clear HO172
          clear BK167
          clear HB
          have HO172 := n0_
          have HO176 := n1_
          have BK167 := n2_
          have HB := n3_
          clear n0_ n1_ n2_ n3_
          clear hb ho18
          obtain ⟨Ao19, co19, eo19⟩ := Kd.R_slice HO176.out
          (first | subst eo19 | (injection eo19 with f1_ f2_ f3_; have f4_ := f1_.symm; have f5_ := f3_.symm; clear f1_ f2_ f3_; subst f4_; subst f5_))
          obtain ⟨Ao20, co20, eo20⟩ := Kd.R_slice HO172.out
          (first | subst eo20 | (injection eo20 with f1_ f2_ f3_; have f4_ := f1_.symm; have f5_ := f3_.symm; clear f1_ f2_ f3_; subst f4_; subst f5_))
          refine hK.out _ _ trivial (fun hHeld => ?_)
          clear hK K
          refine norm_ (a' := ?_) ?_ ?_
          rotate_left
          ·show Act.put _ (some 22) _ = _
           simp only [Act.put, lA1, lA2, lA3, i64_w, i32_w]
           rfl
          exact norm_ z16 (hCont (.slice Ao20 y170.length co20, .slice Ao19 y174.length co19) _ ⟨z27, (by (with_reducible repeat (first | apply Kd.R_alloc | apply Kd.R_drewN | apply Kd.R_drew)); exact HO176.out), z12, z6⟩)
         ·skip
          refine Kd.R_make_step Kd.bool _ 4 (by rfl) (N := 22) rfl 25 _ _ rfl t173 rfl rfl Try.underlying25 (.bool false) 1 info4 rfl (by decide) (by omega) false (ok := fun _ => True) (okp := fun _ => True) rfl (fun _ hk => hk) trivial (of_decide_eq_true z3) (Nat.le_trans (Nat.mul_le_mul_right _ (of_decide_eq_true z3 : t173.toNat ≤ 281474976710656)) (by omega)) (Below.refl _ _) (Nat.le_refl _) ?_
          intro v175 w15 ho16 hb hg_ hnew_
          clear hg_ hnew_
          (first | rw [← Ny174.out] at ho16 | (simp only [Int.reduceToNat] at ho16; rw [← Ny174.out] at ho16))
          have n0_ := Aside0.mk (Kd.R_lower ho16 (below_size z6))
          have n1_ := Aside0.mk (blk_below (g := gb167) (o := .cells #[.slice none 0 0, .int .i64 0, .int .i64 0, .int .i64 0, .slice none 0 0] 27 (0, 0)) z12 hb)
          have n2_ := Aside0.mk (below_step z6 hb)
          clear BK167
          clear HB
          have HO176 := n0_
          have BK167 := n1_
          have HB := n2_
          clear n0_ n1_ n2_
          clear hb ho16
          refine hK.out _ _ trivial (fun hHeld => ?_)
          clear hK K
          refine norm_ (a' := ?_) ?_ ?_
          rotate_left
          ·show Act.put _ (some 22) _ = _
           simp only [Act.put, lA1, lA2, lA3, i64_w, i32_w]
           rfl
          refine one_ (i := 3) (N := some 17) #[true, true, true, true, true, true, true, true, true, false, false] rfl rfl (one_of HT_.out (by kernel_rfl)) (by decide) (fun K hK => ?_)
          refine Kd.R_make_step (Kd.int .i64) _ 3 (by rfl) (N := 17) rfl 24 _ _ rfl ji7 rfl rfl Try.underlying24 (.int .i64 0) 8 info3 rfl (by decide) (by omega) 0 (ok := fun _ => True) (okp := fun _ => True) rfl (fun _ hk => hk) trivial (of_decide_eq_true z3) (Nat.le_trans (Nat.mul_le_mul_right _ (of_decide_eq_true z3 : ji7.toNat ≤ 35184372088832)) (by omega)) (Below.refl _ _) (Nat.le_refl _) ?_
          intro v171 w17 ho18 hb hg_ hnew_
          clear hg_ hnew_
          (first | rw [← Ny170.out] at ho18 | (simp only [Int.reduceToNat] at ho18; rw [← Ny170.out] at ho18))
          have n0_ := Aside0.mk (Kd.R_below (by (with_reducible repeat (first | apply Kd.R_alloc | apply Kd.R_drewN | apply Kd.R_drew)); exact HO176.out) hb)
          have n1_ := Aside0.mk (Kd.R_lower ho18 (below_size z6))
          have n2_ := Aside0.mk (blk_below (g := gb167) (o := .cells #[.slice none 0 0, .int .i64 0, .int .i64 0, .int .i64 0, .slice none 0 0] 27 (0, 0)) z12 hb)
          have n3_ := Aside0.mk (below_step z6 hb)
          clear HO176
          clear BK167
          clear HB
          have HO176 := n0_
          have HO172 := n1_
          have BK167 := n2_
          have HB := n3_
          clear n0_ n1_ n2_ n3_
          clear hb ho18
          obtain ⟨Ao19, co19, eo19⟩ := Kd.R_slice HO176.out
          (first | subst eo19 | (injection eo19 with f1_ f2_ f3_; have f4_ := f1_.symm; have f5_ := f3_.symm; clear f1_ f2_ f3_; subst f4_; subst f5_))
          obtain ⟨Ao20, co20, eo20⟩ := Kd.R_slice HO172.out
          (first | subst eo20 | (injection eo20 with f1_ f2_ f3_; have f4_ := f1_.symm; have f5_ := f3_.symm; clear f1_ f2_ f3_; subst f4_; subst f5_))
          refine hK.out _ _ trivial (fun hHeld => ?_)
          clear hK K
          refine norm_ (a' := ?_) ?_ ?_
          rotate_left
          ·show Act.put _ (some 17) _ = _
           simp only [Act.put, lA1, lA2, lA3, i64_w, i32_w]
           rfl
          exact norm_ z16 (hCont (.slice Ao20 y170.length co20, .slice Ao19 y174.length co19) _ ⟨z27, (by (with_reducible repeat (first | apply Kd.R_alloc | apply Kd.R_drewN | apply Kd.R_drew)); exact HO176.out), z12, z6⟩)
       rintro ⟨v171, v175⟩ w21 ⟨h0_, h1_, h2_, h3_⟩
       have n0_ : Aside0 (Kd.R (Kd.int .i64) 3 w21 w.heap.size (fun _ => True) v171 y170) := ⟨h0_⟩
       have n1_ : Aside0 (Kd.R Kd.bool 4 w21 w.heap.size (fun _ => True) v175 y174) := ⟨h1_⟩
       have n2_ : Aside0 (w21.heap[gb167]? = some (.cells #[.slice none 0 0, .int .i64 0, .int .i64 0, .int .i64 0, .slice none 0 0] 27 (0, 0))) := ⟨h2_⟩
       have n3_ : Aside0 (Below w.heap.size w w21) := ⟨h3_⟩
       clear BK167
       clear HB
       clear h0_ h1_ h2_ h3_
       have HO172 := n0_
       have HO176 := n1_
       have BK167 := n2_
       have HB := n3_
       clear n0_ n1_ n2_ n3_
       have hHeld := trivial
       obtain ⟨Ao22, co22, eo22⟩ := Kd.R_slice HO176.out
       (first | subst eo22 | (injection eo22 with f1_ f2_ f3_; have f4_ := f1_.symm; have f5_ := f3_.symm; clear f1_ f2_ f3_; subst f4_; subst f5_))
       obtain ⟨Ao23, co23, eo23⟩ := Kd.R_slice HO172.out
       (first | subst eo23 | (injection eo23 with f1_ f2_ f3_; have f4_ := f1_.symm; have f5_ := f3_.symm; clear f1_ f2_ f3_; subst f4_; subst f5_))
       refine norm_ (a' := ?_) ?_ ?_
       rotate_left
       ·simp only [putAll, Act.put, List.setIfInBounds_toArray, List.set_cons_zero, List.set_cons_succ]
        rfl
       refine pS 9 23 #[true, true, true, true, true, true, true, true, true, true, false] ?_ (hc := (any_of HT_.out (by kernel_rfl)))
       refine one_ (i := 10) (N := none) #[true, true, true, true, true, true, true, true, true, true, true] rfl rfl (one_of HT_.out (by kernel_rfl)) (by decide) (fun K hK => ?_)
       have hs24 : w21.cell? ⟨gb167, 0, none⟩ = some (.slice none 0 0) := (blk_cell BK167.out 0).trans rfl
       have hfs24 := blk_frozen BK167.out 0
       have hs25 : w21.cell? ⟨gb167, 1, none⟩ = some (.int .i64 0) := (blk_cell BK167.out 1).trans rfl
       have hfs25 := blk_frozen BK167.out 1
       have hs26 : w21.cell? ⟨gb167, 2, none⟩ = some (.int .i64 0) := (blk_cell BK167.out 2).trans rfl
       have hfs26 := blk_frozen BK167.out 2
       have hs27 : w21.cell? ⟨gb167, 3, none⟩ = some (.int .i64 0) := (blk_cell BK167.out 3).trans rfl
       have hfs27 := blk_frozen BK167.out 3
       have hs28 : w21.cell? ⟨gb167, 4, none⟩ = some (.slice none 0 0) := (blk_cell BK167.out 4).trans rfl
       have hfs28 := blk_frozen BK167.out 4
       refine skip_ (w1 := ?_) (by rfl) rfl ?_ ?_
       rotate_left
       ·go_simp
        rfl
       refine hK.out _ _ trivial (fun hHeld => ?_)
       clear hK K
       refine done_ (done_of HT_.out (by kernel_rfl)) ?_
       try go_wp2
       refine bodyPost_ret (results_cell_row rfl _ _ gb167 27 #[.slice Ao23 y170.length co23, .int .i64 a0, .int .i64 0, .int .i64 a0, .slice Ao22 y174.length co22] (0, 0) _ rfl (by (with_reducible repeat (first | refine blk_drewN ?_ _ | refine blk_drew ?_ | refine blk_alloc ?_ _)); refine blk_put (cs := #[.slice Ao23 y170.length co23, .int .i64 a0, .int .i64 0, .int .i64 a0, .slice none 0 0]) ?_ 4 _ rfl; (with_reducible repeat (first | refine blk_drewN ?_ _ | refine blk_drew ?_ | refine blk_alloc ?_ _)); refine blk_put (cs := #[.slice Ao23 y170.length co23, .int .i64 a0, .int .i64 0, .int .i64 0, .slice none 0 0]) ?_ 3 _ rfl; (with_reducible repeat (first | refine blk_drewN ?_ _ | refine blk_drew ?_ | refine blk_alloc ?_ _)); refine blk_put (cs := #[.slice Ao23 y170.length co23, .int .i64 a0, .int .i64 0, .int .i64 0, .slice none 0 0]) ?_ 2 _ rfl; (with_reducible repeat (first | refine blk_drewN ?_ _ | refine blk_drew ?_ | refine blk_alloc ?_ _)); refine blk_put (cs := #[.slice Ao23 y170.length co23, .int .i64 0, .int .i64 0, .int .i64 0, .slice none 0 0]) ?_ 1 _ rfl; (with_reducible repeat (first | refine blk_drewN ?_ _ | refine blk_drew ?_ | refine blk_alloc ?_ _)); refine blk_put (cs := #[.slice none 0 0, .int .i64 0, .int .i64 0, .int .i64 0, .slice none 0 0]) ?_ 0 _ rfl; (with_reducible repeat (first | refine blk_drewN ?_ _ | refine blk_drew ?_ | refine blk_alloc ?_ _)); exact BK167.out) Try.underlying27 rfl (by kernel_rfl)) rfl ?_
       exact ⟨_, _, by first | rfl | (simp [errW_none, errW_some] <;> rfl) | (simp only [← hji7]; first | rfl | (simp [errW_none, errW_some] <;> rfl)) | (simp [*, errW_none, errW_some] <;> rfl), by (with_reducible repeat (first | apply Kd.R_alloc | apply Kd.R_drewN | apply Kd.R_drew)); exact Kd.R_mono (Kd.R_far (p := ⟨gb167, 4, none⟩) (Kd.R_far (p := ⟨gb167, 3, none⟩) (Kd.R_far (p := ⟨gb167, 2, none⟩) (Kd.R_far (p := ⟨gb167, 1, none⟩) (Kd.R_far (p := ⟨gb167, 0, none⟩) (Kd.R_types HO172.out BK167.out (by decide)) (fun _ hk => hk.2) (.slice Ao23 y170.length co23)) (fun _ hk => hk.2) (.int .i64 a0)) (fun _ hk => hk.2) (.int .i64 0)) (fun _ hk => hk.2) (.int .i64 a0)) (fun _ hk => hk.2) (.slice Ao22 y174.length co22)) (fun _ hk => trivial), by (with_reducible repeat (first | apply Kd.R_alloc | apply Kd.R_drewN | apply Kd.R_drew)); exact Kd.R_mono (Kd.R_far (p := ⟨gb167, 4, none⟩) (Kd.R_far (p := ⟨gb167, 3, none⟩) (Kd.R_far (p := ⟨gb167, 2, none⟩) (Kd.R_far (p := ⟨gb167, 1, none⟩) (Kd.R_far (p := ⟨gb167, 0, none⟩) (Kd.R_types HO176.out BK167.out (by decide)) (fun _ hk => hk.2) (.slice Ao23 y170.length co23)) (fun _ hk => hk.2) (.int .i64 a0)) (fun _ hk => hk.2) (.int .i64 0)) (fun _ hk => hk.2) (.int .i64 a0)) (fun _ hk => hk.2) (.slice Ao22 y174.length co22)) (fun _ hk => trivial), by repeat (first | (with_reducible first | exact HB.out | apply below_alloc | apply pw_below_drewN | apply below_drew1 | refine below_set ?_ GE167.out) | exact HB.out)⟩
      ·rw [if_neg c12] at H
       exact absurd H (by simp)
     ·rw [if_neg c11] at H
      exact absurd H (by simp)
    ·rw [if_neg c9] at H
     exact absurd H (by simp)
   ·rw [if_neg c8] at H
    exact absurd H (by simp)
  ·replace c6 := Bool.eq_false_iff.mpr c6
   subst c6
   rw [if_neg (show ¬ (false = true) by decide)] at H
   simp only [Option.some.injEq, Prod.mk.injEq] at H
   obtain ⟨rfl, rfl, rfl, rfl, rfl⟩ := H
   go_enter Try.func96, Try.ntmps96
   go_wp2_with (first | ((with_reducible refine gate_dst (N := 4) rfl ?_); refine box_event ?hg (N := 4) ?hd (cs := #[.slice none 0 0, .int .i64 0, .int .i64 0, .int .i64 0, .slice none 0 0]) (t := 27) ?hr ?_; (case hd => rfl); (case hg => rfl); (case hr => first | (go_simp; done) | (go_simp; rfl)); intro gb167 hg w29 hbox hb; have BK167 := Aside0.mk (hbox); have GW167 := Aside0.mk ((by rw [hg]; exact (below_size z2) : w.heap.size ≤ gb167)); have GE167 := Aside0.mk ((by rw [hg]; exact (below_size z2) : w.heap.size ≤ gb167)); replace HB := Aside0.mk (below_step z2 hb); clear hb hbox hg) | ((with_reducible refine gate_callee (f := 63) rfl ?_); refine goesL_ (some 6) rfl rfl Try.func63 (by kernel_rfl) rfl #[.int .i64 a0, .int .i64 0, .int .i64 40] rfl z1 ?_; (with_reducible refine (spec_l6In.calls a0 0 40 true _ A3.out).mono ?_); rintro e w' ⟨rfl, ⟨nd, rfl⟩⟩; refine ⟨_, rfl, ?_⟩; (try (rw [drewN_self w29]; generalize hq_ : World.drewN w29 _ = w29; have n0_ : Aside0 (w29.heap[gb167]? = some (.cells #[.slice none 0 0, .int .i64 0, .int .i64 0, .int .i64 0, .slice none 0 0] 27 (0, 0))) := ⟨by rw [← hq_]; exact z12⟩; have n1_ : Aside0 (Below w.heap.size w w29) := ⟨by rw [← hq_]; exact z6⟩; clear BK167 HB hq_; have BK167 := n0_; have HB := n1_; clear n0_ n1_))) | (go_at_call 63; (with_reducible refine (spec_l6In.calls a1 14 120 false _ A5.out).mono ?_); rintro e w' ⟨rfl, ⟨nd, rfl⟩⟩; (try (rw [drewN_self w29]; generalize hq_ : World.drewN w29 _ = w29; have n0_ : Aside0 (w29.heap[gb167]? = some (.cells #[.slice none 0 0, .int .i64 0, .int .i64 0, .int .i64 0, .slice none 0 0] 27 (0, 0))) := ⟨by rw [← hq_]; exact z12⟩; have n1_ : Aside0 (Below w.heap.size w w29) := ⟨by rw [← hq_]; exact z6⟩; clear BK167 HB hq_; have BK167 := n0_; have HB := n1_; clear n0_ n1_)); obtain ⟨hcz30_0, hcz30_1, hcz30_2, hcz30_3, hcz30_4, hfz30_0, hfz30_1, hfz30_2, hfz30_3, hfz30_4⟩ := cbf5 BK167))
   refine bodyPost_ret (results_cell_row rfl _ _ gb167 27 #[.slice none 0 0, .int .i64 0, .int .i64 0, .int .i64 0, .slice none 0 0] (0, 0) _ rfl (by (with_reducible repeat (first | refine blk_drewN ?_ _ | refine blk_drew ?_ | refine blk_alloc ?_ _)); refine blk_put (cs := #[.slice none 0 0, .int .i64 0, .int .i64 0, .int .i64 0, .slice none 0 0]) ?_ 4 _ rfl; (with_reducible repeat (first | refine blk_drewN ?_ _ | refine blk_drew ?_ | refine blk_alloc ?_ _)); refine blk_put (cs := #[.slice none 0 0, .int .i64 0, .int .i64 0, .int .i64 0, .slice none 0 0]) ?_ 3 _ rfl; (with_reducible repeat (first | refine blk_drewN ?_ _ | refine blk_drew ?_ | refine blk_alloc ?_ _)); refine blk_put (cs := #[.slice none 0 0, .int .i64 0, .int .i64 0, .int .i64 0, .slice none 0 0]) ?_ 2 _ rfl; (with_reducible repeat (first | refine blk_drewN ?_ _ | refine blk_drew ?_ | refine blk_alloc ?_ _)); refine blk_put (cs := #[.slice none 0 0, .int .i64 0, .int .i64 0, .int .i64 0, .slice none 0 0]) ?_ 1 _ rfl; (with_reducible repeat (first | refine blk_drewN ?_ _ | refine blk_drew ?_ | refine blk_alloc ?_ _)); refine blk_put (cs := #[.slice none 0 0, .int .i64 0, .int .i64 0, .int .i64 0, .slice none 0 0]) ?_ 0 _ rfl; (with_reducible repeat (first | refine blk_drewN ?_ _ | refine blk_drew ?_ | refine blk_alloc ?_ _)); exact BK167.out) Try.underlying27 rfl (by kernel_rfl)) rfl ?_
   exact ⟨_, _, by first | rfl | (simp [errW_none, errW_some] <;> rfl) | (simp [*, errW_none, errW_some] <;> rfl), by first | exact Kd.R_nil _ _ _ _ _ | exact Kd.N_nil _ _ _ _ _ | exact Kd.V_nil _ _ _ _ _ | exact Kd.Q_nil _ _ _ _ _ | exact Kd.S_nil _ _ _ _ _, by first | exact Kd.R_nil _ _ _ _ _ | exact Kd.N_nil _ _ _ _ _ | exact Kd.V_nil _ _ _ _ _ | exact Kd.Q_nil _ _ _ _ _ | exact Kd.S_nil _ _ _ _ _, by repeat (first | (with_reducible first | exact HB.out | apply below_alloc | apply pw_below_drewN | apply below_drew1 | refine below_set ?_ GE167.out) | exact HB.out)⟩
 ·replace c4 := Bool.eq_false_iff.mpr c4
  subst c4
  rw [if_neg (show ¬ (false = true) by decide)] at H
  simp only [Option.some.injEq, Prod.mk.injEq] at H
  obtain ⟨rfl, rfl, rfl, rfl, rfl⟩ := H
  go_enter Try.func96, Try.ntmps96
  go_wp2_with (first | ((with_reducible refine gate_dst (N := 4) rfl ?_); refine box_event ?hg (N := 4) ?hd (cs := #[.slice none 0 0, .int .i64 0, .int .i64 0, .int .i64 0, .slice none 0 0]) (t := 27) ?hr ?_; (case hd => rfl); (case hg => rfl); (case hr => first | (go_simp; done) | (go_simp; rfl)); intro gb167 hg w31 hbox hb; have BK167 := Aside0.mk (hbox); have GW167 := Aside0.mk ((by rw [hg]; exact (below_size z2) : w.heap.size ≤ gb167)); have GE167 := Aside0.mk ((by rw [hg]; exact (below_size z2) : w.heap.size ≤ gb167)); replace HB := Aside0.mk (below_step z2 hb); clear hb hbox hg) | ((with_reducible refine gate_callee (f := 63) rfl ?_); refine goesL_ (some 6) rfl rfl Try.func63 (by kernel_rfl) rfl #[.int .i64 a0, .int .i64 0, .int .i64 40] rfl z1 ?_; (with_reducible refine (spec_l6In.calls a0 0 40 false _ A3.out).mono ?_); rintro e w' ⟨rfl, ⟨nd, rfl⟩⟩; refine ⟨_, rfl, ?_⟩; (try (rw [drewN_self w31]; generalize hq_ : World.drewN w31 _ = w31; have n0_ : Aside0 (w31.heap[gb167]? = some (.cells #[.slice none 0 0, .int .i64 0, .int .i64 0, .int .i64 0, .slice none 0 0] 27 (0, 0))) := ⟨by rw [← hq_]; exact z12⟩; have n1_ : Aside0 (Below w.heap.size w w31) := ⟨by rw [← hq_]; exact z6⟩; clear BK167 HB hq_; have BK167 := n0_; have HB := n1_; clear n0_ n1_)); obtain ⟨hcz32_0, hcz32_1, hcz32_2, hcz32_3, hcz32_4, hfz32_0, hfz32_1, hfz32_2, hfz32_3, hfz32_4⟩ := cbf5 BK167))
  refine bodyPost_ret (results_cell_row rfl _ _ gb167 27 #[.slice none 0 0, .int .i64 0, .int .i64 0, .int .i64 0, .slice none 0 0] (0, 0) _ rfl (by (with_reducible repeat (first | refine blk_drewN ?_ _ | refine blk_drew ?_ | refine blk_alloc ?_ _)); refine blk_put (cs := #[.slice none 0 0, .int .i64 0, .int .i64 0, .int .i64 0, .slice none 0 0]) ?_ 4 _ rfl; (with_reducible repeat (first | refine blk_drewN ?_ _ | refine blk_drew ?_ | refine blk_alloc ?_ _)); refine blk_put (cs := #[.slice none 0 0, .int .i64 0, .int .i64 0, .int .i64 0, .slice none 0 0]) ?_ 3 _ rfl; (with_reducible repeat (first | refine blk_drewN ?_ _ | refine blk_drew ?_ | refine blk_alloc ?_ _)); refine blk_put (cs := #[.slice none 0 0, .int .i64 0, .int .i64 0, .int .i64 0, .slice none 0 0]) ?_ 2 _ rfl; (with_reducible repeat (first | refine blk_drewN ?_ _ | refine blk_drew ?_ | refine blk_alloc ?_ _)); refine blk_put (cs := #[.slice none 0 0, .int .i64 0, .int .i64 0, .int .i64 0, .slice none 0 0]) ?_ 1 _ rfl; (with_reducible repeat (first | refine blk_drewN ?_ _ | refine blk_drew ?_ | refine blk_alloc ?_ _)); refine blk_put (cs := #[.slice none 0 0, .int .i64 0, .int .i64 0, .int .i64 0, .slice none 0 0]) ?_ 0 _ rfl; (with_reducible repeat (first | refine blk_drewN ?_ _ | refine blk_drew ?_ | refine blk_alloc ?_ _)); exact BK167.out) Try.underlying27 rfl (by kernel_rfl)) rfl ?_
  exact ⟨_, _, by first | rfl | (simp [errW_none, errW_some] <;> rfl) | (simp [*, errW_none, errW_some] <;> rfl), by first | exact Kd.R_nil _ _ _ _ _ | exact Kd.N_nil _ _ _ _ _ | exact Kd.V_nil _ _ _ _ _ | exact Kd.Q_nil _ _ _ _ _ | exact Kd.S_nil _ _ _ _ _, by first | exact Kd.R_nil _ _ _ _ _ | exact Kd.N_nil _ _ _ _ _ | exact Kd.V_nil _ _ _ _ _ | exact Kd.Q_nil _ _ _ _ _ | exact Kd.S_nil _ _ _ _ _, by repeat (first | (with_reducible first | exact HB.out | apply below_alloc | apply pw_below_drewN | apply below_drew1 | refine below_set ?_ GE167.out) | exact HB.out)⟩
end Go.Proofs.Ytfbkpjjnhengfaa.K
namespace Go.Proofs.Ytfbkpjjnhengfaa.K
open Go.RowKit Go.Proofs.YtfbkpjjnhengfaaW.PrintWords Go.Proofs.YtfbkpjjnhengfaaW.PrintLast Go.Proofs.YtfbkpjjnhengfaaW.PrintMore
attribute [local go_sem] max2_int min2_int max_two min_two max_three min_three max_four min_four
set_option linter.unusedVariables false
set_option linter.unusedSimpArgs false
def memBox (w : World) (g : Nat) (a b c d e : Value) : World := ((((w.setCell ⟨g, 0, none⟩ a).setCell ⟨g, 1, none⟩ b).setCell ⟨g, 2, none⟩ c).setCell ⟨g, 3, none⟩ d).setCell ⟨g, 4, none⟩ e
theorem blk_box5 {w : World} {g : Nat} {t : TypeId} {c0 c1 c2 c3 c4 a b c d e : Value} (h : w.heap[g]? = some (.cells #[c0, c1, c2, c3, c4] t (0, 0))) : (memBox w g a b c d e).heap[g]? = some (.cells #[a, b, c, d, e] t (0, 0)) :=
  blk_put (blk_put (blk_put (blk_put (blk_put h 0 _ rfl) 1 _ rfl) 2 _ rfl) 3 _ rfl) 4 _ rfl
theorem box5_far {w : World} {g k : Nat} {a b c d e : Value} (hk : k ≠ g) : (memBox w g a b c d e).heap[k]? = w.heap[k]? := by
  unfold memBox
  rw [Below.heap_setCell _ _ _ k hk, Below.heap_setCell _ _ _ k hk, Below.heap_setCell _ _ _ k hk, Below.heap_setCell _ _ _ k hk, Below.heap_setCell _ _ _ k hk]
theorem R_box5n {α : Type} {K : Kd α} {q : TypeId} {w : World} {base g : Nat} {ok : Nat → Prop} {v : Value} {xs : List α} {a b c d e : Value} (h : K.R q w base ok v xs) (hg : ∀ k, ok k → k ≠ g) : K.R q (memBox w g a b c d e) base ok v xs :=
  Kd.R_step h (fun k hk _ => box5_far (hg k hk))
theorem types_ne {α : Type} {K : Kd α} {q t : TypeId} {w : World} {base g gc n cap : Nat} {ok : Nat → Prop} {xs : List α} {cs : Array Value} (h : w.heap[g]? = some (.cells cs t (0, 0))) (hr : K.R q w base ok (.slice (some ⟨gc, 0, none⟩) n cap) xs) (hq : t ≠ q) : g ≠ gc := by
 intro e
 subst e
 obtain ⟨inner, ho⟩ := Kd.R_own hr
 obtain ⟨cells, hc⟩ := own_typed ho g (by simp [Value.ownBlock])
 rw [h] at hc
 injection hc with hc
 injection hc with _ h2
 exact hq h2
theorem R_box5t {α : Type} {K : Kd α} {q t : TypeId} {w : World} {base g : Nat} {ok : Nat → Prop} {v : Value} {xs : List α} {cs : Array Value} {a b c d e : Value} (h : K.R q w base ok v xs) (hz : w.heap[g]? = some (.cells cs t (0, 0))) (ht : ∀ z, z ∈ q :: K.E → z ≠ t) : K.R q (memBox w g a b c d e) base ok v xs :=
  Kd.R_mono (R_box5n (Kd.R_types h hz ht) (fun _ hk => hk.2)) (fun _ hk => hk.1)
end Go.Proofs.Ytfbkpjjnhengfaa.K
namespace Go.Proofs.Ytfbkpjjnhengfaa.K
open Go.RowKit Go.Proofs.YtfbkpjjnhengfaaW.PrintWords Go.Proofs.YtfbkpjjnhengfaaW.PrintLast Go.Proofs.YtfbkpjjnhengfaaW.PrintMore
attribute [local go_sem] max2_int min2_int max_two min_two max_three min_three max_four min_four
set_option linter.unusedVariables false
set_option linter.unusedSimpArgs false
structure Ch (S : Nat → Prop) (w w' : World) : Prop where
 os : w'.os = w.os
 tape : w'.tape = w.tape
 output : w'.output = w.output
 size : w.heap.size ≤ w'.heap.size
 block : ∀ k, k < w.heap.size → ¬ S k → w'.heap[k]? = w.heap[k]?
section
variable {S S2 : Nat → Prop} {w w0 w1 w2 : World}
theorem Ch.refl (S : Nat → Prop) (w : World) : Ch S w w := ⟨rfl, rfl, rfl, Nat.le_refl _, fun _ _ _ => rfl⟩
theorem Ch.trans (h : Ch S w w1) (k : Ch S2 w1 w2) (hs : ∀ k, S2 k → S k ∨ w.heap.size ≤ k) : Ch S w w2 :=
  ⟨k.os.trans h.os, k.tape.trans h.tape, k.output.trans h.output, Nat.le_trans h.size k.size, fun i hi hn => (k.block i (Nat.lt_of_lt_of_le hi h.size) (fun h2 => (hs i h2).elim hn (fun h3 => by omega))).trans (h.block i hi hn)⟩
theorem Ch.then_ (h : Ch S w w1) (k : Ch S w1 w2) : Ch S w w2 := h.trans k (fun _ h => .inl h)
theorem Ch.below (h : Ch S w w1) (hb : Below w1.heap.size w1 w2) : Ch S w w2 :=
  h.trans (S2 := fun _ => False) ⟨hb.os, hb.tape, hb.output, hb.size, fun i hi _ => hb.block i hi⟩ (fun _ h => h.elim)
theorem Ch.alloc (h : Ch S w w1) (o : Obj) : Ch S w (w1.alloc o) := h.below (below_alloc (Below.refl _ _) o)
theorem Ch.drew (h : Ch S w w1) : Ch S w w1.drew := h.below (below_drew1 (Below.refl _ _))
theorem Ch.drewN (h : Ch S w w1) (m : Nat) : Ch S w (w1.drewN m) := h.below (pw_below_drewN (Below.refl _ _) m)
theorem Ch.set (h : Ch S w w1) {p : Addr} (hp : S p.block ∨ w.heap.size ≤ p.block) (u : Value) : Ch S w (w1.setCell p u) :=
  h.trans (S2 := fun k => k = p.block) ⟨rfl, rfl, rfl, by simp [World.setCell], fun k _ hn => Below.heap_setCell _ _ _ _ hn⟩ (fun k hk => by rw [hk]; exact hp)
theorem Ch.box5 (h : Ch S w w1) {g : Nat} (hp : S g ∨ w.heap.size ≤ g) (a b c d e : Value) : Ch S w (memBox w1 g a b c d e) :=
  ((((h.set (p := ⟨g, 0, none⟩) hp a).set (p := ⟨g, 1, none⟩) hp b).set (p := ⟨g, 2, none⟩) hp c).set (p := ⟨g, 3, none⟩) hp d).set (p := ⟨g, 4, none⟩) hp e
theorem Ch.grown (h : Ch S w w1) {row : Option Nat} (hg : w1.grownBy w2 row) (hr : ∀ k, row = some k → S k ∨ w.heap.size ≤ k) : Ch S w w2 :=
  h.trans (S2 := fun k => row = some k) ⟨hg.os, hg.tape, hg.output, hg.size, fun k hk hn => hg.block k hk (fun e => hn e.symm)⟩ hr
theorem Ch.kept (h : Ch S w w1) : Kept w w1 S := ⟨h.size, h.block⟩
theorem Ch.toBelow (h : Ch S w w1) {B : Nat} (hB : B ≤ w.heap.size) (hS : ∀ k, S k → B ≤ k) : Below B w w1 := ⟨h.os, h.tape, h.output, h.size, fun k hk => h.block k (by omega) (fun h2 => by have := hS k h2; omega)⟩
theorem Ch.keep {g : Nat} (h : Ch (fun k => k = g) w w1) : KeepBut w w1 g none := ⟨h.size, fun i hi hn _ => h.block i hi hn⟩
theorem Ch.blk (h : Ch S w w1) {g : Nat} {o : Obj} (hb : w.heap[g]? = some o) (hn : ¬ S g) : w1.heap[g]? = some o := blk_kept hb h.kept hn
theorem Ch.R {α : Type} {d : Kd α} {e base : Nat} {ok : Nat → Prop} {v : Value} {xs : List α} (h : Ch S w w1) (hr : d.R e w base ok v xs) (hne : ∀ k, ok k → ¬ S k) : d.R e w1 base ok v xs := Kd.R_kept hr h.kept hne
end
section
variable {M L : Int} {w0 w w1 : World} {g : Nat} {S : Nat → Prop}
theorem Rdr.ch (h : Rdr M w0 w g) (hc : Ch S w w1) (hne : ¬ S g) (hS : ∀ k, S k → w0.heap.size ≤ k) : Rdr M w0 w1 g := by
  obtain ⟨⟨b, q, ⟨A0, c0, hb, hg, hC⟩, h2, h3, h4, h5⟩, h6⟩ := h
  exact ⟨⟨b, q, ⟨A0, c0, hc.blk hb hne, hg, hC⟩, h2, h3, h4, h5⟩, h6.trans (hc.toBelow h6.size hS)⟩
theorem Rdr.step (h : Rdr M w0 w g) (h1 : Rdr L w0 w1 g) (hk : KeepBut w w1 g none) : Ch (fun k => k = g) w w1 :=
  ⟨h1.2.os.trans h.2.os.symm, h1.2.tape.trans h.2.tape.symm, h1.2.output.trans h.2.output.symm, hk.1, fun k hlt hn => hk.2 k hlt hn (by simp)⟩
end
end Go.Proofs.Ytfbkpjjnhengfaa.K
namespace Go.Proofs.Ytfbkpjjnhengfaa.K
open Go.RowKit Go.Proofs.YtfbkpjjnhengfaaW.PrintWords Go.Proofs.YtfbkpjjnhengfaaW.PrintLast Go.Proofs.YtfbkpjjnhengfaaW.PrintMore
attribute [local go_sem] max2_int min2_int max_two min_two max_three min_three max_four min_four
set_option linter.unusedVariables false
set_option linter.unusedSimpArgs false
structure OM (b gw cW gc cC : Nat) (w : World) (ws : List Int) (cards : List Bool) : Prop where
 hw : Kd.R (Kd.int .i64) 3 w b (fun k => k = gw) (.slice (some ⟨gw, 0, none⟩) ws.length cW) ws
 hc : Kd.R Kd.bool 4 w b (fun k => k = gc) (.slice (some ⟨gc, 0, none⟩) cards.length cC) cards
 ne : gw ≠ gc
section
variable {b gw cW gc cC : Nat} {w w1 : World} {ws : List Int} {cards : List Bool} {S : Nat → Prop}
theorem OM.bw (h : OM b gw cW gc cC w ws cards) : b ≤ gw ∧ gw < w.heap.size := ⟨Kd.R_base h.hw gw (by simp [Value.ownBlock]), Kd.R_lt h.hw gw (by simp [Value.ownBlock])⟩
theorem OM.bc (h : OM b gw cW gc cC w ws cards) : b ≤ gc ∧ gc < w.heap.size := ⟨Kd.R_base h.hc gc (by simp [Value.ownBlock]), Kd.R_lt h.hc gc (by simp [Value.ownBlock])⟩
theorem OM.ch (h : OM b gw cW gc cC w ws cards) (hc : Ch S w w1) (h1 : ¬ S gw) (h2 : ¬ S gc) : OM b gw cW gc cC w1 ws cards := ⟨hc.R h.hw (fun k hk => by rw [hk]; exact h1), hc.R h.hc (fun k hk => by rw [hk]; exact h2), h.ne⟩
theorem OM.nbox (h : OM b gw cW gc cC w ws cards) {g : Nat} {cs : Array Value} (hg : w.heap[g]? = some (.cells cs 27 (0, 0))) : gw ≠ g ∧ gc ≠ g := ⟨fun e => types_ne hg h.hw (by decide) e.symm, fun e => types_ne hg h.hc (by decide) e.symm⟩
theorem OM.wcell (h : OM b gw cW gc cC w ws cards) (x : Int) (h0 : 0 ≤ x) (h1 : x < ws.length) : w.cell? ⟨gw, x.toNat, none⟩ = some (.int .i64 (rd ws x)) ∧ w.frozen? ⟨gw, x.toNat, none⟩ = false := Kd.R_cell (enc := Value.int .i64) (h1 := fun _ => rfl) 0 h.hw x h0 h1
theorem OM.ccell (h : OM b gw cW gc cC w ws cards) (x : Int) (h0 : 0 ≤ x) (h1 : x < cards.length) : w.cell? ⟨gc, x.toNat, none⟩ = some (.bool (rdOf false cards x)) ∧ w.frozen? ⟨gc, x.toNat, none⟩ = false := Kd.R_cell (enc := Value.bool) (h1 := fun _ => rfl) false h.hc x h0 h1
theorem OM.setw (h : OM b gw cW gc cC w ws cards) (x v : Int) : OM b gw cW gc cC (w.setCell ⟨gw, x.toNat, none⟩ (.int .i64 v)) (ws.set x.toNat v) cards :=
  ⟨by rw [List.length_set]; exact (Kd.R_put (enc := Value.int .i64) (h1 := fun _ => rfl) h.hw x v).1, Kd.R_far h.hc (fun k hk => by rw [hk]; exact h.ne.symm) _, h.ne⟩
theorem OM.setc (h : OM b gw cW gc cC w ws cards) (x : Int) (v : Bool) : OM b gw cW gc cC (w.setCell ⟨gc, x.toNat, none⟩ (.bool v)) ws (cards.set x.toNat v) :=
  ⟨Kd.R_far h.hw (fun k hk => by rw [hk]; exact h.ne) _, by rw [List.length_set]; exact (Kd.R_put (enc := Value.bool) (h1 := fun _ => rfl) h.hc x v).1, h.ne⟩
end
end Go.Proofs.Ytfbkpjjnhengfaa.K
namespace Go.Proofs.Ytfbkpjjnhengfaa.K
open Go.RowKit Go.Proofs.YtfbkpjjnhengfaaW.PrintWords Go.Proofs.YtfbkpjjnhengfaaW.PrintLast Go.Proofs.YtfbkpjjnhengfaaW.PrintMore
attribute [local go_sem] max2_int min2_int max_two min_two max_three min_three max_four min_four
set_option linter.unusedVariables false
set_option linter.unusedSimpArgs false
structure Fl (b0 gz gm gw cW gc cC : Nat) (wr : World) (v7 v8 : Value) (ws : List Int) (y t o : Int) (cards : List Bool) (pl rt : List Int) : Prop where
 om : OM b0 gw cW gc cC wr ws cards
 bx : wr.heap[gm]? = some (.cells #[.slice (some ⟨gw, 0, none⟩) ws.length cW, .int .i64 y, .int .i64 t, .int .i64 o, .slice (some ⟨gc, 0, none⟩) cards.length cC] 27 (0, 0))
 bz : wr.heap[gz]? = some (.cells #[.slice none 0 0, .int .i64 0, .int .i64 0, .int .i64 0, .slice none 0 0] 27 (0, 0))
 hp : Kd.R (Kd.int .i64) 3 wr b0 (fun k => (b0 ≤ k ∧ k ≠ gw) ∧ some k ≠ v7.ownBlock) v8 pl
 hr : Kd.R (Kd.int .i64) 3 wr b0 (fun k => (b0 ≤ k ∧ k ≠ gw) ∧ some k ≠ v8.ownBlock) v7 rt
 gm0 : b0 ≤ gz ∧ gz < gm
section
variable {b0 gz gm gw cW gc cC g : Nat} {wr w1 : World} {v7 v8 : Value} {ws ws' : List Int} {y t o : Int} {cards cards' : List Bool} {pl rt : List Int} {S : Nat → Prop}
theorem Fl.ch (h : Fl b0 gz gm gw cW gc cC wr v7 v8 ws y t o cards pl rt) (hc : Ch S wr w1) (hS : ∀ k, S k → k < b0) : Fl b0 gz gm gw cW gc cC w1 v7 v8 ws y t o cards pl rt := by
  have hw := h.om.bw; have hcc := h.om.bc; have hm := h.gm0
  exact ⟨h.om.ch hc (fun q => by have := hS _ q; omega) (fun q => by have := hS _ q; omega), hc.blk h.bx (fun q => by have := hS _ q; omega), hc.blk h.bz (fun q => by have := hS _ q; omega), hc.R h.hp (fun k hk q => by have := hS _ q; omega), hc.R h.hr (fun k hk q => by have := hS _ q; omega), h.gm0⟩
theorem Fl.below (h : Fl b0 gz gm gw cW gc cC wr v7 v8 ws y t o cards pl rt) (hb : Below wr.heap.size wr w1) : Fl b0 gz gm gw cW gc cC w1 v7 v8 ws y t o cards pl rt := h.ch ((Ch.refl (fun _ => False) _).below hb) (fun _ h => h.elim)
theorem OM.ctype (h : OM b0 gw cW gc cC wr ws cards) : ∃ cells, wr.heap[gc]? = some (.cells cells 4 (0, 0)) := Kd.R_typed h.hc gc (by simp [Value.ownBlock])
theorem OM.apart (h : OM b0 gw cW gc cC wr ws cards) {ok : Nat → Prop} {v : Value} {xs : List Int} (hr : Kd.R (Kd.int .i64) 3 wr b0 ok v xs) : Kd.R (Kd.int .i64) 3 wr b0 (fun k => ok k ∧ k ≠ gc) v xs := by
  obtain ⟨cells, hcc⟩ := h.ctype
  exact Kd.R_types hr hcc (by decide)
theorem Fl.plC {A : Option Addr} {n c : Nat} (h : Fl b0 gz gm gw cW gc cC wr v7 (.slice A n c) ws y t o cards pl rt) (hg : g < b0) : ∀ W', Kept wr W' (fun k => (k = gw ∨ k = gc) ∨ k = g) → (Kd.int .i64).C W' A n pl :=
  Kd.C_kept_own (h.om.apart h.hp) (fun k hk q => by obtain ⟨⟨⟨q1, q2⟩, q3⟩, q4⟩ := hk; omega)
theorem Fl.stored (h : Fl b0 gz gm gw cW gc cC wr v7 v8 ws y t o cards pl rt) (hc : Ch (fun k => (k = gw ∨ k = gc) ∨ k = g) wr w1) (hO : OM b0 gw cW gc cC w1 ws' cards') (hl : ws'.length = ws.length ∧ cards'.length = cards.length) (hg : g < b0) (t' o' : Int) :
  Fl b0 gz gm gw cW gc cC (memBox w1 gm (.slice (some ⟨gw, 0, none⟩) ws.length cW) (.int .i64 y) (.int .i64 t') (.int .i64 o') (.slice (some ⟨gc, 0, none⟩) cards.length cC)) v7 v8 ws' y t' o' cards' pl rt := by
 have hw := h.om.bw; have hcc := h.om.bc; have hm := h.gm0
 have n1 := h.om.nbox h.bx
 have n2 := h.om.nbox h.bz
 have bx1 := hc.blk h.bx (by omega)
 have bz1 := hc.blk h.bz (by omega)
 have hp1 := hc.R (h.om.apart h.hp) (fun k hk q => by obtain ⟨⟨⟨q1, q2⟩, q3⟩, q4⟩ := hk; omega)
 have hr1 := hc.R (h.om.apart h.hr) (fun k hk q => by obtain ⟨⟨⟨q1, q2⟩, q3⟩, q4⟩ := hk; omega)
 refine ⟨hO.ch (Ch.box5 (Ch.refl (fun k => k = gm) _) (.inl rfl) _ _ _ _ _) n1.1 n1.2, ?_, (box5_far (by omega)).trans bz1, Kd.R_mono (R_box5t hp1 bx1 (by decide)) (fun _ hk => hk.1), Kd.R_mono (R_box5t hr1 bx1 (by decide)) (fun _ hk => hk.1), h.gm0⟩
 rw [hl.1, hl.2]
 exact blk_box5 bx1
theorem Fl.try_ (h : Fl b0 gz gm gw cW gc cC wr v7 v8 ws y t o cards pl rt) (hc : Ch (fun k => k = gw) wr w1) (hO : OM b0 gw cW gc cC w1 ws' cards) (hl : ws'.length = ws.length) : Fl b0 gz gm gw cW gc cC w1 v7 v8 ws' y t o cards pl rt := by
 have n1 := h.om.nbox h.bx
 have n2 := h.om.nbox h.bz
 exact ⟨hO, by rw [hl]; exact hc.blk h.bx (fun e => n1.1 e.symm), hc.blk h.bz (fun e => n2.1 e.symm), hc.R h.hp (fun k hk q => hk.1.2 q), hc.R h.hr (fun k hk q => hk.1.2 q), h.gm0⟩
theorem Fl.other (h : Fl b0 gz gm gw cW gc cC wr v7 v8 ws y t o cards pl rt) {gx : Nat} {cs : Array Value} (hx : wr.heap[gx]? = some (.cells cs 27 (0, 0))) (hm : gm < gx) (a b c d e : Value) : Fl b0 gz gm gw cW gc cC (memBox wr gx a b c d e) v7 v8 ws y t o cards pl rt :=
  ⟨h.om.ch (Ch.box5 (Ch.refl (fun k => k = gx) _) (.inl rfl) _ _ _ _ _) (h.om.nbox hx).1 (h.om.nbox hx).2, (box5_far (by omega)).trans h.bx, (box5_far (by have := h.gm0; omega)).trans h.bz, R_box5t h.hp hx (by decide), R_box5t h.hr hx (by decide), h.gm0⟩
theorem Fl.nrow (h : Fl b0 gz gm gw cW gc cC wr v7 v8 ws y t o cards pl rt) {u : Value} {xs : List Int} {ok : Nat → Prop} (hu : Kd.R (Kd.int .i64) 3 wr b0 ok u xs) (hok : ∀ k, ok k → k ≠ gw) (hg : wr.grownBy w1 u.ownBlock) :
  OM b0 gw cW gc cC w1 ws cards ∧ w1.heap[gm]? = some (.cells #[.slice (some ⟨gw, 0, none⟩) ws.length cW, .int .i64 y, .int .i64 t, .int .i64 o, .slice (some ⟨gc, 0, none⟩) cards.length cC] 27 (0, 0)) ∧ w1.heap[gz]? = some (.cells #[.slice none 0 0, .int .i64 0, .int .i64 0, .int .i64 0, .slice none 0 0] 27 (0, 0)) := by
 have hc : Ch (fun k => u.ownBlock = some k) wr w1 := (Ch.refl _ wr).grown hg (fun k e => .inl e)
 have hne := (h.om.apart hu).1
 exact ⟨h.om.ch hc (fun e => hok gw (hu.1 gw e) rfl) (fun e => (hne gc e).2 rfl), hc.blk h.bx (fun e => Kd.R_ne hu h.bx (by decide) e.symm), hc.blk h.bz (fun e => Kd.R_ne hu h.bz (by decide) e.symm)⟩
theorem Fl.appP (h : Fl b0 gz gm gw cW gc cC wr v7 v8 ws y t o cards pl rt) {v : Value} {ys : List Int} (hg : wr.grownBy w1 v8.ownBlock) (hat : v.ownBlock = v8.ownBlock ∨ ∃ b, v.ownBlock = some b ∧ wr.heap.size ≤ b) (hv : Kd.R (Kd.int .i64) 3 w1 b0 (fun k => (b0 ≤ k ∧ k ≠ gw) ∧ some k ≠ v7.ownBlock) v ys) : Fl b0 gz gm gw cW gc cC w1 v7 v ws y t o cards ys rt := by
  obtain ⟨h1, h2, h3⟩ := h.nrow h.hp (fun k hk => hk.1.2) hg
  exact ⟨h1, h2, h3, hv, Kd.R_after h.hr hg hat, h.gm0⟩
theorem Fl.appR (h : Fl b0 gz gm gw cW gc cC wr v7 v8 ws y t o cards pl rt) {v : Value} {ys : List Int} (hg : wr.grownBy w1 v7.ownBlock) (hat : v.ownBlock = v7.ownBlock ∨ ∃ b, v.ownBlock = some b ∧ wr.heap.size ≤ b) (hv : Kd.R (Kd.int .i64) 3 w1 b0 (fun k => (b0 ≤ k ∧ k ≠ gw) ∧ some k ≠ v8.ownBlock) v ys) : Fl b0 gz gm gw cW gc cC w1 v v8 ws y t o cards pl ys := by
  obtain ⟨h1, h2, h3⟩ := h.nrow h.hr (fun k hk => hk.1.2) hg
  exact ⟨h1, h2, h3, Kd.R_after h.hp hg hat, hv, h.gm0⟩
theorem Fl.freshP (h : Fl b0 gz gm gw cW gc cC wr v7 v8 ws y t o cards pl rt) : ∀ k, wr.heap.size ≤ k → (b0 ≤ k ∧ k ≠ gw) ∧ some k ≠ v7.ownBlock := fun k hk => ⟨⟨by have := h.om.bw; omega, by have := h.om.bw; omega⟩, fun e => by have := Kd.R_lt h.hr k e.symm; omega⟩
theorem Fl.freshR (h : Fl b0 gz gm gw cW gc cC wr v7 v8 ws y t o cards pl rt) : ∀ k, wr.heap.size ≤ k → (b0 ≤ k ∧ k ≠ gw) ∧ some k ≠ v8.ownBlock := fun k hk => ⟨⟨by have := h.om.bw; omega, by have := h.om.bw; omega⟩, fun e => by have := Kd.R_lt h.hp k e.symm; omega⟩
end
end Go.Proofs.Ytfbkpjjnhengfaa.K
namespace Go.Proofs.Ytfbkpjjnhengfaa.K
open Go.RowKit Go.Proofs.YtfbkpjjnhengfaaW.PrintWords Go.Proofs.YtfbkpjjnhengfaaW.PrintLast Go.Proofs.YtfbkpjjnhengfaaW.PrintMore
attribute [local go_sem] max2_int min2_int max_two min_two max_three min_three max_four min_four
set_option linter.unusedVariables false
set_option linter.unusedSimpArgs false
def spec_l21Put.f (l0_0 : List Int) (a0_1 : Int) (a0_2 : Int) (a0_3 : Int) (l0_4 : List Bool) (a1 : Int) (a2 : Int) (a3 : Bool) : Option (List Int × Int × Int × Int × List Bool) := if 0 ≤ a1 then (if a1 < (l0_0.length : Int) then ((some (l0_0.set (a1 : Int).toNat a2 : List Int)).bind fun y203 => (if a3 = true then (if a1 ≥ a0_1 then ((spec_l6In.f a2 1 a0_1).bind fun t204 => (if t204 = true then (if 0 ≤ (wrap64 (Int.tdiv (wrap64 (a1 - a0_1)) 4)) then (if (wrap64 (Int.tdiv (wrap64 (a1 - a0_1)) 4)) < (l0_4.length : Int) then (some (y203, a0_1, a0_2, a0_3, (l0_4.set ((wrap64 (Int.tdiv (wrap64 (a1 - a0_1)) 4)) : Int).toNat true))) else (none)) else (none)) else (some (y203, a0_1, a0_2, a0_3, l0_4)))) else (some (y203, a0_1, a0_2, a0_3, l0_4))) else (some (y203, a0_1, a0_2, a0_3, l0_4)))) else (none)) else (none)
end Go.Proofs.Ytfbkpjjnhengfaa.K
namespace Go.Proofs.Ytfbkpjjnhengfaa.Pure
open Go.RowKit Go.Proofs.Ytfbkpjjnhengfaa.K Go.Proofs.YtfbkpjjnhengfaaW.PrintWords Go.Proofs.YtfbkpjjnhengfaaW.PrintLast Go.Proofs.YtfbkpjjnhengfaaW.PrintMore
set_option linter.unusedVariables false
set_option linter.unusedSimpArgs false
theorem spec_l6In_eq (a b c : Int) : spec_l6In.f a b c = some (decide (b ≤ a ∧ a ≤ c)) := by
 unfold spec_l6In.f
 by_cases h : a ≥ b
 ·rw [if_pos h]; simp [show b ≤ a from h]
 ·rw [if_neg h]; simp [show ¬ b ≤ a from h]
end Go.Proofs.Ytfbkpjjnhengfaa.Pure
namespace Go.Proofs.Ytfbkpjjnhengfaa.Pure
open Go.RowKit Go.Proofs.Ytfbkpjjnhengfaa.K Go.Proofs.YtfbkpjjnhengfaaW.PrintWords Go.Proofs.YtfbkpjjnhengfaaW.PrintLast Go.Proofs.YtfbkpjjnhengfaaW.PrintMore
set_option linter.unusedVariables false
set_option linter.unusedSimpArgs false
def putM (ws : List Int) (y : Int) (cards : List Bool) (i v : Int) (ref : Bool) : List Int × List Bool :=
  (ws.set i.toNat v, if ref = true ∧ i ≥ y ∧ 1 ≤ v ∧ v ≤ y then cards.set ((i - y) / 4).toNat true else cards)
end Go.Proofs.Ytfbkpjjnhengfaa.Pure
namespace Go.Proofs.Ytfbkpjjnhengfaa.K
open Go.RowKit Go.Proofs.YtfbkpjjnhengfaaW.PrintWords Go.Proofs.YtfbkpjjnhengfaaW.PrintLast Go.Proofs.YtfbkpjjnhengfaaW.PrintMore
attribute [local go_sem] max2_int min2_int max_two min_two max_three min_three max_four min_four
set_option linter.unusedVariables false
set_option linter.unusedSimpArgs false
open Go.Proofs.Ytfbkpjjnhengfaa.Pure
set_option maxHeartbeats 16000000 in
set_option maxRecDepth 100000 in
theorem put_any (b gw cW gc cC : Nat) (ws : List Int) (y t o : Int) (cards : List Bool) (i v : Int) (ref : Bool) (w : World) (h : OM b gw cW gc cC w ws cards) (hn : ws.length ≤ 1048576) (h0 : 0 ≤ i) (h1 : i < ws.length) (hy : 0 ≤ y ∧ y ≤ 40) (hcd : i ≥ y → (i - y) / 4 < (cards.length : Int)) :
  Calls Try.prog 47 #[.agg #[.slice (some ⟨gw, 0, none⟩) ws.length cW, .int .i64 y, .int .i64 t, .int .i64 o, .slice (some ⟨gc, 0, none⟩) cards.length cC], .int .i64 i, .int .i64 v, .bool ref] w fun e w' => e = .returned (.agg #[.slice (some ⟨gw, 0, none⟩) ws.length cW, .int .i64 y, .int .i64 t, .int .i64 o, .slice (some ⟨gc, 0, none⟩) cards.length cC]) ∧ OM b gw cW gc cC w' (putM ws y cards i v ref).1 (putM ws y cards i v ref).2 ∧ Ch (fun k => k = gw ∨ k = gc) w w' := by
 have HO := Aside0.mk h
 have H1 := Aside0.mk (show (0 ≤ i ∧ i < ws.length) ∧ ws.length ≤ 1048576 ∧ (0 ≤ y ∧ y ≤ 40) ∧ (i ≥ y → (i - y) / 4 < (cards.length : Int)) from ⟨⟨h0, h1⟩, hn, hy, hcd⟩)
 have HGW := Aside0.mk (show gw < w.heap.size ∧ gc < w.heap.size ∧ gw ≠ gc from ⟨h.bw.2, h.bc.2, h.ne⟩)
 have p1 := eq_true h0
 have p2 := eq_true h1
 clear h hn h0 h1 hy hcd
 cases ref with
 | false =>
  rw [show putM ws y cards i v false = (ws.set i.toNat v, cards) from by unfold putM; rw [if_neg (by simp)]]
  go_enter Try.func47, Try.ntmps47
  go_wp2_with (first | ((with_reducible refine gate_dst (N := 4) rfl ?_); refine box_event ?hg (N := 4) ?hd (cs := #[.slice (some ⟨gw, 0, none⟩) ws.length cW, .int .i64 y, .int .i64 t, .int .i64 o, .slice (some ⟨gc, 0, none⟩) cards.length cC]) (t := 27) ?hr ?_; (case hd => rfl); (case hg => rfl); (case hr => first | (go_simp; done) | (go_simp; rfl)); intro gp hg w1 hbox hb; have BP := Aside0.mk hbox; have HCh := Aside0.mk ((Ch.refl (fun k => k = gw ∨ k = gc) w).below hb); have HGp := Aside0.mk (show w.heap.size ≤ gp by rw [hg]; exact Nat.le_refl _); have HC0 := Aside0.mk ((Ch.refl (fun _ => False) w).below hb); clear hb hbox hg) | ((with_reducible refine gate_dst (N := 8) rfl ?_); refine box_event ?hg (N := 8) ?hd (cs := #[.slice none 0 0, .int .i64 0, .int .i64 0, .int .i64 0, .slice none 0 0]) (t := 27) ?hr ?_; (case hd => rfl); (case hg => rfl); (case hr => first | (go_simp; done) | (go_simp; rfl)); intro gr hg w2 hbox hb; have BR := Aside0.mk hbox; have HGr := Aside0.mk (show w.heap.size ≤ gr ∧ gp < gr by have := HCh.out.size; have := blk_lt BP.out; rw [hg]; exact ⟨by omega, by omega⟩); replace BP := Aside0.mk (blk_below BP.out hb); replace HCh := Aside0.mk (HCh.out.below hb); replace HC0 := Aside0.mk (HC0.out.below hb); have HO2 := Aside0.mk (HO.out.ch HC0.out (fun h => h) (fun h => h)); have c0 := (blk_cell BP.out 0).trans rfl; have c1 := (blk_cell BP.out 1).trans rfl; have c2 := (blk_cell BP.out 2).trans rfl; have c3 := (blk_cell BP.out 3).trans rfl; have c4 := (blk_cell BP.out 4).trans rfl; obtain ⟨x0, f0⟩ := HO2.out.wcell i H1.out.1.1 H1.out.1.2; clear hb hbox hg) | ((with_reducible refine gate_store (t := 3) (p := 13) rfl ?_); refine store_event (t := 3) (p := 13) (v := ?vo1) (w1 := (w2.setCell ⟨gw, i.toNat, none⟩ (.int .i64 v))) ?hg ?ho ?hn ?hr ?_; (case ho => rfl); (case hg => rfl); (case hn => rfl); (case hr => first | (go_simp; done) | (go_simp; rfl)); intro w3 hw; have HO3 := Aside0.mk (show OM b gw cW gc cC w3 (ws.set i.toNat v) cards by rw [hw]; exact HO2.out.setw i v); have HC3 := Aside0.mk (show Ch (fun k => k = gw ∨ k = gc) w w3 by rw [hw]; exact HCh.out.set (.inl (.inl rfl)) _); have BP3 := Aside0.mk (show w3.heap[gp]? = some (.cells #[.slice (some ⟨gw, 0, none⟩) ws.length cW, .int .i64 y, .int .i64 t, .int .i64 o, .slice (some ⟨gc, 0, none⟩) cards.length cC] 27 (0, 0)) by rw [hw]; exact blk_far BP.out (by have := HGp.out; have := HGW.out; show gp ≠ gw; omega) _); have BR3 := Aside0.mk (show w3.heap[gr]? = some (.cells #[.slice none 0 0, .int .i64 0, .int .i64 0, .int .i64 0, .slice none 0 0] 27 (0, 0)) by rw [hw]; exact blk_far BR.out (by have := HGr.out; have := HGW.out; show gr ≠ gw; omega) _); clear hw x0 f0 HO2 HCh BP BR HC0; clear c0 c1 c2 c3 c4; have c0 := (blk_cell BP3.out 0).trans rfl; have c1 := (blk_cell BP3.out 1).trans rfl; have c2 := (blk_cell BP3.out 2).trans rfl; have c3 := (blk_cell BP3.out 3).trans rfl; have c4 := (blk_cell BP3.out 4).trans rfl; have z0 := (blk_cell BR3.out 0).trans rfl; have z1 := (blk_cell BR3.out 1).trans rfl; have z2 := (blk_cell BR3.out 2).trans rfl; have z3 := (blk_cell BR3.out 3).trans rfl; have z4 := (blk_cell BR3.out 4).trans rfl; have y_0 := blk_frozen BR3.out 0; have y_1 := blk_frozen BR3.out 1; have y_2 := blk_frozen BR3.out 2; have y_3 := blk_frozen BR3.out 3; have y_4 := blk_frozen BR3.out 4))
  refine bodyPost_ret (results_cell_row rfl _ _ gr 27 #[.slice (some ⟨gw, 0, none⟩) ws.length cW, .int .i64 y, .int .i64 t, .int .i64 o, .slice (some ⟨gc, 0, none⟩) cards.length cC] (0, 0) _ rfl (blk_box5 BR3.out) Try.underlying27 rfl (by kernel_rfl)) rfl ?_
  exact ⟨rfl, HO3.out.ch (Ch.box5 (Ch.refl (fun k => k = gr) _) (.inl rfl) _ _ _ _ _) z14 z14, HC3.out.box5 (.inr HGr.out.1) _ _ _ _ _⟩
 | true =>
  by_cases c1 : y ≤ i
  ·have d1 : decide (y ≤ i) = true := decide_eq_true c1
   by_cases c2 : 1 ≤ v ∧ v ≤ y
   ·skip
    have HV := Aside0.mk (show decide (1 ≤ v ∧ v ≤ y) = true from decide_eq_true c2)
    rw [show putM ws y cards i v true = (ws.set i.toNat v, cards.set ((i - y) / 4).toNat true) from by unfold putM; rw [if_pos ⟨rfl, by omega, c2⟩]]
    go_enter Try.func47, Try.ntmps47
    have h_ := H1.out
    have hcd_ := h_.2.2.2 c1
    obtain ⟨E, hE⟩ : ∃ E, E = (i - y) / 4 := ⟨_, rfl⟩
    have q1 : IntKind.i64.wrap (i - y) = i - y := IntWalk.i64_in _ (by omega)
    have q2 : Int.tdiv (i - y) 4 = E := by rw [Int.tdiv_eq_ediv_of_nonneg (by omega), hE]
    have q2' : (i - y) / 4 = E := hE.symm
    have q3 : IntKind.i64.wrap E = E := IntWalk.i64_in _ (by omega)
    rw [q2']
    have p3 := eq_true (show 0 ≤ E by omega)
    have p4 := eq_true (show E < (cards.length : Int) by omega)
    have HE := Aside0.mk (show 0 ≤ E ∧ E < (cards.length : Int) by omega)
    clear h_ hcd_ hE c1 c2
    go_wp2_with (first | ((with_reducible refine gate_dst (N := 4) rfl ?_); refine box_event ?hg (N := 4) ?hd (cs := #[.slice (some ⟨gw, 0, none⟩) ws.length cW, .int .i64 y, .int .i64 t, .int .i64 o, .slice (some ⟨gc, 0, none⟩) cards.length cC]) (t := 27) ?hr ?_; (case hd => rfl); (case hg => rfl); (case hr => first | (go_simp; done) | (go_simp; rfl)); intro gp hg w1 hbox hb; have BP := Aside0.mk hbox; have HCh := Aside0.mk ((Ch.refl (fun k => k = gw ∨ k = gc) w).below hb); have HGp := Aside0.mk (show w.heap.size ≤ gp by rw [hg]; exact Nat.le_refl _); have HC0 := Aside0.mk ((Ch.refl (fun _ => False) w).below hb); clear hb hbox hg) | ((with_reducible refine gate_dst (N := 8) rfl ?_); refine box_event ?hg (N := 8) ?hd (cs := #[.slice none 0 0, .int .i64 0, .int .i64 0, .int .i64 0, .slice none 0 0]) (t := 27) ?hr ?_; (case hd => rfl); (case hg => rfl); (case hr => first | (go_simp; done) | (go_simp; rfl)); intro gr hg w2 hbox hb; have BR := Aside0.mk hbox; have HGr := Aside0.mk (show w.heap.size ≤ gr ∧ gp < gr by have := HCh.out.size; have := blk_lt BP.out; rw [hg]; exact ⟨by omega, by omega⟩); replace BP := Aside0.mk (blk_below BP.out hb); replace HCh := Aside0.mk (HCh.out.below hb); replace HC0 := Aside0.mk (HC0.out.below hb); have HO2 := Aside0.mk (HO.out.ch HC0.out (fun h => h) (fun h => h)); have c0 := (blk_cell BP.out 0).trans rfl; have c1 := (blk_cell BP.out 1).trans rfl; have c2 := (blk_cell BP.out 2).trans rfl; have c3 := (blk_cell BP.out 3).trans rfl; have c4 := (blk_cell BP.out 4).trans rfl; obtain ⟨x0, f0⟩ := HO2.out.wcell i H1.out.1.1 H1.out.1.2; clear hb hbox hg) | ((with_reducible refine gate_store (t := 3) (p := 13) rfl ?_); refine store_event (t := 3) (p := 13) (v := ?vo1) (w1 := (w2.setCell ⟨gw, i.toNat, none⟩ (.int .i64 v))) ?hg ?ho ?hn ?hr ?_; (case ho => rfl); (case hg => rfl); (case hn => rfl); (case hr => first | (go_simp; done) | (go_simp; rfl)); intro w3 hw; have HO3 := Aside0.mk (show OM b gw cW gc cC w3 (ws.set i.toNat v) cards by rw [hw]; exact HO2.out.setw i v); have HC3 := Aside0.mk (show Ch (fun k => k = gw ∨ k = gc) w w3 by rw [hw]; exact HCh.out.set (.inl (.inl rfl)) _); have BP3 := Aside0.mk (show w3.heap[gp]? = some (.cells #[.slice (some ⟨gw, 0, none⟩) ws.length cW, .int .i64 y, .int .i64 t, .int .i64 o, .slice (some ⟨gc, 0, none⟩) cards.length cC] 27 (0, 0)) by rw [hw]; exact blk_far BP.out (by have := HGp.out; have := HGW.out; show gp ≠ gw; omega) _); have BR3 := Aside0.mk (show w3.heap[gr]? = some (.cells #[.slice none 0 0, .int .i64 0, .int .i64 0, .int .i64 0, .slice none 0 0] 27 (0, 0)) by rw [hw]; exact blk_far BR.out (by have := HGr.out; have := HGW.out; show gr ≠ gw; omega) _); clear hw x0 f0 HO2 HCh BP BR HC0; clear c0 c1 c2 c3 c4; have c0 := (blk_cell BP3.out 0).trans rfl; have c1 := (blk_cell BP3.out 1).trans rfl; have c2 := (blk_cell BP3.out 2).trans rfl; have c3 := (blk_cell BP3.out 3).trans rfl; have c4 := (blk_cell BP3.out 4).trans rfl; obtain ⟨x1, f1⟩ := HO3.out.ccell E HE.out.1 HE.out.2) | (go_at_call 63; refine (spec_l6In.calls v 1 y true _ (by rw [spec_l6In_eq, HV.out])).mono ?_; rintro e w' ⟨rfl, ⟨nd, rfl⟩⟩) | ((with_reducible refine gate_store (t := 4) (p := 34) rfl ?_); refine store_event (t := 4) (p := 34) (v := ?vo2) (w1 := ((w3.drewN nd).setCell ⟨gc, E.toNat, none⟩ (.bool true))) ?hg ?ho ?hn ?hr ?_; (case ho => rfl); (case hg => rfl); (case hn => rfl); (case hr => first | (go_simp; done) | (go_simp; rfl)); intro w4 hw; have HO4 := Aside0.mk (show OM b gw cW gc cC w4 (ws.set i.toNat v) (cards.set E.toNat true) by rw [hw]; exact (HO3.out.ch ((Ch.refl (fun _ => False) _).drewN nd) (fun h => h) (fun h => h)).setc E true); have HC4 := Aside0.mk (show Ch (fun k => k = gw ∨ k = gc) w w4 by rw [hw]; exact (HC3.out.drewN nd).set (.inl (.inr rfl)) _); have BP4 := Aside0.mk (show w4.heap[gp]? = some (.cells #[.slice (some ⟨gw, 0, none⟩) ws.length cW, .int .i64 y, .int .i64 t, .int .i64 o, .slice (some ⟨gc, 0, none⟩) cards.length cC] 27 (0, 0)) by rw [hw]; exact blk_far (blk_drewN BP3.out nd) (by have := HGp.out; have := HGW.out; show gp ≠ gc; omega) _); have BR4 := Aside0.mk (show w4.heap[gr]? = some (.cells #[.slice none 0 0, .int .i64 0, .int .i64 0, .int .i64 0, .slice none 0 0] 27 (0, 0)) by rw [hw]; exact blk_far (blk_drewN BR3.out nd) (by have := HGr.out; have := HGW.out; show gr ≠ gc; omega) _); clear hw x1 f1 HO3 HC3 BP3 BR3; clear c0 c1 c2 c3 c4; have c0 := (blk_cell BP4.out 0).trans rfl; have c1 := (blk_cell BP4.out 1).trans rfl; have c2 := (blk_cell BP4.out 2).trans rfl; have c3 := (blk_cell BP4.out 3).trans rfl; have c4 := (blk_cell BP4.out 4).trans rfl; have z0 := (blk_cell BR4.out 0).trans rfl; have z1 := (blk_cell BR4.out 1).trans rfl; have z2 := (blk_cell BR4.out 2).trans rfl; have z3 := (blk_cell BR4.out 3).trans rfl; have z4 := (blk_cell BR4.out 4).trans rfl; have y_0 := blk_frozen BR4.out 0; have y_1 := blk_frozen BR4.out 1; have y_2 := blk_frozen BR4.out 2; have y_3 := blk_frozen BR4.out 3; have y_4 := blk_frozen BR4.out 4))
    refine bodyPost_ret (results_cell_row rfl _ _ gr 27 #[.slice (some ⟨gw, 0, none⟩) ws.length cW, .int .i64 y, .int .i64 t, .int .i64 o, .slice (some ⟨gc, 0, none⟩) cards.length cC] (0, 0) _ rfl (blk_box5 BR4.out) Try.underlying27 rfl (by kernel_rfl)) rfl ?_
    exact ⟨rfl, HO4.out.ch (Ch.box5 (Ch.refl (fun k => k = gr) _) (.inl rfl) _ _ _ _ _) z14 z14, HC4.out.box5 (.inr HGr.out.1) _ _ _ _ _⟩
   ·skip
    have HV := Aside0.mk (show decide (1 ≤ v ∧ v ≤ y) = false from decide_eq_false c2)
    rw [show putM ws y cards i v true = (ws.set i.toNat v, cards) from by unfold putM; rw [if_neg (fun h => c2 h.2.2)]]
    go_enter Try.func47, Try.ntmps47
    clear c1 c2
    go_wp2_with (first | ((with_reducible refine gate_dst (N := 4) rfl ?_); refine box_event ?hg (N := 4) ?hd (cs := #[.slice (some ⟨gw, 0, none⟩) ws.length cW, .int .i64 y, .int .i64 t, .int .i64 o, .slice (some ⟨gc, 0, none⟩) cards.length cC]) (t := 27) ?hr ?_; (case hd => rfl); (case hg => rfl); (case hr => first | (go_simp; done) | (go_simp; rfl)); intro gp hg w1 hbox hb; have BP := Aside0.mk hbox; have HCh := Aside0.mk ((Ch.refl (fun k => k = gw ∨ k = gc) w).below hb); have HGp := Aside0.mk (show w.heap.size ≤ gp by rw [hg]; exact Nat.le_refl _); have HC0 := Aside0.mk ((Ch.refl (fun _ => False) w).below hb); clear hb hbox hg) | ((with_reducible refine gate_dst (N := 8) rfl ?_); refine box_event ?hg (N := 8) ?hd (cs := #[.slice none 0 0, .int .i64 0, .int .i64 0, .int .i64 0, .slice none 0 0]) (t := 27) ?hr ?_; (case hd => rfl); (case hg => rfl); (case hr => first | (go_simp; done) | (go_simp; rfl)); intro gr hg w2 hbox hb; have BR := Aside0.mk hbox; have HGr := Aside0.mk (show w.heap.size ≤ gr ∧ gp < gr by have := HCh.out.size; have := blk_lt BP.out; rw [hg]; exact ⟨by omega, by omega⟩); replace BP := Aside0.mk (blk_below BP.out hb); replace HCh := Aside0.mk (HCh.out.below hb); replace HC0 := Aside0.mk (HC0.out.below hb); have HO2 := Aside0.mk (HO.out.ch HC0.out (fun h => h) (fun h => h)); have c0 := (blk_cell BP.out 0).trans rfl; have c1 := (blk_cell BP.out 1).trans rfl; have c2 := (blk_cell BP.out 2).trans rfl; have c3 := (blk_cell BP.out 3).trans rfl; have c4 := (blk_cell BP.out 4).trans rfl; obtain ⟨x0, f0⟩ := HO2.out.wcell i H1.out.1.1 H1.out.1.2; clear hb hbox hg) | ((with_reducible refine gate_store (t := 3) (p := 13) rfl ?_); refine store_event (t := 3) (p := 13) (v := ?vo1) (w1 := (w2.setCell ⟨gw, i.toNat, none⟩ (.int .i64 v))) ?hg ?ho ?hn ?hr ?_; (case ho => rfl); (case hg => rfl); (case hn => rfl); (case hr => first | (go_simp; done) | (go_simp; rfl)); intro w3 hw; have HO3 := Aside0.mk (show OM b gw cW gc cC w3 (ws.set i.toNat v) cards by rw [hw]; exact HO2.out.setw i v); have HC3 := Aside0.mk (show Ch (fun k => k = gw ∨ k = gc) w w3 by rw [hw]; exact HCh.out.set (.inl (.inl rfl)) _); have BP3 := Aside0.mk (show w3.heap[gp]? = some (.cells #[.slice (some ⟨gw, 0, none⟩) ws.length cW, .int .i64 y, .int .i64 t, .int .i64 o, .slice (some ⟨gc, 0, none⟩) cards.length cC] 27 (0, 0)) by rw [hw]; exact blk_far BP.out (by have := HGp.out; have := HGW.out; show gp ≠ gw; omega) _); have BR3 := Aside0.mk (show w3.heap[gr]? = some (.cells #[.slice none 0 0, .int .i64 0, .int .i64 0, .int .i64 0, .slice none 0 0] 27 (0, 0)) by rw [hw]; exact blk_far BR.out (by have := HGr.out; have := HGW.out; show gr ≠ gw; omega) _); clear hw x0 f0 HO2 HCh BP BR HC0; clear c0 c1 c2 c3 c4; have c0 := (blk_cell BP3.out 0).trans rfl; have c1 := (blk_cell BP3.out 1).trans rfl; have c2 := (blk_cell BP3.out 2).trans rfl; have c3 := (blk_cell BP3.out 3).trans rfl; have c4 := (blk_cell BP3.out 4).trans rfl; have z0 := (blk_cell BR3.out 0).trans rfl; have z1 := (blk_cell BR3.out 1).trans rfl; have z2 := (blk_cell BR3.out 2).trans rfl; have z3 := (blk_cell BR3.out 3).trans rfl; have z4 := (blk_cell BR3.out 4).trans rfl; have y_0 := blk_frozen BR3.out 0; have y_1 := blk_frozen BR3.out 1; have y_2 := blk_frozen BR3.out 2; have y_3 := blk_frozen BR3.out 3; have y_4 := blk_frozen BR3.out 4) | (go_at_call 63; refine (spec_l6In.calls v 1 y false _ (by rw [spec_l6In_eq, HV.out])).mono ?_; rintro e w' ⟨rfl, ⟨nd, rfl⟩⟩; have HO4 := Aside0.mk (HO3.out.ch ((Ch.refl (fun _ => False) _).drewN nd) (fun h => h) (fun h => h)); have HC4 := Aside0.mk (HC3.out.drewN nd); have BR4 := Aside0.mk (blk_drewN BR3.out nd)))
    refine bodyPost_ret (results_cell_row rfl _ _ gr 27 #[.slice (some ⟨gw, 0, none⟩) ws.length cW, .int .i64 y, .int .i64 t, .int .i64 o, .slice (some ⟨gc, 0, none⟩) cards.length cC] (0, 0) _ rfl (blk_box5 BR4.out) Try.underlying27 rfl (by kernel_rfl)) rfl ?_
    exact ⟨rfl, HO4.out.ch (Ch.box5 (Ch.refl (fun k => k = gr) _) (.inl rfl) _ _ _ _ _) z14 z14, HC4.out.box5 (.inr HGr.out.1) _ _ _ _ _⟩
  ·skip
   have d1 : decide (y ≤ i) = false := decide_eq_false c1
   rw [show putM ws y cards i v true = (ws.set i.toNat v, cards) from by unfold putM; rw [if_neg (by omega)]]
   go_enter Try.func47, Try.ntmps47
   clear c1
   go_wp2_with (first | ((with_reducible refine gate_dst (N := 4) rfl ?_); refine box_event ?hg (N := 4) ?hd (cs := #[.slice (some ⟨gw, 0, none⟩) ws.length cW, .int .i64 y, .int .i64 t, .int .i64 o, .slice (some ⟨gc, 0, none⟩) cards.length cC]) (t := 27) ?hr ?_; (case hd => rfl); (case hg => rfl); (case hr => first | (go_simp; done) | (go_simp; rfl)); intro gp hg w1 hbox hb; have BP := Aside0.mk hbox; have HCh := Aside0.mk ((Ch.refl (fun k => k = gw ∨ k = gc) w).below hb); have HGp := Aside0.mk (show w.heap.size ≤ gp by rw [hg]; exact Nat.le_refl _); have HC0 := Aside0.mk ((Ch.refl (fun _ => False) w).below hb); clear hb hbox hg) | ((with_reducible refine gate_dst (N := 8) rfl ?_); refine box_event ?hg (N := 8) ?hd (cs := #[.slice none 0 0, .int .i64 0, .int .i64 0, .int .i64 0, .slice none 0 0]) (t := 27) ?hr ?_; (case hd => rfl); (case hg => rfl); (case hr => first | (go_simp; done) | (go_simp; rfl)); intro gr hg w2 hbox hb; have BR := Aside0.mk hbox; have HGr := Aside0.mk (show w.heap.size ≤ gr ∧ gp < gr by have := HCh.out.size; have := blk_lt BP.out; rw [hg]; exact ⟨by omega, by omega⟩); replace BP := Aside0.mk (blk_below BP.out hb); replace HCh := Aside0.mk (HCh.out.below hb); replace HC0 := Aside0.mk (HC0.out.below hb); have HO2 := Aside0.mk (HO.out.ch HC0.out (fun h => h) (fun h => h)); have c0 := (blk_cell BP.out 0).trans rfl; have c1 := (blk_cell BP.out 1).trans rfl; have c2 := (blk_cell BP.out 2).trans rfl; have c3 := (blk_cell BP.out 3).trans rfl; have c4 := (blk_cell BP.out 4).trans rfl; obtain ⟨x0, f0⟩ := HO2.out.wcell i H1.out.1.1 H1.out.1.2; clear hb hbox hg) | ((with_reducible refine gate_store (t := 3) (p := 13) rfl ?_); refine store_event (t := 3) (p := 13) (v := ?vo1) (w1 := (w2.setCell ⟨gw, i.toNat, none⟩ (.int .i64 v))) ?hg ?ho ?hn ?hr ?_; (case ho => rfl); (case hg => rfl); (case hn => rfl); (case hr => first | (go_simp; done) | (go_simp; rfl)); intro w3 hw; have HO3 := Aside0.mk (show OM b gw cW gc cC w3 (ws.set i.toNat v) cards by rw [hw]; exact HO2.out.setw i v); have HC3 := Aside0.mk (show Ch (fun k => k = gw ∨ k = gc) w w3 by rw [hw]; exact HCh.out.set (.inl (.inl rfl)) _); have BP3 := Aside0.mk (show w3.heap[gp]? = some (.cells #[.slice (some ⟨gw, 0, none⟩) ws.length cW, .int .i64 y, .int .i64 t, .int .i64 o, .slice (some ⟨gc, 0, none⟩) cards.length cC] 27 (0, 0)) by rw [hw]; exact blk_far BP.out (by have := HGp.out; have := HGW.out; show gp ≠ gw; omega) _); have BR3 := Aside0.mk (show w3.heap[gr]? = some (.cells #[.slice none 0 0, .int .i64 0, .int .i64 0, .int .i64 0, .slice none 0 0] 27 (0, 0)) by rw [hw]; exact blk_far BR.out (by have := HGr.out; have := HGW.out; show gr ≠ gw; omega) _); clear hw x0 f0 HO2 HCh BP BR HC0; clear c0 c1 c2 c3 c4; have c0 := (blk_cell BP3.out 0).trans rfl; have c1 := (blk_cell BP3.out 1).trans rfl; have c2 := (blk_cell BP3.out 2).trans rfl; have c3 := (blk_cell BP3.out 3).trans rfl; have c4 := (blk_cell BP3.out 4).trans rfl; have z0 := (blk_cell BR3.out 0).trans rfl; have z1 := (blk_cell BR3.out 1).trans rfl; have z2 := (blk_cell BR3.out 2).trans rfl; have z3 := (blk_cell BR3.out 3).trans rfl; have z4 := (blk_cell BR3.out 4).trans rfl; have y_0 := blk_frozen BR3.out 0; have y_1 := blk_frozen BR3.out 1; have y_2 := blk_frozen BR3.out 2; have y_3 := blk_frozen BR3.out 3; have y_4 := blk_frozen BR3.out 4))
   refine bodyPost_ret (results_cell_row rfl _ _ gr 27 #[.slice (some ⟨gw, 0, none⟩) ws.length cW, .int .i64 y, .int .i64 t, .int .i64 o, .slice (some ⟨gc, 0, none⟩) cards.length cC] (0, 0) _ rfl (blk_box5 BR3.out) Try.underlying27 rfl (by kernel_rfl)) rfl ?_
   exact ⟨rfl, HO3.out.ch (Ch.box5 (Ch.refl (fun k => k = gr) _) (.inl rfl) _ _ _ _ _) z14 z14, HC3.out.box5 (.inr HGr.out.1) _ _ _ _ _⟩
end Go.Proofs.Ytfbkpjjnhengfaa.K
namespace Go.Proofs.Ytfbkpjjnhengfaa.Pure
open Go.RowKit Go.Proofs.Ytfbkpjjnhengfaa.K Go.Proofs.YtfbkpjjnhengfaaW.PrintWords Go.Proofs.YtfbkpjjnhengfaaW.PrintLast Go.Proofs.YtfbkpjjnhengfaaW.PrintMore
set_option linter.unusedVariables false
set_option linter.unusedSimpArgs false
theorem fields_same (cs : Cs) : ∀ (k : Nat) (a : Int), spec_l2Fields.f k cs a = impl_classFields.f k cs a
  | 0, a => by rw [spec_l2Fields.f, impl_classFields.f]
  | k + 1, a => by rw [spec_l2Fields.f, impl_classFields.f, fields_same cs k]
theorem csOk_two {cs : Cs} (h : csOk cs = true) {i : Int} (h0 : 0 ≤ i) (h1 : i < cs.length) : (flds cs i).length ≤ 2 := by
 have h2 := csOk_at h h0 h1
 unfold clsOk at h2
 simp only [Bool.and_eq_true] at h2
 have h3 := h2.2
 by_cases c0 : i = 0
 ·rw [if_pos c0, decide_eq_true_eq] at h3
  rw [c0, h3.2]; simp
 rw [if_neg c0] at h3
 by_cases c1 : i = 1
 ·rw [if_pos c1, decide_eq_true_eq] at h3
  rw [c1, h3.2]; simp
 rw [if_neg c1, decide_eq_true_eq] at h3
 exact h3.2
theorem classFields_ev {cs : Cs} (h : csOk cs = true) : ∀ a : Int, 0 ≤ a → a < cs.length → ∃ fs, fs.length ≤ 2 * a.toNat ∧ ∀ k, a.toNat + 1 ≤ k → impl_classFields.f k cs a = some fs := by
 refine cls_ind h ⟨[], by simp, fun k hk => ?_⟩ ?_
 ·obtain ⟨k, rfl⟩ : ∃ m, k = m + 1 := ⟨k - 1, by omega⟩
  rw [impl_classFields.f, if_pos rfl]
 ·intro a ha hl ⟨fs, hfs, hk⟩
  have hs := csOk_sup h ha hl
  have h2 := csOk_two h (by omega) hl
  refine ⟨fs ++ flds cs a, by rw [List.length_append]; omega, fun k hk2 => ?_⟩
  obtain ⟨k, rfl⟩ : ∃ m, k = m + 1 := ⟨k - 1, by omega⟩
  have e := hk k (by omega)
  rw [impl_classFields.f, if_neg (by omega), if_pos (by omega), if_pos hl]
  show ((impl_classFields.f k cs (sup cs a)).bind fun t => if t.length + (flds cs a).length < 17592186044416 then some (t ++ flds cs a) else none) = _
  rw [e, Option.bind_some, if_pos (by have := csOk_len h; omega)]
def cfl (cs : Cs) (a : Int) : List Int := (impl_classFields.f 10 cs a).getD []
theorem cfl_eq {cs : Cs} (h : csOk cs = true) {a : Int} (h0 : 0 ≤ a) (h1 : a < cs.length) : (cfl cs a).length ≤ 8 ∧ ∀ k, 10 ≤ k → impl_classFields.f k cs a = some (cfl cs a) := by
 have hl := csOk_len h
 obtain ⟨fs, hf, hk⟩ := classFields_ev h a h0 h1
 have e : cfl cs a = fs := by unfold cfl; rw [hk 10 (by omega)]; rfl
 rw [e]
 exact ⟨by omega, fun k hk2 => hk k (by omega)⟩
def allF (cs : Cs) : List (List Int) := (List.range cs.length).map (fun i : Nat => cfl cs i)
theorem allF_len (cs : Cs) : (allF cs).length = cs.length := by unfold allF; simp
theorem allF_at (cs : Cs) {c : Int} (h0 : 0 ≤ c) (h1 : c < cs.length) : rdL (allF cs) c = cfl cs c := by
 have h2 : c.toNat < cs.length := by omega
 unfold rdL allF
 rw [List.getD_eq_getElem?_getD, List.getElem?_map, List.getElem?_range h2]
 show cfl cs ((c.toNat : Nat) : Int) = _
 rw [Int.toNat_of_nonneg h0]
theorem allF_short {cs : Cs} (h : csOk cs = true) : FShort (allF cs) := by
 intro c h0 h1
 rw [allF_len] at h1
 rw [allF_at cs h0 h1]
 have := (cfl_eq h h0 h1).1
 omega
theorem allF_all {cs : Cs} (h : csOk cs = true) : (allF cs).all (fun r => decide (r.length ≤ 4294967296)) = true := by
 rw [List.all_eq_true]
 intro r hr
 obtain ⟨i, hi, rfl⟩ := List.getElem_of_mem hr
 have h2 := allF_short h (i : Int) (by omega) (by omega)
 unfold rdL at h2
 rw [Int.toNat_natCast, List.getD_eq_getElem?_getD, List.getElem?_eq_getElem hi] at h2
 exact decide_eq_true h2
theorem allFields_l0 {cs : Cs} (h : csOk cs = true) (d : Nat) : ∀ (k i : Nat), i + d = cs.length → d + 11 ≤ k → impl_allFields.l0 k cs ((List.range i).map (fun j : Nat => cfl cs j)) cs.length i = some (allF cs) := by
 have hl := csOk_len h
 induction d with
 | zero =>
  intro k i hi hk
  obtain ⟨k, rfl⟩ : ∃ m, k = m + 1 := ⟨k - 1, by omega⟩
  rw [impl_allFields.l0, if_neg (by omega)]
  unfold allF
  rw [show i = cs.length by omega]
 | succ d ih =>
  intro k i hi hk
  obtain ⟨k, rfl⟩ : ∃ m, k = m + 1 := ⟨k - 1, by omega⟩
  rw [impl_allFields.l0, if_pos (by omega), (cfl_eq h (a := (i : Int)) (by omega) (by omega)).2 k (by omega)]
  simp only [Option.bind_some]
  rw [if_pos (by simp; omega), wrap_inc (n := 1000) (by omega) (by omega) (by omega)]
  have := ih k (i + 1) (by omega) (by omega)
  rw [List.range_succ, List.map_append] at this
  exact this
theorem allFields_eq {cs : Cs} (h : csOk cs = true) (k : Nat) (hk : 20 ≤ k) : impl_allFields.f k cs = some (allF cs) := by
 have hl := csOk_len h
 have := allFields_l0 h cs.length k 0 (by omega) (by omega)
 unfold impl_allFields.f
 exact this
theorem measN_c {cs : Cs} {c : Int} (n : Int) (h0 : 0 ≤ c) (h1 : c < cs.length) : measN (allF cs) c n = 1 + (cfl cs c).length := by
  unfold measN
  rw [if_neg (by omega), allF_len, if_pos ⟨h0, h1⟩, allF_at cs h0 h1]
theorem l21Size_eq {cs : Cs} (h : csOk cs = true) {ws : List Int} (hw : ws.length ≤ 1048576) {i e : Int} (h0 : 0 ≤ i) (he : e ≤ ws.length) (k : Nat) (hk : 20 ≤ k) :
  spec_l21Size.f k cs ws i e = some (if i < e then mstep ws (allF cs) e i else 0) := by
 have hl := csOk_len h
 unfold spec_l21Size.f
 by_cases c0 : i < e
 case neg => rw [if_pos (by omega), if_neg c0]
 case pos =>
 rw [if_neg (by omega), if_pos h0, if_pos (by omega), spec_l6In_eq, if_pos c0, wrap64_of (n := (cs.length : Int) - 1) (by omega) (by omega)]
 simp only [Option.bind_some, decide_eq_true_eq]
 obtain ⟨c, hc⟩ : ∃ c, c = rd ws i := ⟨_, rfl⟩
 unfold mstep
 rw [← hc]
 by_cases c1 : 0 ≤ c ∧ c ≤ (cs.length : Int) - 1
 ·have c1' : c < (cs.length : Int) := by omega
  obtain ⟨f1, f2⟩ := cfl_eq h c1.1 c1'
  rw [if_pos c1, fields_same, f2 k (by omega), if_neg (by omega), measN_c 0 c1.1 c1']
  simp only [Option.bind_some]
  rw [wrap64_of (n := 1 + ((cfl cs c).length : Int)) (by omega) (by omega), wrap64_of (n := i + (1 + ((cfl cs c).length : Int))) (by omega) (by omega)]
  by_cases c2 : i + (1 + ((cfl cs c).length : Int)) > e
  ·rw [if_pos c2, if_neg (by omega)]
  ·rw [if_neg c2, if_pos (by omega)]
 rw [if_neg c1]
 obtain ⟨k, rfl⟩ : ∃ m, k = m + 2 := ⟨k - 2, by omega⟩
 have w1 : wrap64 (i + 1) = i + 1 := wrap64_of (by omega) (by omega)
 have key : ∀ b : Bool, (b = true ↔ (c = -1 ∨ c = -2)) → spec_l21Size.j0 (k + 2) ws i e 0 b = some (if c < 0 then (if i + 1 < e then (if measN (allF cs) c (rd ws (i + 1)) ≤ e - i then measN (allF cs) c (rd ws (i + 1)) else 0) else 0) else (if measN (allF cs) c 0 ≤ e - i then measN (allF cs) c 0 else 0)) := by
  intro b hb
  rw [spec_l21Size.j0]
  by_cases c2 : c = -1 ∨ c = -2
  ·rw [if_pos (hb.mpr c2), w1, if_pos (show c < 0 by omega)]
   by_cases c3 : i + 1 ≥ e
   ·rw [if_pos c3, spec_l21Size.j1, if_pos rfl, if_neg (show ¬ i + 1 < e by omega)]
   rw [if_neg c3, if_pos (show 0 ≤ i + 1 by omega), if_pos (show i + 1 < (ws.length : Int) by omega), spec_l6In_eq, if_pos (show i + 1 < e by omega)]
   simp only [Option.bind_some]
   obtain ⟨n, hn⟩ : ∃ n, n = rd ws (i + 1) := ⟨_, rfl⟩
   rw [← hn]
   have m1 : measN (allF cs) c n = if 0 ≤ n ∧ n ≤ 6 then 2 + n else 0 := by unfold measN; rw [if_pos c2]
   rw [m1, spec_l21Size.j1]
   by_cases c4 : 0 ≤ n ∧ n ≤ 6
   ·rw [decide_eq_true c4, if_neg (by simp), w1, if_pos (show 0 ≤ i + 1 by omega), if_pos (show i + 1 < (ws.length : Int) by omega), if_pos c4, ← hn, wrap64_of (n := 2 + n) (by omega) (by omega), wrap64_of (n := i + (2 + n)) (by omega) (by omega)]
    by_cases c5 : i + (2 + n) > e
    ·rw [if_pos c5, if_neg (by omega)]
    ·rw [if_neg c5, if_pos (by omega)]
   ·rw [decide_eq_false c4, if_pos (by simp), if_neg c4, if_pos (by omega)]
  ·rw [if_neg (fun hh => c2 (hb.mp hh)), wrap64_of (n := i + 0) (by omega) (by omega), if_neg (by omega)]
   have m0 : ∀ n, measN (allF cs) c n = 0 := fun n => by unfold measN; rw [if_neg c2, allF_len, if_neg (by omega)]
   rw [m0, m0]
   by_cases c3 : c < 0
   ·rw [if_pos c3]
    by_cases c4 : i + 1 < e
    ·rw [if_pos c4, if_pos (by omega)]
    ·rw [if_neg c4]
   ·rw [if_neg c3, if_pos (by omega)]
 by_cases c2 : c = -1
 ·rw [if_pos c2, key true (by simp [c2])]
 ·rw [if_neg c2, key _ (by simp [c2])]
end Go.Proofs.Ytfbkpjjnhengfaa.Pure
namespace Go.Proofs.Ytfbkpjjnhengfaa.Pure
open Go.RowKit Go.Proofs.Ytfbkpjjnhengfaa.K Go.Proofs.YtfbkpjjnhengfaaW.PrintWords Go.Proofs.YtfbkpjjnhengfaaW.PrintLast Go.Proofs.YtfbkpjjnhengfaaW.PrintMore
set_option linter.unusedVariables false
set_option linter.unusedSimpArgs false
def pw (ws : List Int) (F : List (List Int)) (e : Int) : Nat → Int → List Int × Bool
  | 0, _ => ([], true)
  | n + 1, i => if i < e then (if mstep ws F e i = 0 then ([], false) else (i :: (pw ws F e n (i + mstep ws F e i)).1, (pw ws F e n (i + mstep ws F e i)).2)) else ([], true)
theorem pw_mwalk (ws : List Int) (F : List (List Int)) (e : Int) : ∀ (n : Nat) (i : Int) (acc : List Int) (q : Nat), (e - i).toNat ≤ n → n < q → mwalk ws F e q i acc = some ((pw ws F e n i).2, acc ++ (pw ws F e n i).1.map (· + 1))
 | 0, i, acc, q, h, hq => by
  obtain ⟨q, rfl⟩ : ∃ m, q = m + 1 := ⟨q - 1, by omega⟩
  rw [mwalk, if_neg (by omega), pw]; simp
 | n + 1, i, acc, q, h, hq => by
  obtain ⟨q, rfl⟩ : ∃ m, q = m + 1 := ⟨q - 1, by omega⟩
  rw [mwalk, pw]
  by_cases c : i < e
  ·rw [if_pos c, if_pos c]
   by_cases c2 : mstep ws F e i = 0
   ·rw [if_pos c2, if_pos c2]; simp
   ·rw [if_neg c2, if_neg c2]
    have := mwalk_lt ws F e i
    rw [pw_mwalk ws F e n _ _ q (by omega) (by omega)]
    simp
  ·rw [if_neg c, if_neg c]; simp
theorem pw_len (ws : List Int) (F : List (List Int)) (e : Int) : ∀ (n : Nat) (i : Int), (pw ws F e n i).1.length ≤ n
 | 0, i => by simp [pw]
 | n + 1, i => by
  rw [pw]
  split
  ·split
   ·simp
   ·have := pw_len ws F e n (i + mstep ws F e i)
    simp only [List.length_cons]; omega
  ·simp
theorem pw_mem (ws : List Int) (F : List (List Int)) (e : Int) : ∀ (n : Nat) (i : Int), ∀ x ∈ (pw ws F e n i).1, i ≤ x ∧ x < e ∧ 0 < mstep ws F e x ∧ mstep ws F e x ≤ e - x
 | 0, i => by simp [pw]
 | n + 1, i => by
  rw [pw]
  intro x hx
  split at hx
  case isTrue c =>
   split at hx
   case isTrue c2 => simp at hx
   case isFalse c2 =>
    have hl := mwalk_lt ws F e i
    simp only [List.mem_cons] at hx
    rcases hx with rfl | hx
    ·omega
    ·have := pw_mem ws F e n _ x hx
     omega
  case isFalse c => simp at hx
theorem pw_sorted (ws : List Int) (F : List (List Int)) (e : Int) : ∀ (n : Nat) (i : Int), (pw ws F e n i).1.Pairwise (· < ·)
 | 0, i => by simp [pw]
 | n + 1, i => by
  rw [pw]
  split
  case isTrue c =>
   split
   case isTrue c2 => simp
   case isFalse c2 =>
    have hl := mwalk_lt ws F e i
    refine List.Pairwise.cons (fun x hx => ?_) (pw_sorted ws F e n _)
    have := pw_mem ws F e n _ x hx
    omega
  case isFalse c => simp
theorem pw_part {cs : Cs} (h : csOk cs = true) {ws : List Int} (hw : ws.length ≤ 1048576) {e : Int} (he : e ≤ ws.length) : ∀ (n : Nat) (i : Int) (acc : List Int) (k : Nat), 0 ≤ i → (e - i).toNat ≤ n → n + 21 ≤ k → acc.length + n < 17592186044416 →
  spec_l21Part.l0 k cs ws i e acc = some (acc ++ (pw ws (allF cs) e n i).1, (pw ws (allF cs) e n i).2)
 | 0, i, acc, k, h0, hn, hk, ha => by
  obtain ⟨k, rfl⟩ : ∃ m, k = m + 1 := ⟨k - 1, by omega⟩
  rw [spec_l21Part.l0, if_neg (by omega), pw]; simp
 | n + 1, i, acc, k, h0, hn, hk, ha => by
  obtain ⟨k, rfl⟩ : ∃ m, k = m + 1 := ⟨k - 1, by omega⟩
  rw [spec_l21Part.l0, pw]
  by_cases c : i < e
  ·rw [if_pos c, if_pos c, l21Size_eq h hw h0 he k (by omega), if_pos c]
   simp only [Option.bind_some]
   by_cases c2 : mstep ws (allF cs) e i = 0
   ·rw [if_pos c2, if_pos c2]; simp
   ·rw [if_neg c2, if_neg c2, if_pos (by omega)]
    have hl := mwalk_lt ws (allF cs) e i
    rw [wrap64_of (by omega) (by omega), pw_part h hw he n _ _ k (by omega) (by omega) (by omega) (by rw [List.length_append, List.length_singleton]; omega)]
    simp
  ·rw [if_neg c, if_neg c]; simp
theorem rd_mem {xs : List Int} {i : Nat} (h : i < xs.length) : rd xs (i : Int) = xs[i] := by
  rw [rd_cast, List.getD_eq_getElem?_getD, List.getElem?_eq_getElem h]; rfl
theorem sorted_lt {xs : List Int} (h : xs.Pairwise (· < ·)) {i j : Nat} (hi : i < j) (hj : j < xs.length) : xs[i]'(by omega) < xs[j] := List.pairwise_iff_getElem.mp h i j (by omega) hj hi
theorem cmp_Less_eq (a b : Int) : cmp_Less_int.f a b = some (decide (a < b)) := by
  unfold cmp_Less_int.f cmp_isNaN_int.f
  rw [Option.bind_some, show (a != a) = false from by simp, if_neg (by simp)]
theorem search_l0 {xs : List Int} (hs : xs.Pairwise (· < ·)) (hl : xs.length ≤ 1048576) (v : Int) (d : Nat) : ∀ (lo hi k : Nat), hi - lo ≤ d → lo ≤ hi → hi ≤ xs.length → d + 2 ≤ k → (∀ i (h : i < xs.length), i < lo → xs[i] < v) → (∀ i (h : i < xs.length), hi ≤ i → v ≤ xs[i]) →
  ∃ p : Nat, p ≤ xs.length ∧ slices_BinarySearch_int_int.l0 k xs v xs.length lo hi = some ((p : Int), decide (v ∈ xs)) ∧ (∀ i (h : i < xs.length), i < p → xs[i] < v) ∧ (∀ i (h : i < xs.length), p ≤ i → v ≤ xs[i]) := by
 induction d with
 | zero =>
  intro lo hi k hd hlh hhi hk h1 h2
  obtain ⟨k, rfl⟩ : ∃ m, k = m + 1 := ⟨k - 1, by omega⟩
  obtain rfl : lo = hi := by omega
  refine ⟨lo, hhi, ?_, h1, h2⟩
  rw [slices_BinarySearch_int_int.l0, if_neg (by omega)]
  by_cases c : lo < xs.length
  ·rw [if_pos (by omega), if_pos (by omega), if_pos (by omega), rd_mem c]
   by_cases c2 : xs[lo] = v
   ·rw [if_pos c2, decide_eq_true (by rw [← c2]; exact List.getElem_mem c)]
   ·have hv := h2 lo c (Nat.le_refl _)
    rw [if_neg c2]
    simp only [slices_isNaN_int.f, Option.bind_some]
    have nm : ¬ v ∈ xs := fun hm => by
     obtain ⟨j, hj, e⟩ := List.getElem_of_mem hm
     rcases Nat.lt_trichotomy j lo with q | q | q
     ·have := h1 j hj q; omega
     ·subst q; exact c2 e
     ·have := sorted_lt hs q hj; omega
    rw [decide_eq_false nm]
    simp
  ·rw [if_neg (by omega)]
   have nm : ¬ v ∈ xs := fun hm => by
    obtain ⟨j, hj, e⟩ := List.getElem_of_mem hm
    have := h1 j hj (by omega); omega
   rw [decide_eq_false nm]
 | succ d ih =>
  intro lo hi k hd hlh hhi hk h1 h2
  by_cases c : lo = hi
  ·subst c
   exact ih lo lo k (by omega) (by omega) hhi (by omega) h1 h2
  obtain ⟨k, rfl⟩ : ∃ m, k = m + 1 := ⟨k - 1, by omega⟩
  obtain ⟨m, hm⟩ : ∃ m, m = (lo + hi) / 2 := ⟨_, rfl⟩
  have hm2 : m < xs.length := by omega
  have hm3 : lo ≤ m := by omega
  have hm4 : m < hi := by omega
  have e1 : wrap64 ((lo : Int) + hi) = ((lo + hi : Nat) : Int) := by rw [wrap64_of (by omega) (by omega)]; omega
  have e2 : IntKind.u64.wrap ((lo + hi : Nat) : Int) = ((lo + hi : Nat) : Int) := by rw [IntKind.wrap_u64]; omega
  have e3 : wrap64 (((lo + hi : Nat) : Int) / 2) = (m : Int) := by
   have e4 : ((lo + hi : Nat) : Int) / 2 = (m : Int) := by rw [hm]; exact (Int.natCast_ediv (lo + hi) 2).symm
   rw [e4]
   exact wrap64_of (by omega) (by omega)
  clear hm
  rw [slices_BinarySearch_int_int.l0, if_pos (by omega), e1, e2, e3, if_pos (by omega), if_pos (by omega), rd_mem hm2]
  by_cases c2 : xs[m] < v
  ·have hc : cmp_Less_int.f xs[m] v = some true := by rw [cmp_Less_eq, decide_eq_true c2]
   rw [hc]
   simp only [Option.bind_some, if_true]
   rw [wrap_inc (n := 1048577) (by omega) (by omega) (by omega)]
   have := ih (m + 1) hi k (by omega) (by omega) hhi (by omega) (fun i h hi' => by
    rcases Nat.lt_or_ge i m with q | q
    ·have := sorted_lt hs q hm2; omega
    ·obtain rfl : i = m := by omega
     exact c2) h2
   rw [show ((m + 1 : Nat) : Int) = (m : Int) + 1 by omega] at this
   exact this
  ·have hc : cmp_Less_int.f xs[m] v = some false := by rw [cmp_Less_eq, decide_eq_false c2]
   rw [hc]
   simp only [Option.bind_some]
   rw [if_neg (by simp)]
   exact ih lo m k (by omega) (by omega) (by omega) (by omega) h1 (fun i h hi' => by
    rcases Nat.eq_or_lt_of_le hi' with q | q
    ·subst q; omega
    ·have := sorted_lt hs q h; omega)
theorem search_eq {xs : List Int} (hs : xs.Pairwise (· < ·)) (hl : xs.length ≤ 1048576) (v : Int) : ∃ p : Nat, p ≤ xs.length ∧ (∀ k, xs.length + 2 ≤ k → slices_BinarySearch_int_int.f k xs v = some ((p : Int), decide (v ∈ xs))) ∧ (∀ i (h : i < xs.length), i < p → xs[i] < v) ∧ (∀ i (h : i < xs.length), p ≤ i → v ≤ xs[i]) := by
 obtain ⟨p, hp, he, h1, h2⟩ := search_l0 hs hl v xs.length 0 xs.length (xs.length + 2) (by omega) (by omega) (by omega) (by omega) (fun i h hi => by omega) (fun i h hi => by omega)
 refine ⟨p, hp, fun k hk => ?_, h1, h2⟩
 have := at_rounds (g := fun k => slices_BinarySearch_int_int.f k xs v) (fun k => slices_BinarySearch_int_int.mono xs v k) hk (r := ((p : Int), decide (v ∈ xs))) (by unfold slices_BinarySearch_int_int.f; exact he)
 exact this
end Go.Proofs.Ytfbkpjjnhengfaa.Pure
namespace Go.Proofs.Ytfbkpjjnhengfaa.Pure
open Go.RowKit Go.Proofs.Ytfbkpjjnhengfaa.K Go.Proofs.YtfbkpjjnhengfaaW.PrintWords Go.Proofs.YtfbkpjjnhengfaaW.PrintLast Go.Proofs.YtfbkpjjnhengfaaW.PrintMore
set_option linter.unusedVariables false
set_option linter.unusedSimpArgs false
structure Bnd (cs : Cs) (ws : List Int) (y t o : Int) (cards : List Bool) : Prop where
 ok : csOk cs = true
 y0 : 0 ≤ y
 y1 : y ≤ 40
 n0 : 14 ≤ (ws.length : Int) - y
 n1 : (ws.length : Int) - y ≤ 120
 t0 : 0 ≤ t
 t1 : t ≤ y
 o0 : y ≤ o
 o1 : o ≤ ws.length
 cd : (cards.length : Int) = ((ws.length : Int) - y + 3) / 4
structure Wlk (cs : Cs) (ws : List Int) (W : List Int) : Prop where
 mem : ∀ x ∈ W, ∃ e : Int, e ≤ ws.length ∧ 0 ≤ x ∧ x < e ∧ 0 < mstep ws (allF cs) e x ∧ mstep ws (allF cs) e x ≤ e - x
 srt : W.Pairwise (· < ·)
 len : W.length ≤ 200
def startsL (W : List Int) (n : Nat) : List Bool := (List.range n).map (fun j : Nat => decide ((j : Int) ∈ W))
theorem startsL_len (W : List Int) (n : Nat) : (startsL W n).length = n := by simp [startsL]
theorem startsL_at (W : List Int) (n : Nat) {j : Int} (h0 : 0 ≤ j) (h1 : j < n) : rdOf false (startsL W n) j = decide (j ∈ W) := by
 unfold rdOf startsL
 rw [List.getD_eq_getElem?_getD, List.getElem?_map, List.getElem?_range (by omega)]
 show decide (((j.toNat : Nat) : Int) ∈ W) = _
 rw [Int.toNat_of_nonneg h0]
theorem starts_l0 (W : List Int) (n : Nat) (hW : ∀ x ∈ W, 0 ≤ x ∧ x < (n : Int)) (hl : W.length ≤ 1048576) (d : Nat) : ∀ (k i : Nat) (S : List Bool), i + d = W.length → d < k → S.length = n → (∀ j : Nat, j < n → S.getD j false = decide ((j : Int) ∈ W.take i)) →
  spec_l21Starts.l0 k W S i = some (startsL W n) := by
 induction d with
 | zero =>
  intro k i S hi hk hS hj
  obtain ⟨k, rfl⟩ : ∃ m, k = m + 1 := ⟨k - 1, by omega⟩
  rw [spec_l21Starts.l0, if_neg (by omega)]
  congr 1
  refine List.ext_getElem (by rw [hS, startsL_len]) (fun j h1 h2 => ?_)
  have := hj j (by omega)
  rw [List.getD_eq_getElem?_getD, List.getElem?_eq_getElem h1, show i = W.length by omega, List.take_length] at this
  have e2 : (startsL W n)[j] = decide ((j : Int) ∈ W) := by simp [startsL]
  rw [e2]; exact this
 | succ d ih =>
  intro k i S hi hk hS hj
  obtain ⟨k, rfl⟩ : ∃ m, k = m + 1 := ⟨k - 1, by omega⟩
  have hlt : i < W.length := by omega
  have hx := hW W[i] (List.getElem_mem hlt)
  rw [spec_l21Starts.l0, if_pos (by omega), if_pos (by omega), rd_mem hlt, if_pos hx.1, if_pos (by rw [hS]; exact hx.2), wrap_inc (n := 1048577) (by omega) (by omega) (by omega)]
  have := ih k (i + 1) (S.set W[i].toNat true) (by omega) (by omega) (by rw [List.length_set, hS]) (fun j hj2 => by
   have h3 := hj j hj2
   rw [List.take_succ_eq_append_getElem hlt]
   rw [List.getD_eq_getElem?_getD] at h3 ⊢
   rw [List.getElem?_set]
   by_cases q : W[i].toNat = j
   ·rw [if_pos q, if_pos (by omega)]
    have : (j : Int) ∈ W.take i ++ [W[i]] := by rw [List.mem_append, List.mem_singleton]; right; omega
    rw [decide_eq_true this]; rfl
   ·rw [if_neg q, h3]
    have : (j : Int) ∈ W.take i ++ [W[i]] ↔ (j : Int) ∈ W.take i := by
     rw [List.mem_append, List.mem_singleton]
     constructor
     ·rintro (z | z)
      ·exact z
      ·omega
     ·exact Or.inl
    simp only [this])
  rw [show ((i + 1 : Nat) : Int) = (i : Int) + 1 by omega] at this
  exact this
theorem starts_eq {W : List Int} {n : Nat} (hW : ∀ x ∈ W, 0 ≤ x ∧ x < (n : Int)) (hl : W.length ≤ 1000) (hn : n ≤ 1048576) (k : Nat) (hk : 1001 ≤ k) : spec_l21Starts.f k n W = some (startsL W n) := by
 unfold spec_l21Starts.f
 rw [if_pos (by omega), if_pos (by omega), Int.toNat_natCast]
 have := starts_l0 W n hW (by omega) W.length k 0 (List.replicate n false) (by omega) (by omega) (by simp) (fun j hj => by simp [List.getD_eq_getElem?_getD, hj])
 exact this
def ldB (cs : Cs) (c k : Int) : Bool := if c = -1 then false else if c = -2 then true else (rd (cfl cs c) k != 1)
theorem thing_facts {cs : Cs} {ws : List Int} {y t o : Int} {cards : List Bool} (hb : Bnd cs ws y t o cards) {W : List Int} (hw : Wlk cs ws W) (m : Mm) (hm : m = ⟨ws, y, t, o, cards, allF cs, W.map (· + 1)⟩) {x : Int} (hx : x ∈ W) :
    ∃ c hd cnt : Int, c = rd ws x ∧ 0 ≤ x ∧ (hd = 1 ∨ hd = 2) ∧ 0 ≤ cnt ∧ cnt ≤ 8 ∧ x + hd + cnt ≤ ws.length ∧ thing_count.f m (x + 1) = some cnt ∧ thing_first.f m (x + 1) = some (x + hd) ∧ spec_l21Head.f c = some hd ∧
      (∀ k, 20 ≤ k → spec_l21Size.f k cs ws x ws.length = some (hd + cnt)) ∧ (∀ k, 0 ≤ k → k < cnt → thing_leads.f m (x + 1) k = some (ldB cs c k)) ∧ (c = -1 ∨ c = -2 ∨ (0 ≤ c ∧ c < cs.length ∧ hd = 1 ∧ cnt = (cfl cs c).length)) := by
  obtain ⟨e, he, h0, h1, h2, h3⟩ := hw.mem x hx
  have n0 := hb.n0; have n1 := hb.n1; have y0 := hb.y0; have y1 := hb.y1
  have hl := csOk_len hb.ok
  have hc : thing_class.f m (x + 1) = some (rd ws x) := by
    unfold thing_class.f
    rw [hm]
    show (if 1 ≤ x + 1 ∧ x + 1 ≤ (ws.length : Int) ∧ ws.length ≤ 281474976710656 then some (rd ws (x + 1 - 1)) else none) = _
    rw [if_pos (by omega), show x + 1 - 1 = x by omega]
  obtain ⟨c, hcc⟩ : ∃ c, c = rd ws x := ⟨_, rfl⟩
  rw [← hcc] at hc
  have hsz : ∀ k, 20 ≤ k → spec_l21Size.f k cs ws x ws.length = some (mstep ws (allF cs) ws.length x) := fun k hk => by
    rw [l21Size_eq hb.ok (by omega) h0 (Int.le_refl _) k hk, if_pos (by omega)]
  by_cases c0 : c < 0
  · have hs : mstep ws (allF cs) e x = 2 + rd ws (x + 1) ∧ (c = -1 ∨ c = -2) ∧ x + 1 < e ∧ 0 ≤ rd ws (x + 1) ∧ rd ws (x + 1) ≤ 6 := by
      unfold mstep at h2 ⊢
      rw [← hcc] at h2 ⊢
      rw [if_pos c0] at h2 ⊢
      by_cases c1 : x + 1 < e
      · rw [if_pos c1] at h2 ⊢
        by_cases c2 : c = -1 ∨ c = -2
        · by_cases c3 : 0 ≤ rd ws (x + 1) ∧ rd ws (x + 1) ≤ 6
          · have m1 : measN (allF cs) c (rd ws (x + 1)) = 2 + rd ws (x + 1) := by unfold measN; rw [if_pos c2, if_pos c3]
            rw [m1] at h2 ⊢
            split at h2
            · rename_i z; rw [if_pos z]; exact ⟨rfl, c2, c1, c3.1, c3.2⟩
            · omega
          · have m1 : measN (allF cs) c (rd ws (x + 1)) = 0 := by unfold measN; rw [if_pos c2, if_neg c3]
            rw [m1] at h2
            split at h2 <;> omega
        · have m1 : measN (allF cs) c (rd ws (x + 1)) = 0 := by unfold measN; rw [if_neg c2, if_neg (by omega)]
          rw [m1] at h2
          split at h2 <;> omega
      · rw [if_neg c1] at h2; omega
    obtain ⟨s1, s2, s3, s4, s5⟩ := hs
    refine ⟨c, 2, rd ws (x + 1), hcc, h0, Or.inr rfl, s4, by omega, by omega, ?_, ?_, ?_, ?_, ?_, ?_⟩
    · unfold thing_count.f
      rw [hc, Option.bind_some, if_pos c0, hm]
      show (if x + 1 < (ws.length : Int) then some (rd ws (x + 1)) else none) = _
      rw [if_pos (by omega)]
    · unfold thing_first.f
      rw [hc, Option.bind_some, if_pos c0, show x + 1 + 1 = x + 2 by omega]
    · unfold spec_l21Head.f; rw [if_pos c0]
    · intro k hk
      rw [hsz k hk]
      unfold mstep
      rw [← hcc, if_pos c0, if_pos (by omega)]
      have m1 : measN (allF cs) c (rd ws (x + 1)) = 2 + rd ws (x + 1) := by unfold measN; rw [if_pos s2, if_pos ⟨s4, s5⟩]
      rw [m1, if_pos (by omega)]
    · intro k _ _
      unfold thing_leads.f ldB
      rw [hc, Option.bind_some]
      rcases s2 with z | z
      · rw [if_pos z, if_pos z]
      · rw [if_neg (by omega), if_pos z, if_neg (by omega), if_pos z]
    · rcases s2 with z | z
      · exact Or.inl z
      · exact Or.inr (Or.inl z)
  · have c1 : c < cs.length ∧ mstep ws (allF cs) e x = 1 + (cfl cs c).length := by
      unfold mstep at h2 ⊢
      rw [← hcc] at h2 ⊢
      rw [if_neg c0] at h2 ⊢
      by_cases z : c < (cs.length : Int)
      · rw [measN_c 0 (by omega) z] at h2 ⊢
        split at h2
        · rename_i q; rw [if_pos q]; exact ⟨z, rfl⟩
        · omega
      · have m1 : measN (allF cs) c 0 = 0 := by unfold measN; rw [if_neg (by omega), allF_len, if_neg (by omega)]
        rw [m1] at h2
        split at h2 <;> omega
    have hf := cfl_eq hb.ok (a := c) (by omega) c1.1
    refine ⟨c, 1, (cfl cs c).length, hcc, h0, Or.inl rfl, by omega, by omega, by omega, ?_, ?_, ?_, ?_, ?_, Or.inr (Or.inr ⟨by omega, c1.1, rfl, rfl⟩)⟩
    · unfold thing_count.f
      rw [hc, Option.bind_some, if_neg c0, hm]
      show (if c < ((allF cs).length : Int) ∧ (allF cs).length ≤ 281474976710656 then some (((rdL (allF cs) c).length : Nat) : Int) else none) = _
      rw [allF_len, if_pos ⟨c1.1, by omega⟩, allF_at cs (by omega) c1.1]
    · unfold thing_first.f
      rw [hc, Option.bind_some, if_neg c0]
    · unfold spec_l21Head.f; rw [if_neg c0]
    · intro k hk
      rw [hsz k hk]
      unfold mstep
      rw [← hcc, if_neg c0, measN_c 0 (by omega) c1.1, if_pos (by omega)]
    · intro k k0 k1
      unfold thing_leads.f ldB
      have q1 : ¬ c = -1 := by omega
      have q2 : ¬ c = -2 := by omega
      rw [hc, Option.bind_some]
      simp only [if_neg q1, if_neg q2]
      rw [hm]
      show (if 0 ≤ c ∧ c < ((allF cs).length : Int) ∧ 0 ≤ k ∧ k < ((rdL (allF cs) c).length : Int) then some (rd (rdL (allF cs) c) k != 1) else none) = _
      rw [allF_len, allF_at cs (by omega) c1.1, if_pos ⟨by omega, c1.1, k0, k1⟩]
def refsL (cs : Cs) (c hd s : Int) : List Bool := (List.range s.toNat).map (fun j : Nat => decide (hd ≤ j) && ldB cs c (j - hd))
theorem refsL_at (cs : Cs) (c hd s : Int) {j : Int} (h0 : hd ≤ j) (h00 : 0 ≤ j) (h1 : j < s) : rdOf false (refsL cs c hd s) j = ldB cs c (j - hd) := by
 unfold rdOf refsL
 rw [List.getD_eq_getElem?_getD, List.getElem?_map, List.getElem?_range (by omega)]
 show (decide (hd ≤ ((j.toNat : Nat) : Int)) && ldB cs c (((j.toNat : Nat) : Int) - hd)) = _
 rw [Int.toNat_of_nonneg h00, decide_eq_true h0, Bool.true_and]
theorem refs_l0 {cs : Cs} (h : csOk cs = true) {c hd : Int} {s : Nat} (hs : s ≤ 100) (hh : hd = 1 ∨ hd = 2) (hc : c = -1 ∨ c = -2 ∨ (0 ≤ c ∧ c < cs.length ∧ hd = 1 ∧ (s : Int) = 1 + (cfl cs c).length)) (d : Nat) : ∀ (k j : Nat) (R : List Bool), j + d = s → hd ≤ (j : Int) → d + 30 ≤ k → R.length = s → (∀ i : Nat, i < s → R.getD i false = (decide (hd ≤ (i : Int) ∧ i < j) && ldB cs c ((i : Int) - hd))) →
  spec_l21Refs.l0 k cs R c j = some (refsL cs c hd s) := by
 induction d with
 | zero =>
  intro k j R hj hj2 hk hR hi
  obtain ⟨k, rfl⟩ : ∃ m, k = m + 1 := ⟨k - 1, by omega⟩
  rw [spec_l21Refs.l0, if_neg (by omega)]
  congr 1
  refine List.ext_getElem (by rw [hR]; simp [refsL]) (fun i h1 h2 => ?_)
  have e1 := hi i (by omega)
  rw [List.getD_eq_getElem?_getD, List.getElem?_eq_getElem h1] at e1
  have e2 : (refsL cs c hd s)[i] = (decide (hd ≤ (i : Int)) && ldB cs c ((i : Int) - hd)) := by simp [refsL]
  rw [e2]
  have e3 : (hd ≤ (i : Int) ∧ i < j) ↔ hd ≤ (i : Int) := ⟨fun z => z.1, fun z => ⟨z, by omega⟩⟩
  simp only [e3] at e1
  exact e1
 | succ d ih =>
  intro k j R hj hj2 hk hR hi
  obtain ⟨k, rfl⟩ : ∃ m, k = m + 1 := ⟨k - 1, by omega⟩
  have step : ∀ b, b = ldB cs c ((j : Int) - hd) → spec_l21Refs.l0 k cs (R.set ((j : Int)).toNat b) c (wrap64 ((j : Int) + 1)) = some (refsL cs c hd s) := fun b hbb => by
   rw [wrap_inc (n := 1000) (by omega) (by omega) (by omega), Int.toNat_natCast]
   have := ih k (j + 1) (R.set j b) (by omega) (by omega) (by omega) (by rw [List.length_set, hR]) (fun i hi2 => by
    have h3 := hi i hi2
    rw [List.getD_eq_getElem?_getD] at h3 ⊢
    rw [List.getElem?_set]
    by_cases q : j = i
    ·rw [if_pos q, if_pos (by omega)]
     subst q
     rw [decide_eq_true (show hd ≤ (j : Int) ∧ j < j + 1 from ⟨hj2, by omega⟩), Bool.true_and, hbb]; rfl
    ·rw [if_neg q, h3]
     have : (hd ≤ (i : Int) ∧ i < j + 1) ↔ (hd ≤ (i : Int) ∧ i < j) := by omega
     simp only [this])
   rw [show ((j + 1 : Nat) : Int) = (j : Int) + 1 by omega] at this
   exact this
  rw [spec_l21Refs.l0, if_pos (by omega)]
  rcases hc with z | z | z
  ·rw [if_neg (by omega), if_neg (by omega), if_pos (by omega)]
   exact step _ (by unfold ldB; rw [if_pos z])
  ·rw [if_pos z, if_pos (by omega)]
   exact step _ (by unfold ldB; rw [if_neg (by omega), if_pos z])
  ·obtain ⟨z0, z1, z2, z3⟩ := z
   rw [if_neg (by omega), if_pos (by omega), fields_same, (cfl_eq h z0 z1).2 k (by omega)]
   simp only [Option.bind_some]
   rw [wrap64_of (n := (j : Int) - 1) (by omega) (by omega), if_pos (by omega), if_pos (by omega), if_pos (by omega)]
   exact step _ (by unfold ldB; rw [if_neg (by omega), if_neg (by omega), z2])
end Go.Proofs.Ytfbkpjjnhengfaa.Pure
namespace Go.Proofs.Ytfbkpjjnhengfaa.Pure
open Go.RowKit Go.Proofs.Ytfbkpjjnhengfaa.K Go.Proofs.YtfbkpjjnhengfaaW.PrintWords Go.Proofs.YtfbkpjjnhengfaaW.PrintLast Go.Proofs.YtfbkpjjnhengfaaW.PrintMore
set_option linter.unusedVariables false
set_option linter.unusedSimpArgs false
theorem head_any (c : Int) : ∃ hd, (hd = 1 ∨ hd = 2) ∧ spec_l21Head.f c = some hd := by
 unfold spec_l21Head.f
 by_cases h : c < 0
 ·exact ⟨2, .inr rfl, by rw [if_pos h]⟩
 ·exact ⟨1, .inl rfl, by rw [if_neg h]⟩
theorem refs_any {cs : Cs} (h : csOk cs = true) {ws : List Int} (hn : ws.length ≤ 1000) {x : Int} (h0 : 0 ≤ x) (h1 : x < ws.length) :
  ∃ R : List Bool, (x + R.length ≤ ws.length ∧ R.length ≤ 10) ∧ ∀ k, 200 ≤ k → spec_l21Refs.f k cs ws x = some R := by
 have hsz : ∀ k, 20 ≤ k → spec_l21Size.f k cs ws x ws.length = some (mstep ws (allF cs) ws.length x) := fun k hk => by
  rw [l21Size_eq h (by omega) h0 (Int.le_refl _) k hk, if_pos h1]
 rcases mwalk_lt ws (allF cs) ws.length x with hz | ⟨hz, hz2⟩
 ·obtain ⟨hd, hh, he⟩ := head_any (rd ws x)
  refine ⟨[], ⟨by simp; omega, by simp⟩, fun k hk => ?_⟩
  unfold spec_l21Refs.f
  rw [hsz k (by omega), hz, Option.bind_some, if_pos (by omega), if_pos (by simp), if_pos h0, if_pos h1, he, Option.bind_some]
  obtain ⟨k, rfl⟩ : ∃ m, k = m + 1 := ⟨k - 1, by omega⟩
  rw [spec_l21Refs.l0, if_neg (by simp; omega)]
  rfl
 ·obtain ⟨c, hc⟩ : ∃ c, c = rd ws x := ⟨_, rfl⟩
  have hm : ∃ hd cnt : Int, (hd = 1 ∨ hd = 2) ∧ 0 ≤ cnt ∧ cnt ≤ 8 ∧ mstep ws (allF cs) ws.length x = hd + cnt ∧ spec_l21Head.f c = some hd ∧ (c = -1 ∨ c = -2 ∨ (0 ≤ c ∧ c < cs.length ∧ hd = 1 ∧ cnt = (cfl cs c).length)) := by
   unfold mstep at hz ⊢
   rw [← hc] at hz ⊢
   by_cases c0 : c < 0
   ·rw [if_pos c0] at hz ⊢
    by_cases c1 : x + 1 < (ws.length : Int)
    ·rw [if_pos c1] at hz ⊢
     by_cases c2 : measN (allF cs) c (rd ws (x + 1)) ≤ (ws.length : Int) - x
     ·rw [if_pos c2] at hz ⊢
      unfold measN at hz ⊢
      by_cases c3 : c = -1 ∨ c = -2
      ·rw [if_pos c3] at hz ⊢
       by_cases c4 : 0 ≤ rd ws (x + 1) ∧ rd ws (x + 1) ≤ 6
       ·rw [if_pos c4]
        exact ⟨2, rd ws (x + 1), .inr rfl, c4.1, by omega, rfl, by unfold spec_l21Head.f; rw [if_pos c0], c3.elim .inl (fun z => .inr (.inl z))⟩
       ·rw [if_neg c4] at hz; omega
      ·rw [if_neg c3, if_neg (by omega)] at hz; omega
     ·rw [if_neg c2] at hz; omega
    ·rw [if_neg c1] at hz; omega
   ·rw [if_neg c0] at hz ⊢
    by_cases c2 : measN (allF cs) c 0 ≤ (ws.length : Int) - x
    ·rw [if_pos c2] at hz ⊢
     by_cases c3 : c < cs.length
     ·rw [measN_c 0 (by omega) c3]
      exact ⟨1, (cfl cs c).length, .inl rfl, by omega, by have := (cfl_eq h (show 0 ≤ c by omega) c3).1; omega, rfl, by unfold spec_l21Head.f; rw [if_neg c0], .inr (.inr ⟨by omega, c3, rfl, rfl⟩)⟩
     ·unfold measN at hz
      rw [if_neg (by omega), allF_len, if_neg (by omega)] at hz; omega
    ·rw [if_neg c2] at hz; omega
  obtain ⟨hd, cnt, hh, n0, n8, hs, he, hcc⟩ := hm
  refine ⟨refsL cs c hd (hd + cnt), by unfold refsL; rw [List.length_map, List.length_range]; exact ⟨by omega, by omega⟩, fun k hk => ?_⟩
  have hsk := hsz k (by omega)
  rw [hs] at hsk
  unfold spec_l21Refs.f
  rw [hsk, Option.bind_some, if_pos (by omega), if_pos (by omega), if_pos h0, if_pos (by omega), ← hc, he, Option.bind_some]
  have := refs_l0 h (c := c) (hd := hd) (s := (hd + cnt).toNat) (by omega) hh (by rcases hcc with z | z | z; exact .inl z; exact .inr (.inl z); exact .inr (.inr ⟨z.1, z.2.1, z.2.2.1, by omega⟩)) ((hd + cnt).toNat - hd.toNat) k hd.toNat (List.replicate (hd + cnt).toNat false) (by omega) (by omega) (by omega) (by simp) (fun i hi => by
   rw [List.getD_eq_getElem?_getD, List.getElem?_replicate, if_pos hi]
   rw [decide_eq_false (by omega)]; rfl)
  rw [show ((hd.toNat : Nat) : Int) = hd by omega, show (((hd + cnt).toNat : Nat) : Int) = hd + cnt by omega] at this
  exact this
end Go.Proofs.Ytfbkpjjnhengfaa.Pure
