import Derived.Test.YtmniglgahodghaaPt24
import Derived.Test.YtmniglgahodghaaPt28
namespace Go.Proofs.Ytmniglgahodghaa.K
open Go.RowKit Go.Proofs.YtmniglgahodghaaW.PrintWords Go.Proofs.YtmniglgahodghaaW.PrintLast Go.Proofs.YtmniglgahodghaaW.PrintMore
attribute [local go_sem] max2_int min2_int max_two min_two max_three min_three max_four min_four
set_option linter.unusedVariables false
set_option linter.unusedSimpArgs false
def spec_l21Make.f (l0_0 : List Int) (a0_1 : Int) (a0_2 : Int) (a0_3 : Int) (l0_4 : List Bool) (a1 : Int) (a2 : Int) (a3 : Int) : Option (List Int × Int × Int × Int × List Bool × Int) := if 0 ≤ a1 then (if a1 < (l0_0.length : Int) then ((some (l0_0.set (a1 : Int).toNat a2 : List Int)).bind fun y298 => (if a2 < 0 then (if 0 ≤ (wrap64 (a1 + 1)) then (if (wrap64 (a1 + 1)) < (l0_0.length : Int) then (some ((y298.set ((wrap64 (a1 + 1)) : Int).toNat a3), a0_1, a0_2, a0_3, l0_4, wrap64 (a1 + 1))) else (none)) else (none)) else (some (y298, a0_1, a0_2, a0_3, l0_4, wrap64 (a1 + 1))))) else (none)) else (none)
set_option maxHeartbeats 8000000 in
set_option maxRecDepth 100000 in
theorem spec_l21Make.calls (P0_0_ : Nat → Prop) (u9000_ : Value) (l0_0 : List Int) (a0_1 : Int) (a0_2 : Int) (a0_3 : Int) (P0_4_ : Nat → Prop) (u9001_ : Value) (l0_4 : List Bool) (a1 : Int) (a2 : Int) (a3 : Int) (r1 : List Int) (r2 : Int) (r3 : Int) (r4 : Int) (r5 : List Bool) (r6 : Int) (w0 w : World) (hB : Below w0.heap.size w0 w) (ho0_0 : Kd.R (Kd.int .i64) 3 w w0.heap.size P0_0_ u9000_ l0_0) (ho0_4 : Kd.R Kd.bool 4 w w0.heap.size P0_4_ u9001_ l0_4) (h : spec_l21Make.f l0_0 a0_1 a0_2 a0_3 l0_4 a1 a2 a3 = some (r1, r2, r3, r4, r5, r6)) :
  Calls Try.prog 94 #[.agg #[u9000_, .int .i64 a0_1, .int .i64 a0_2, .int .i64 a0_3, u9001_], .int .i64 a1, .int .i64 a2, .int .i64 a3] w fun e w' => ∃ v0_ v4_ : Value, e = .returned (.tuple #[.agg #[v0_, .int .i64 r2, .int .i64 r3, .int .i64 r4, v4_], .int .i64 r6]) ∧ Kd.R (Kd.int .i64) 3 w' w0.heap.size (fun k_ => ((P0_0_ k_ ∨ P0_4_ k_) ∨ w.heap.size ≤ k_)) v0_ r1 ∧ Kd.R Kd.bool 4 w' w0.heap.size (fun k_ => ((P0_0_ k_ ∨ P0_4_ k_) ∨ w.heap.size ≤ k_)) v4_ r5 ∧ Below w0.heap.size w0 w' ∧ Kept w w' (fun k_ => P0_0_ k_ ∨ P0_4_ k_) := by
 have hu29 := Try.underlying29
 have HO0_0 := Aside0.mk (show Kd.R (Kd.int .i64) 3 w w0.heap.size (fun k_ => ((P0_0_ k_ ∨ P0_4_ k_) ∨ w.heap.size ≤ k_)) u9000_ l0_0 from Kd.R_mono ho0_0 (fun k_ hk => (.inl (.inl hk))))
 have HO0_4 := Aside0.mk (show Kd.R Kd.bool 4 w w0.heap.size (fun k_ => ((P0_0_ k_ ∨ P0_4_ k_) ∨ w.heap.size ≤ k_)) u9001_ l0_4 from Kd.R_mono ho0_4 (fun k_ hk => (.inl (.inr hk))))
 have HK := Aside0.mk (Kept.refl w (fun k_ => P0_0_ k_ ∨ P0_4_ k_))
 have HW0 := Aside0.mk hB.size
 have HB := Aside0.mk hB
 clear hB
 have H : (if 0 ≤ a1 then (if a1 < (l0_0.length : Int) then ((some (l0_0.set (a1 : Int).toNat a2 : List Int)).bind fun y298 => (if a2 < 0 then (if 0 ≤ (wrap64 (a1 + 1)) then (if (wrap64 (a1 + 1)) < (l0_0.length : Int) then (some ((y298.set ((wrap64 (a1 + 1)) : Int).toNat a3), a0_1, a0_2, a0_3, l0_4, wrap64 (a1 + 1))) else (none)) else (none)) else (some (y298, a0_1, a0_2, a0_3, l0_4, wrap64 (a1 + 1))))) else (none)) else (none)) = some (r1, r2, r3, r4, r5, r6) := h
 clear h
 by_cases c5 : 0 ≤ a1
 ·rw [if_pos c5] at H
  have c5b0 : decide (0 ≤ a1) = true := decide_eq_true c5
  clear c5
  by_cases c6 : a1 < (l0_0.length : Int)
  ·rw [if_pos c6] at H
   have c6b0 : decide (a1 < (l0_0.length : Int)) = true := decide_eq_true c6
   clear c6
   obtain ⟨y298, hy298⟩ : ∃ y_ : List Int, y_ = (l0_0.set (a1 : Int).toNat a2) := ⟨_, rfl⟩
   replace H : (if a2 < 0 then (if 0 ≤ (wrap64 (a1 + 1)) then (if (wrap64 (a1 + 1)) < (l0_0.length : Int) then (some ((y298.set ((wrap64 (a1 + 1)) : Int).toNat a3), a0_1, a0_2, a0_3, l0_4, wrap64 (a1 + 1))) else (none)) else (none)) else (some (y298, a0_1, a0_2, a0_3, l0_4, wrap64 (a1 + 1)))) = some (r1, r2, r3, r4, r5, r6) := by first | (rw [hy298]; with_reducible exact H) | (have H2_ := (Option.bind_some _ _).symm.trans H; rw [hy298]; with_reducible exact H2_) | (have H2_ := (Option.bind_some _ _).symm.trans H; with_reducible exact H2_) | with_reducible exact H | (rw [hy298]; exact H) | exact H
   have Ny298 := Aside0.mk hy298
   clear hy298
   by_cases c8 : a2 < 0
   ·rw [if_pos c8] at H
    have c8b0 : decide (a2 < 0) = true := decide_eq_true c8
    clear c8
    obtain ⟨ji9, hji9⟩ : ∃ j_ : Int, (wrap64 (a1 + 1)) = j_ := ⟨_, rfl⟩
    replace H : (if 0 ≤ (ji9) then (if (ji9) < (l0_0.length : Int) then (some ((y298.set ((ji9) : Int).toNat a3), a0_1, a0_2, a0_3, l0_4, ji9)) else (none)) else (none)) = some (r1, r2, r3, r4, r5, r6) := by first | (rw [hji9] at H; exact H) | (simp only [hji9] at H ⊢; exact H)
    have hji9w : (IntKind.i64.wrap (a1 + 1)) = ji9 := (i64_w _).trans hji9
    by_cases c10 : 0 ≤ (ji9)
    ·rw [if_pos c10] at H
     have c10b0 : decide (0 ≤ (ji9)) = true := decide_eq_true c10
     clear c10
     by_cases c11 : (ji9) < (l0_0.length : Int)
     ·rw [if_pos c11] at H
      have c11b0 : decide ((ji9) < (l0_0.length : Int)) = true := decide_eq_true c11
      clear c11
      obtain ⟨y299, hy299⟩ : ∃ y_ : List Int, y_ = (y298.set ((ji9) : Int).toNat a3) := ⟨_, rfl⟩
      replace H : (some (y299, a0_1, a0_2, a0_3, l0_4, ji9)) = some (r1, r2, r3, r4, r5, r6) := by first | (rw [hy299]; with_reducible exact H) | (have H2_ := (Option.bind_some _ _).symm.trans H; rw [hy299]; with_reducible exact H2_) | (have H2_ := (Option.bind_some _ _).symm.trans H; with_reducible exact H2_) | with_reducible exact H | (rw [hy299]; exact H) | exact H
      have Ny299 := Aside0.mk hy299
      clear hy299
      simp only [Option.some.injEq, Prod.mk.injEq] at H
      obtain ⟨rfl, rfl, rfl, rfl, rfl, rfl⟩ := H
      obtain ⟨Ao13, co13, eo13⟩ := Kd.R_slice HO0_0.out
      subst eo13
      obtain ⟨Ao14, co14, eo14⟩ := Kd.R_slice HO0_4.out
      subst eo14
      go_enter Try.func94, Try.ntmps94
      go_wp2_with (first | ((with_reducible refine gate_dst (N := 4) rfl ?_); refine box_event ?hg (N := 4) ?hd (cs := #[.slice Ao13 l0_0.length co13, .int .i64 a0_1, .int .i64 a0_2, .int .i64 a0_3, .slice Ao14 l0_4.length co14]) (t := 29) ?hr ?_; (case hd => rfl); (case hg => rfl); (case hr => first | (go_simp; done) | (go_simp; rfl)); intro gb296 hg w15 hbox hb; have BK296 := Aside0.mk (hbox); have GW296 := Aside0.mk ((by rw [hg]; exact z46 : w.heap.size ≤ gb296)); have GE296 := Aside0.mk ((by rw [hg]; exact (below_size z1) : w0.heap.size ≤ gb296)); replace HO0_0 := Aside0.mk (Kd.R_below z48 hb); replace HO0_4 := Aside0.mk (Kd.R_below z28 hb); replace HK := Aside0.mk (Kept.below (S := (fun k_ => P0_0_ k_ ∨ P0_4_ k_)) z33 hb); replace HB := Aside0.mk (below_step z1 hb); clear hb hbox hg) | ((with_reducible refine gate_dst (N := 8) rfl ?_); refine box_event ?hg (N := 8) ?hd (cs := #[.slice none 0 0, .int .i64 0, .int .i64 0, .int .i64 0, .slice none 0 0]) (t := 29) ?hr ?_; (case hd => rfl); (case hg => rfl); (case hr => first | (go_simp; done) | (go_simp; rfl)); intro gb297 hg w16 hbox hb; have BK297 := Aside0.mk (hbox); have GW297 := Aside0.mk ((by rw [hg]; exact (by first | exact HK.out.1 | exact (show Kept w _ (fun k_ => P0_0_ k_ ∨ P0_4_ k_) from by repeat (first | (with_reducible first | exact HK.out | apply Kept.alloc | apply Kept.drewN | apply Kept.drew | refine Kept.setCell ?_ (.inr GW296.out) _) | exact HK.out)).1) : w.heap.size ≤ gb297)); have GE297 := Aside0.mk ((by rw [hg]; exact (below_size z42) : w0.heap.size ≤ gb297)); have NB296_297 := Aside0.mk ((by rw [hg]; exact Nat.ne_of_lt (blk_lt (g := gb296) (o := .cells #[.slice Ao13 l0_0.length co13, .int .i64 a0_1, .int .i64 a0_2, .int .i64 a0_3, .slice Ao14 l0_4.length co14] 29 (0, 0)) z19) : gb296 ≠ gb297)); have NB297_296 := Aside0.mk ((by rw [hg]; exact Nat.ne_of_gt (blk_lt (g := gb296) (o := .cells #[.slice Ao13 l0_0.length co13, .int .i64 a0_1, .int .i64 a0_2, .int .i64 a0_3, .slice Ao14 l0_4.length co14] 29 (0, 0)) z19) : gb297 ≠ gb296)); replace HO0_0 := Aside0.mk (Kd.R_below z48 hb); replace HO0_4 := Aside0.mk (Kd.R_below z28 hb); replace BK296 := Aside0.mk (blk_below (g := gb296) (o := .cells #[.slice Ao13 l0_0.length co13, .int .i64 a0_1, .int .i64 a0_2, .int .i64 a0_3, .slice Ao14 l0_4.length co14] 29 (0, 0)) z19 hb); replace HK := Aside0.mk (Kept.below (S := (fun k_ => P0_0_ k_ ∨ P0_4_ k_)) (by repeat (first | (with_reducible first | exact HK.out | apply Kept.alloc | apply Kept.drewN | apply Kept.drew | refine Kept.setCell ?_ (.inr GW296.out) _) | exact HK.out)) hb); replace HB := Aside0.mk (below_step z42 hb); clear hb hbox hg; have hnb17 := NB296_297.out; have hnc17 := NB297_296.out; obtain ⟨hcz18_0, hcz18_1, hcz18_2, hcz18_3, hcz18_4, hfz18_0, hfz18_1, hfz18_2, hfz18_3, hfz18_4⟩ := cbf5 BK296; have p7 : 0 ≤ (a1 : Int) := of_decide_eq_true z3; have q7 : (a1 : Int) < ((l0_0.length : Int) : Int) := of_decide_eq_true z3; obtain ⟨go7, co7, eo7, gb7, gl7, cl7, HG7⟩ := Kd.R_form HO0_0.out (by omega); (first | cases eo7 | (injection eo7 with ea_ en_ ec_; (first | subst ea_ | (injection ea_ with ea_; subst ea_)); subst ec_; clear en_)); have GB7 := Aside0.mk gb7; have GG7 := Aside0.mk HG7; clear gb7 gl7 HG7; have HMgo7 := Aside0.mk (show ((P0_0_ go7 ∨ P0_4_ go7) ∨ w.heap.size ≤ go7) from (HO0_0.out.1 _ rfl)); obtain ⟨hx7_0, hf7_0⟩ := Kd.R_celln 0 HO0_0.out (a1 : Int) p7 q7; replace p7 := eq_true p7; replace q7 := eq_true q7; obtain ⟨hy19_, hz19_⟩ := Kd.R_celln 0 HO0_0.out (a1 : Int) (of_decide_eq_true z3) (of_decide_eq_true z3); have HP19 := Kd.R_putg HO0_0.out (a1 : Int) a2) | ((with_reducible refine gate_store (t := 3) (p := 14) rfl ?_); refine store_event (t := 3) (p := 14) (v := ?vo_w20) (w1 := (w16.setCell ⟨go7, (a1 : Int).toNat, none⟩ (.int .i64 a2))) ?hg ?ho ?hn ?hr ?_; (case ho => rfl); (case hg => rfl); (case hn => rfl); (case hr => first | (go_simp; done) | (go_simp; rfl)); intro w20 hw; have hg : w16.grownBy w20 (some go7) := (by rw [hw]; exact HP19.2); have hp_ : Kd.R (Kd.int .i64) 3 w20 w0.heap.size (fun k_ => ((P0_0_ k_ ∨ P0_4_ k_) ∨ w.heap.size ≤ k_)) (.slice (some ⟨go7, 0, none⟩) l0_0.length co13) y298 := (by rw [hw, Ny298.out]; exact HP19.1); clear HP19; replace HO0_4 := Aside0.mk (Kd.R_over' (v := (.slice (some ⟨go7, 0, none⟩) l0_0.length co13)) z28 (Kd.R_typed HO0_0.out) (by decide) hg); replace BK296 := Aside0.mk (blk_grown (g := gb296) (o := .cells #[.slice (some ⟨go7, 0, none⟩) l0_0.length co13, .int .i64 a0_1, .int .i64 a0_2, .int .i64 a0_3, .slice Ao14 l0_4.length co14] 29 (0, 0)) z19 hg (Kd.R_ne HO0_0.out BK296.out (by decide))); replace BK297 := Aside0.mk (blk_grown (g := gb297) (o := .cells #[.slice none 0 0, .int .i64 0, .int .i64 0, .int .i64 0, .slice none 0 0] 29 (0, 0)) (by (with_reducible repeat (first | refine blk_drewN ?_ _ | refine blk_drew ?_ | refine blk_alloc ?_ _)); exact BK297.out) hg (Kd.R_ne HO0_0.out BK297.out (by decide))); replace HB := Aside0.mk ((by rw [hw]; exact below_set (HB.out) GB7.out : Below w0.heap.size w0 w20)); replace HK := Aside0.mk (Kept.of_grown (S := (fun k_ => P0_0_ k_ ∨ P0_4_ k_)) hg z47 (fun k_ e_ => (HO0_0.out.1 k_ e_))); replace HO0_0 := Aside0.mk (hp_); clear hg hw hp_; obtain ⟨hcz21_0, hcz21_1, hcz21_2, hcz21_3, hcz21_4, hfz21_0, hfz21_1, hfz21_2, hfz21_3, hfz21_4⟩ := cbf5 BK296; have p12 : 0 ≤ ((ji9) : Int) := of_decide_eq_true z3; have q12 : ((ji9) : Int) < ((l0_0.length : Int) : Int) := of_decide_eq_true z3; obtain ⟨hx12_0, hf12_0⟩ := Kd.R_celln 0 HO0_0.out ((ji9) : Int) p12 q12; replace p12 := eq_true p12; replace q12 := eq_true q12; obtain ⟨hy22_, hz22_⟩ := Kd.R_celln 0 HO0_0.out ((ji9) : Int) (of_decide_eq_true z3) (of_decide_eq_true z3); have HP22 := Kd.R_putg HO0_0.out ((ji9) : Int) a3) | ((with_reducible refine gate_store (t := 3) (p := 22) rfl ?_); refine store_event (t := 3) (p := 22) (v := ?vo_w23) (w1 := (w20.setCell ⟨go7, ((ji9) : Int).toNat, none⟩ (.int .i64 a3))) ?hg ?ho ?hn ?hr ?_; (case ho => rfl); (case hg => rfl); (case hn => rfl); (case hr => first | (go_simp; done) | (go_simp; rfl)); intro w23 hw; have hg : w20.grownBy w23 (some go7) := (by rw [hw]; exact HP22.2); have hp_ : Kd.R (Kd.int .i64) 3 w23 w0.heap.size (fun k_ => ((P0_0_ k_ ∨ P0_4_ k_) ∨ w.heap.size ≤ k_)) (.slice (some ⟨go7, 0, none⟩) l0_0.length co13) y299 := (by rw [hw, Ny299.out]; exact HP22.1); clear HP22; replace HO0_4 := Aside0.mk (Kd.R_over' (v := (.slice (some ⟨go7, 0, none⟩) l0_0.length co13)) z28 (Kd.R_typed HO0_0.out) (by decide) hg); replace BK296 := Aside0.mk (blk_grown (g := gb296) (o := .cells #[.slice (some ⟨go7, 0, none⟩) l0_0.length co13, .int .i64 a0_1, .int .i64 a0_2, .int .i64 a0_3, .slice Ao14 l0_4.length co14] 29 (0, 0)) z19 hg (Kd.R_ne HO0_0.out BK296.out (by decide))); replace BK297 := Aside0.mk (blk_grown (g := gb297) (o := .cells #[.slice none 0 0, .int .i64 0, .int .i64 0, .int .i64 0, .slice none 0 0] 29 (0, 0)) (by (with_reducible repeat (first | refine blk_drewN ?_ _ | refine blk_drew ?_ | refine blk_alloc ?_ _)); exact BK297.out) hg (Kd.R_ne HO0_0.out BK297.out (by decide))); replace HB := Aside0.mk ((by rw [hw]; exact below_set (HB.out) GB7.out : Below w0.heap.size w0 w23)); replace HK := Aside0.mk (Kept.of_grown (S := (fun k_ => P0_0_ k_ ∨ P0_4_ k_)) hg z47 (fun k_ e_ => (HO0_0.out.1 k_ e_))); replace HO0_0 := Aside0.mk (hp_); clear hg hw hp_; obtain ⟨hcz24_0, hcz24_1, hcz24_2, hcz24_3, hcz24_4, hfz24_0, hfz24_1, hfz24_2, hfz24_3, hfz24_4⟩ := cbf5 BK296; obtain ⟨hcz25_0, hcz25_1, hcz25_2, hcz25_3, hcz25_4, hfz25_0, hfz25_1, hfz25_2, hfz25_3, hfz25_4⟩ := cbf5 BK297))
      refine bodyPost_ret (results_ct rfl _ _ gb297 29 #[.slice (some ⟨go7, 0, none⟩) l0_0.length co13, .int .i64 a0_1, .int .i64 a0_2, .int .i64 a0_3, .slice Ao14 l0_4.length co14] (0, 0) _ rfl (by (with_reducible repeat (first | refine blk_drewN ?_ _ | refine blk_drew ?_ | refine blk_alloc ?_ _)); refine blk_put (cs := #[.slice (some ⟨go7, 0, none⟩) l0_0.length co13, .int .i64 a0_1, .int .i64 a0_2, .int .i64 a0_3, .slice none 0 0]) ?_ 4 _ rfl; (with_reducible repeat (first | refine blk_drewN ?_ _ | refine blk_drew ?_ | refine blk_alloc ?_ _)); refine blk_put (cs := #[.slice (some ⟨go7, 0, none⟩) l0_0.length co13, .int .i64 a0_1, .int .i64 a0_2, .int .i64 0, .slice none 0 0]) ?_ 3 _ rfl; (with_reducible repeat (first | refine blk_drewN ?_ _ | refine blk_drew ?_ | refine blk_alloc ?_ _)); refine blk_put (cs := #[.slice (some ⟨go7, 0, none⟩) l0_0.length co13, .int .i64 a0_1, .int .i64 0, .int .i64 0, .slice none 0 0]) ?_ 2 _ rfl; (with_reducible repeat (first | refine blk_drewN ?_ _ | refine blk_drew ?_ | refine blk_alloc ?_ _)); refine blk_put (cs := #[.slice (some ⟨go7, 0, none⟩) l0_0.length co13, .int .i64 0, .int .i64 0, .int .i64 0, .slice none 0 0]) ?_ 1 _ rfl; (with_reducible repeat (first | refine blk_drewN ?_ _ | refine blk_drew ?_ | refine blk_alloc ?_ _)); refine blk_put (cs := #[.slice none 0 0, .int .i64 0, .int .i64 0, .int .i64 0, .slice none 0 0]) ?_ 0 _ rfl; (with_reducible repeat (first | refine blk_drewN ?_ _ | refine blk_drew ?_ | refine blk_alloc ?_ _)); exact BK297.out) Try.underlying29 rfl (by kernel_rfl)) rfl ?_
      exact ⟨_, _, by first | rfl | (simp [errW_none, errW_some] <;> rfl) | (simp only [← hji9]; first | rfl | (simp [errW_none, errW_some] <;> rfl)) | (simp [*, errW_none, errW_some] <;> rfl), by (with_reducible repeat (first | apply Kd.R_alloc | apply Kd.R_drewN | apply Kd.R_drew)); exact Kd.R_mono (Kd.R_far (p := ⟨gb297, 4, none⟩) (Kd.R_far (p := ⟨gb297, 3, none⟩) (Kd.R_far (p := ⟨gb297, 2, none⟩) (Kd.R_far (p := ⟨gb297, 1, none⟩) (Kd.R_far (p := ⟨gb297, 0, none⟩) (Kd.R_types HO0_0.out BK297.out (by decide)) (fun _ hk => hk.2) (.slice (some ⟨go7, 0, none⟩) l0_0.length co13)) (fun _ hk => hk.2) (.int .i64 a0_1)) (fun _ hk => hk.2) (.int .i64 a0_2)) (fun _ hk => hk.2) (.int .i64 a0_3)) (fun _ hk => hk.2) (.slice Ao14 l0_4.length co14)) (fun _ hk => hk.1), by (with_reducible repeat (first | apply Kd.R_alloc | apply Kd.R_drewN | apply Kd.R_drew)); exact Kd.R_mono (Kd.R_far (p := ⟨gb297, 4, none⟩) (Kd.R_far (p := ⟨gb297, 3, none⟩) (Kd.R_far (p := ⟨gb297, 2, none⟩) (Kd.R_far (p := ⟨gb297, 1, none⟩) (Kd.R_far (p := ⟨gb297, 0, none⟩) (Kd.R_types HO0_4.out BK297.out (by decide)) (fun _ hk => hk.2) (.slice (some ⟨go7, 0, none⟩) l0_0.length co13)) (fun _ hk => hk.2) (.int .i64 a0_1)) (fun _ hk => hk.2) (.int .i64 a0_2)) (fun _ hk => hk.2) (.int .i64 a0_3)) (fun _ hk => hk.2) (.slice Ao14 l0_4.length co14)) (fun _ hk => hk.1), by repeat (first | (with_reducible first | exact HB.out | apply below_alloc | apply pw_below_drewN | apply below_drew1 | refine below_set ?_ GE296.out | refine below_set ?_ GE297.out) | exact HB.out), by repeat (first | (with_reducible first | exact HK.out | apply Kept.alloc | apply Kept.drewN | apply Kept.drew | refine Kept.setCell ?_ (.inr GW296.out) _ | refine Kept.setCell ?_ (.inr GW297.out) _) | exact HK.out)⟩
     ·rw [if_neg c11] at H
      exact absurd H (by simp)
    ·rw [if_neg c10] at H
     exact absurd H (by simp)
   ·rw [if_neg c8] at H
    have c8b0 : decide (a2 < 0) = false := decide_eq_false c8
    clear c8
    simp only [Option.some.injEq, Prod.mk.injEq] at H
    obtain ⟨rfl, rfl, rfl, rfl, rfl, rfl⟩ := H
    obtain ⟨Ao26, co26, eo26⟩ := Kd.R_slice HO0_0.out
    subst eo26
    obtain ⟨Ao27, co27, eo27⟩ := Kd.R_slice HO0_4.out
    subst eo27
    go_enter Try.func94, Try.ntmps94
    go_wp2_with (first | ((with_reducible refine gate_dst (N := 4) rfl ?_); refine box_event ?hg (N := 4) ?hd (cs := #[.slice Ao26 l0_0.length co26, .int .i64 a0_1, .int .i64 a0_2, .int .i64 a0_3, .slice Ao27 l0_4.length co27]) (t := 29) ?hr ?_; (case hd => rfl); (case hg => rfl); (case hr => first | (go_simp; done) | (go_simp; rfl)); intro gb296 hg w28 hbox hb; have BK296 := Aside0.mk (hbox); have GW296 := Aside0.mk ((by rw [hg]; exact z46 : w.heap.size ≤ gb296)); have GE296 := Aside0.mk ((by rw [hg]; exact (below_size z1) : w0.heap.size ≤ gb296)); replace HO0_0 := Aside0.mk (Kd.R_below z48 hb); replace HO0_4 := Aside0.mk (Kd.R_below z28 hb); replace HK := Aside0.mk (Kept.below (S := (fun k_ => P0_0_ k_ ∨ P0_4_ k_)) z33 hb); replace HB := Aside0.mk (below_step z1 hb); clear hb hbox hg) | ((with_reducible refine gate_dst (N := 8) rfl ?_); refine box_event ?hg (N := 8) ?hd (cs := #[.slice none 0 0, .int .i64 0, .int .i64 0, .int .i64 0, .slice none 0 0]) (t := 29) ?hr ?_; (case hd => rfl); (case hg => rfl); (case hr => first | (go_simp; done) | (go_simp; rfl)); intro gb297 hg w29 hbox hb; have BK297 := Aside0.mk (hbox); have GW297 := Aside0.mk ((by rw [hg]; exact (by first | exact HK.out.1 | exact (show Kept w _ (fun k_ => P0_0_ k_ ∨ P0_4_ k_) from by repeat (first | (with_reducible first | exact HK.out | apply Kept.alloc | apply Kept.drewN | apply Kept.drew | refine Kept.setCell ?_ (.inr GW296.out) _) | exact HK.out)).1) : w.heap.size ≤ gb297)); have GE297 := Aside0.mk ((by rw [hg]; exact (below_size z42) : w0.heap.size ≤ gb297)); have NB296_297 := Aside0.mk ((by rw [hg]; exact Nat.ne_of_lt (blk_lt (g := gb296) (o := .cells #[.slice Ao26 l0_0.length co26, .int .i64 a0_1, .int .i64 a0_2, .int .i64 a0_3, .slice Ao27 l0_4.length co27] 29 (0, 0)) z19) : gb296 ≠ gb297)); have NB297_296 := Aside0.mk ((by rw [hg]; exact Nat.ne_of_gt (blk_lt (g := gb296) (o := .cells #[.slice Ao26 l0_0.length co26, .int .i64 a0_1, .int .i64 a0_2, .int .i64 a0_3, .slice Ao27 l0_4.length co27] 29 (0, 0)) z19) : gb297 ≠ gb296)); replace HO0_0 := Aside0.mk (Kd.R_below z48 hb); replace HO0_4 := Aside0.mk (Kd.R_below z28 hb); replace BK296 := Aside0.mk (blk_below (g := gb296) (o := .cells #[.slice Ao26 l0_0.length co26, .int .i64 a0_1, .int .i64 a0_2, .int .i64 a0_3, .slice Ao27 l0_4.length co27] 29 (0, 0)) z19 hb); replace HK := Aside0.mk (Kept.below (S := (fun k_ => P0_0_ k_ ∨ P0_4_ k_)) (by repeat (first | (with_reducible first | exact HK.out | apply Kept.alloc | apply Kept.drewN | apply Kept.drew | refine Kept.setCell ?_ (.inr GW296.out) _) | exact HK.out)) hb); replace HB := Aside0.mk (below_step z42 hb); clear hb hbox hg; have hnb30 := NB296_297.out; have hnc30 := NB297_296.out; obtain ⟨hcz31_0, hcz31_1, hcz31_2, hcz31_3, hcz31_4, hfz31_0, hfz31_1, hfz31_2, hfz31_3, hfz31_4⟩ := cbf5 BK296; have p7 : 0 ≤ (a1 : Int) := of_decide_eq_true z3; have q7 : (a1 : Int) < ((l0_0.length : Int) : Int) := of_decide_eq_true z3; obtain ⟨go7, co7, eo7, gb7, gl7, cl7, HG7⟩ := Kd.R_form HO0_0.out (by omega); (first | cases eo7 | (injection eo7 with ea_ en_ ec_; (first | subst ea_ | (injection ea_ with ea_; subst ea_)); subst ec_; clear en_)); have GB7 := Aside0.mk gb7; have GG7 := Aside0.mk HG7; clear gb7 gl7 HG7; have HMgo7 := Aside0.mk (show ((P0_0_ go7 ∨ P0_4_ go7) ∨ w.heap.size ≤ go7) from (HO0_0.out.1 _ rfl)); obtain ⟨hx7_0, hf7_0⟩ := Kd.R_celln 0 HO0_0.out (a1 : Int) p7 q7; replace p7 := eq_true p7; replace q7 := eq_true q7; obtain ⟨hy32_, hz32_⟩ := Kd.R_celln 0 HO0_0.out (a1 : Int) (of_decide_eq_true z3) (of_decide_eq_true z3); have HP32 := Kd.R_putg HO0_0.out (a1 : Int) a2) | ((with_reducible refine gate_store (t := 3) (p := 14) rfl ?_); refine store_event (t := 3) (p := 14) (v := ?vo_w33) (w1 := (w29.setCell ⟨go7, (a1 : Int).toNat, none⟩ (.int .i64 a2))) ?hg ?ho ?hn ?hr ?_; (case ho => rfl); (case hg => rfl); (case hn => rfl); (case hr => first | (go_simp; done) | (go_simp; rfl)); intro w33 hw; have hg : w29.grownBy w33 (some go7) := (by rw [hw]; exact HP32.2); have hp_ : Kd.R (Kd.int .i64) 3 w33 w0.heap.size (fun k_ => ((P0_0_ k_ ∨ P0_4_ k_) ∨ w.heap.size ≤ k_)) (.slice (some ⟨go7, 0, none⟩) l0_0.length co26) y298 := (by rw [hw, Ny298.out]; exact HP32.1); clear HP32; replace HO0_4 := Aside0.mk (Kd.R_over' (v := (.slice (some ⟨go7, 0, none⟩) l0_0.length co26)) z28 (Kd.R_typed HO0_0.out) (by decide) hg); replace BK296 := Aside0.mk (blk_grown (g := gb296) (o := .cells #[.slice (some ⟨go7, 0, none⟩) l0_0.length co26, .int .i64 a0_1, .int .i64 a0_2, .int .i64 a0_3, .slice Ao27 l0_4.length co27] 29 (0, 0)) z19 hg (Kd.R_ne HO0_0.out BK296.out (by decide))); replace BK297 := Aside0.mk (blk_grown (g := gb297) (o := .cells #[.slice none 0 0, .int .i64 0, .int .i64 0, .int .i64 0, .slice none 0 0] 29 (0, 0)) (by (with_reducible repeat (first | refine blk_drewN ?_ _ | refine blk_drew ?_ | refine blk_alloc ?_ _)); exact BK297.out) hg (Kd.R_ne HO0_0.out BK297.out (by decide))); replace HB := Aside0.mk ((by rw [hw]; exact below_set (HB.out) GB7.out : Below w0.heap.size w0 w33)); replace HK := Aside0.mk (Kept.of_grown (S := (fun k_ => P0_0_ k_ ∨ P0_4_ k_)) hg z47 (fun k_ e_ => (HO0_0.out.1 k_ e_))); replace HO0_0 := Aside0.mk (hp_); clear hg hw hp_; obtain ⟨hcz34_0, hcz34_1, hcz34_2, hcz34_3, hcz34_4, hfz34_0, hfz34_1, hfz34_2, hfz34_3, hfz34_4⟩ := cbf5 BK296; obtain ⟨hcz35_0, hcz35_1, hcz35_2, hcz35_3, hcz35_4, hfz35_0, hfz35_1, hfz35_2, hfz35_3, hfz35_4⟩ := cbf5 BK297))
    refine bodyPost_ret (results_ct rfl _ _ gb297 29 #[.slice (some ⟨go7, 0, none⟩) l0_0.length co26, .int .i64 a0_1, .int .i64 a0_2, .int .i64 a0_3, .slice Ao27 l0_4.length co27] (0, 0) _ rfl (by (with_reducible repeat (first | refine blk_drewN ?_ _ | refine blk_drew ?_ | refine blk_alloc ?_ _)); refine blk_put (cs := #[.slice (some ⟨go7, 0, none⟩) l0_0.length co26, .int .i64 a0_1, .int .i64 a0_2, .int .i64 a0_3, .slice none 0 0]) ?_ 4 _ rfl; (with_reducible repeat (first | refine blk_drewN ?_ _ | refine blk_drew ?_ | refine blk_alloc ?_ _)); refine blk_put (cs := #[.slice (some ⟨go7, 0, none⟩) l0_0.length co26, .int .i64 a0_1, .int .i64 a0_2, .int .i64 0, .slice none 0 0]) ?_ 3 _ rfl; (with_reducible repeat (first | refine blk_drewN ?_ _ | refine blk_drew ?_ | refine blk_alloc ?_ _)); refine blk_put (cs := #[.slice (some ⟨go7, 0, none⟩) l0_0.length co26, .int .i64 a0_1, .int .i64 0, .int .i64 0, .slice none 0 0]) ?_ 2 _ rfl; (with_reducible repeat (first | refine blk_drewN ?_ _ | refine blk_drew ?_ | refine blk_alloc ?_ _)); refine blk_put (cs := #[.slice (some ⟨go7, 0, none⟩) l0_0.length co26, .int .i64 0, .int .i64 0, .int .i64 0, .slice none 0 0]) ?_ 1 _ rfl; (with_reducible repeat (first | refine blk_drewN ?_ _ | refine blk_drew ?_ | refine blk_alloc ?_ _)); refine blk_put (cs := #[.slice none 0 0, .int .i64 0, .int .i64 0, .int .i64 0, .slice none 0 0]) ?_ 0 _ rfl; (with_reducible repeat (first | refine blk_drewN ?_ _ | refine blk_drew ?_ | refine blk_alloc ?_ _)); exact BK297.out) Try.underlying29 rfl (by kernel_rfl)) rfl ?_
    exact ⟨_, _, by first | rfl | (simp [errW_none, errW_some] <;> rfl) | (simp [*, errW_none, errW_some] <;> rfl), by (with_reducible repeat (first | apply Kd.R_alloc | apply Kd.R_drewN | apply Kd.R_drew)); exact Kd.R_mono (Kd.R_far (p := ⟨gb297, 4, none⟩) (Kd.R_far (p := ⟨gb297, 3, none⟩) (Kd.R_far (p := ⟨gb297, 2, none⟩) (Kd.R_far (p := ⟨gb297, 1, none⟩) (Kd.R_far (p := ⟨gb297, 0, none⟩) (Kd.R_types HO0_0.out BK297.out (by decide)) (fun _ hk => hk.2) (.slice (some ⟨go7, 0, none⟩) l0_0.length co26)) (fun _ hk => hk.2) (.int .i64 a0_1)) (fun _ hk => hk.2) (.int .i64 a0_2)) (fun _ hk => hk.2) (.int .i64 a0_3)) (fun _ hk => hk.2) (.slice Ao27 l0_4.length co27)) (fun _ hk => hk.1), by (with_reducible repeat (first | apply Kd.R_alloc | apply Kd.R_drewN | apply Kd.R_drew)); exact Kd.R_mono (Kd.R_far (p := ⟨gb297, 4, none⟩) (Kd.R_far (p := ⟨gb297, 3, none⟩) (Kd.R_far (p := ⟨gb297, 2, none⟩) (Kd.R_far (p := ⟨gb297, 1, none⟩) (Kd.R_far (p := ⟨gb297, 0, none⟩) (Kd.R_types HO0_4.out BK297.out (by decide)) (fun _ hk => hk.2) (.slice (some ⟨go7, 0, none⟩) l0_0.length co26)) (fun _ hk => hk.2) (.int .i64 a0_1)) (fun _ hk => hk.2) (.int .i64 a0_2)) (fun _ hk => hk.2) (.int .i64 a0_3)) (fun _ hk => hk.2) (.slice Ao27 l0_4.length co27)) (fun _ hk => hk.1), by repeat (first | (with_reducible first | exact HB.out | apply below_alloc | apply pw_below_drewN | apply below_drew1 | refine below_set ?_ GE296.out | refine below_set ?_ GE297.out) | exact HB.out), by repeat (first | (with_reducible first | exact HK.out | apply Kept.alloc | apply Kept.drewN | apply Kept.drew | refine Kept.setCell ?_ (.inr GW296.out) _ | refine Kept.setCell ?_ (.inr GW297.out) _) | exact HK.out)⟩
  ·rw [if_neg c6] at H
   exact absurd H (by simp)
 ·rw [if_neg c5] at H
  exact absurd H (by simp)
end Go.Proofs.Ytmniglgahodghaa.K
namespace Go.Proofs.Ytmniglgahodghaa.K
open Go.RowKit Go.Proofs.YtmniglgahodghaaW.PrintWords Go.Proofs.YtmniglgahodghaaW.PrintLast Go.Proofs.YtmniglgahodghaaW.PrintMore
attribute [local go_sem] max2_int min2_int max_two min_two max_three min_three max_four min_four
set_option linter.unusedVariables false
set_option linter.unusedSimpArgs false
def spec_l21Try.j0 : Nat → Int → Int → Bool → Int → Bool → List Int → Int → Int → Int → List Bool → Option (List Int × Int × Int × Int × List Bool × Int)
  | 0, _, _, _, _, _, _, _, _, _, _ => none
  | k + 1, x2, x3, x4, x12, x27, x301000, x301001, x301002, x301003, x301004 => if x27 = true then ((spec_l21Make.f x301000 x301001 x301002 (wrap64 (x301003 + x12)) x301004 (wrap64 ((wrap64 (x301003 + x12)) - x12)) x2 x3).bind fun bt303 => (some (bt303.1, bt303.2.1, bt303.2.2.1, bt303.2.2.2.1, bt303.2.2.2.2.1, bt303.2.2.2.2.2))) else (if x4 = true then (some (x301000, x301001, x301002, x301003, x301004, 0)) else (if (wrap64 (x301002 + x12)) ≤ x301001 then ((spec_l21Make.f x301000 x301001 (wrap64 (x301002 + x12)) x301003 x301004 (wrap64 ((wrap64 (x301002 + x12)) - x12)) x2 x3).bind fun bt313 => (some (bt313.1, bt313.2.1, bt313.2.2.1, bt313.2.2.2.1, bt313.2.2.2.2.1, bt313.2.2.2.2.2))) else (some (x301000, x301001, x301002, x301003, x301004, 0))))
def spec_l21Try.f (k : Nat) (l0 : List (S69)) (l1_0 : List Int) (a1_1 : Int) (a1_2 : Int) (a1_3 : Int) (l1_4 : List Bool) (a2 : Int) (a3 : Int) (a4 : Bool) : Option (List Int × Int × Int × Int × List Bool × Int) := (spec_l21Want.f k l0 a2 a3).bind fun t302 => (if a4 = true then (spec_l21Try.j0 k a2 a3 a4 t302 (decide ((wrap64 (a1_3 + t302)) ≤ (l1_0.length : Int))) l1_0 a1_1 a1_2 a1_3 l1_4) else (spec_l21Try.j0 k a2 a3 a4 t302 false l1_0 a1_1 a1_2 a1_3 l1_4))
set_option maxHeartbeats 8000000 in
set_option maxRecDepth 100000 in
theorem spec_l21Try.calls (k : Nat) (A0 : Option Addr) (c0 : Nat) (l0 : List (S69)) (P1_0_ : Nat → Prop) (u9000_ : Value) (l1_0 : List Int) (a1_1 : Int) (a1_2 : Int) (a1_3 : Int) (P1_4_ : Nat → Prop) (u9001_ : Value) (l1_4 : List Bool) (a2 : Int) (a3 : Int) (a4 : Bool) (r1 : List Int) (r2 : Int) (r3 : Int) (r4 : Int) (r5 : List Bool) (r6 : Int) (w0 w : World) (hB : Below w0.heap.size w0 w) (hr0 : ∀ W_, Kept w W_ (fun k_ => P1_0_ k_ ∨ P1_4_ k_) → Kd.C k69 W_ A0 l0.length l0) (hc0 : l0.length ≤ c0) (ho1_0 : Kd.R (Kd.int .i64) 3 w w0.heap.size P1_0_ u9000_ l1_0) (ho1_4 : Kd.R Kd.bool 4 w w0.heap.size P1_4_ u9001_ l1_4) (h : spec_l21Try.f k l0 l1_0 a1_1 a1_2 a1_3 l1_4 a2 a3 a4 = some (r1, r2, r3, r4, r5, r6)) :
  Calls Try.prog 58 #[.slice A0 l0.length c0, .agg #[u9000_, .int .i64 a1_1, .int .i64 a1_2, .int .i64 a1_3, u9001_], .int .i64 a2, .int .i64 a3, .bool a4] w fun e w' => ∃ v0_ v4_ : Value, e = .returned (.tuple #[.agg #[v0_, .int .i64 r2, .int .i64 r3, .int .i64 r4, v4_], .int .i64 r6]) ∧ Kd.R (Kd.int .i64) 3 w' w0.heap.size (fun k_ => ((P1_0_ k_ ∨ P1_4_ k_) ∨ w.heap.size ≤ k_)) v0_ r1 ∧ Kd.R Kd.bool 4 w' w0.heap.size (fun k_ => ((P1_0_ k_ ∨ P1_4_ k_) ∨ w.heap.size ≤ k_)) v4_ r5 ∧ Below w0.heap.size w0 w' ∧ Kept w w' (fun k_ => P1_0_ k_ ∨ P1_4_ k_) := by
 have hu29 := Try.underlying29
 have HR0 := Aside0.mk hr0
 have HC0 := Aside0.mk hc0
 clear hr0 hc0
 have HO1_0 := Aside0.mk (show Kd.R (Kd.int .i64) 3 w w0.heap.size (fun k_ => ((P1_0_ k_ ∨ P1_4_ k_) ∨ w.heap.size ≤ k_)) u9000_ l1_0 from Kd.R_mono ho1_0 (fun k_ hk => (.inl (.inl hk))))
 have HO1_4 := Aside0.mk (show Kd.R Kd.bool 4 w w0.heap.size (fun k_ => ((P1_0_ k_ ∨ P1_4_ k_) ∨ w.heap.size ≤ k_)) u9001_ l1_4 from Kd.R_mono ho1_4 (fun k_ hk => (.inl (.inr hk))))
 have HK := Aside0.mk (Kept.refl w (fun k_ => P1_0_ k_ ∨ P1_4_ k_))
 have HW0 := Aside0.mk hB.size
 have HB := Aside0.mk hB
 clear hB
 have H : ((spec_l21Want.f k l0 a2 a3).bind fun t302 => (if a4 = true then (spec_l21Try.j0 k a2 a3 a4 t302 (decide ((wrap64 (a1_3 + t302)) ≤ (l1_0.length : Int))) l1_0 a1_1 a1_2 a1_3 l1_4) else (spec_l21Try.j0 k a2 a3 a4 t302 false l1_0 a1_1 a1_2 a1_3 l1_4))) = some (r1, r2, r3, r4, r5, r6) := h
 clear h
 replace H := Option.bind_eq_some_iff.mp H
 obtain ⟨t302, A60, H⟩ := H
 try dsimp only at H
 have A6 := Aside0.mk A60
 clear A60
 have HC7 := Aside0.mk H
 clear H
 obtain ⟨Ao8, co8, eo8⟩ := Kd.R_slice HO1_0.out
 subst eo8
 obtain ⟨Ao9, co9, eo9⟩ := Kd.R_slice HO1_4.out
 subst eo9
 go_enter Try.func58, Try.ntmps58
 go_upto_region 2 with (first | ((with_reducible refine gate_dst (N := 6) rfl ?_); (try (refine gate_guard (by rfl) ?_; dsimp only)); refine box_event ?hg (N := 6) ?hd (cs := #[.slice Ao8 l1_0.length co8, .int .i64 a1_1, .int .i64 a1_2, .int .i64 a1_3, .slice Ao9 l1_4.length co9]) (t := 29) ?hr ?_; (case hd => rfl); (case hg => rfl); (case hr => first | (go_simp; done) | (go_simp; rfl)); intro gb300 hg w10 hbox hb; have BK300 := Aside0.mk (hbox); have GW300 := Aside0.mk ((by rw [hg]; exact (by first | exact HK.out.1 | exact (show Kept w _ (fun k_ => P1_0_ k_ ∨ P1_4_ k_) from by repeat (first | (with_reducible first | exact HK.out | apply Kept.alloc | apply Kept.drewN | apply Kept.drew) | exact HK.out)).1) : w.heap.size ≤ gb300)); have GE300 := Aside0.mk ((by rw [hg]; exact (below_size z1) : w0.heap.size ≤ gb300)); replace HO1_0 := Aside0.mk (Kd.R_below (by (with_reducible repeat (first | apply Kd.R_alloc | apply Kd.R_drewN | apply Kd.R_drew)); exact HO1_0.out) hb); replace HO1_4 := Aside0.mk (Kd.R_below (by (with_reducible repeat (first | apply Kd.R_alloc | apply Kd.R_drewN | apply Kd.R_drew)); exact HO1_4.out) hb); replace HK := Aside0.mk (Kept.below (S := (fun k_ => P1_0_ k_ ∨ P1_4_ k_)) z33 hb); replace HB := Aside0.mk (below_step z1 hb); clear hb hbox hg) | ((with_reducible refine gate_dst (N := 10) rfl ?_); (try (refine gate_guard (by rfl) ?_; dsimp only)); refine box_event ?hg (N := 10) ?hd (cs := #[.slice none 0 0, .int .i64 0, .int .i64 0, .int .i64 0, .slice none 0 0]) (t := 29) ?hr ?_; (case hd => rfl); (case hg => rfl); (case hr => first | (go_simp; done) | (go_simp; rfl)); intro gb301 hg w11 hbox hb; have BK301 := Aside0.mk (hbox); have GW301 := Aside0.mk ((by rw [hg]; exact (by first | exact HK.out.1 | exact (show Kept w _ (fun k_ => P1_0_ k_ ∨ P1_4_ k_) from by repeat (first | (with_reducible first | exact HK.out | apply Kept.alloc | apply Kept.drewN | apply Kept.drew | refine Kept.setCell ?_ (.inr GW300.out) _) | exact HK.out)).1) : w.heap.size ≤ gb301)); have GE301 := Aside0.mk ((by rw [hg]; exact (below_size (by repeat (first | (with_reducible first | exact HB.out | apply below_alloc | apply pw_below_drewN | apply below_drew1 | refine below_set ?_ GE300.out) | exact HB.out))) : w0.heap.size ≤ gb301)); have NB300_301 := Aside0.mk ((by rw [hg]; exact Nat.ne_of_lt (blk_lt (g := gb300) (o := .cells #[.slice Ao8 l1_0.length co8, .int .i64 a1_1, .int .i64 a1_2, .int .i64 a1_3, .slice Ao9 l1_4.length co9] 29 (0, 0)) z37) : gb300 ≠ gb301)); have NB301_300 := Aside0.mk ((by rw [hg]; exact Nat.ne_of_gt (blk_lt (g := gb300) (o := .cells #[.slice Ao8 l1_0.length co8, .int .i64 a1_1, .int .i64 a1_2, .int .i64 a1_3, .slice Ao9 l1_4.length co9] 29 (0, 0)) z37) : gb301 ≠ gb300)); replace HO1_0 := Aside0.mk (Kd.R_below (by (with_reducible repeat (first | apply Kd.R_alloc | apply Kd.R_drewN | apply Kd.R_drew)); exact HO1_0.out) hb); replace HO1_4 := Aside0.mk (Kd.R_below (by (with_reducible repeat (first | apply Kd.R_alloc | apply Kd.R_drewN | apply Kd.R_drew)); exact HO1_4.out) hb); replace BK300 := Aside0.mk (blk_below (g := gb300) (o := .cells #[.slice Ao8 l1_0.length co8, .int .i64 a1_1, .int .i64 a1_2, .int .i64 a1_3, .slice Ao9 l1_4.length co9] 29 (0, 0)) z37 hb); replace HK := Aside0.mk (Kept.below (S := (fun k_ => P1_0_ k_ ∨ P1_4_ k_)) (by repeat (first | (with_reducible first | exact HK.out | apply Kept.alloc | apply Kept.drewN | apply Kept.drew | refine Kept.setCell ?_ (.inr GW300.out) _) | exact HK.out)) hb); replace HB := Aside0.mk (below_step (by repeat (first | (with_reducible first | exact HB.out | apply below_alloc | apply pw_below_drewN | apply below_drew1 | refine below_set ?_ GE300.out) | exact HB.out)) hb); clear hb hbox hg) | ((with_reducible refine gate_callee (f := 57) rfl ?_); refine goesL_ (some 16) rfl rfl Try.func57 (by kernel_rfl) rfl #[.slice A0 l0.length c0, .int .i64 a2, .int .i64 a3] rfl z2 ?_; (with_reducible refine (spec_l21Want.calls k _ _ l0 a2 a3 t302 _ ?side1 ?side2 A6.out).mono ?_); (case side1 => exact Kd.C_kept_now HR0.out z16); (case side2 => exact HC0.out); rintro e w12 ⟨rfl, hb⟩; refine ⟨_, rfl, ?_⟩; replace HO1_0 := Aside0.mk (Kd.R_below (by (with_reducible repeat (first | apply Kd.R_alloc | apply Kd.R_drewN | apply Kd.R_drew)); exact HO1_0.out) hb); replace HO1_4 := Aside0.mk (Kd.R_below (by (with_reducible repeat (first | apply Kd.R_alloc | apply Kd.R_drewN | apply Kd.R_drew)); exact HO1_4.out) hb); replace BK300 := Aside0.mk (blk_below (g := gb300) (o := .cells #[.slice Ao8 l1_0.length co8, .int .i64 a1_1, .int .i64 a1_2, .int .i64 a1_3, .slice Ao9 l1_4.length co9] 29 (0, 0)) z37 hb); replace BK301 := Aside0.mk (blk_below (g := gb301) (o := .cells #[.slice none 0 0, .int .i64 0, .int .i64 0, .int .i64 0, .slice none 0 0] 29 (0, 0)) (by (with_reducible repeat (first | refine blk_drewN ?_ _ | refine blk_drew ?_ | refine blk_alloc ?_ _)); exact BK301.out) hb); replace HK := Aside0.mk (Kept.below (S := (fun k_ => P1_0_ k_ ∨ P1_4_ k_)) z16 hb); replace HB := Aside0.mk (below_step z49 hb); (try clear hb); (try clear hb2); (try clear hk); (try clear hi)))
 (try simp only [Act.put, List.setIfInBounds_toArray, List.set_cons_zero, List.set_cons_succ])
 go_cut [27] (fun v27 wc => ∃ (kq : Nat) (x27_6 : Bool), v27 = .bool x27_6 ∧ Aside0 (spec_l21Try.j0 kq a2 a3 a4 t302 x27_6 l1_0 a1_1 a1_2 a1_3 l1_4 = some (r1, r2, r3, r4, r5, r6)) ∧ Aside0 (kq ≤ k) ∧ Aside0 (Kd.R (Kd.int .i64) 3 wc w0.heap.size (fun k_ => ((P1_0_ k_ ∨ P1_4_ k_) ∨ w.heap.size ≤ k_)) (.slice Ao8 l1_0.length co8) l1_0) ∧ Aside0 (Kd.R Kd.bool 4 wc w0.heap.size (fun k_ => ((P1_0_ k_ ∨ P1_4_ k_) ∨ w.heap.size ≤ k_)) (.slice Ao9 l1_4.length co9) l1_4) ∧ Aside0 (wc.heap[gb300]? = some (.cells #[(.slice Ao8 l1_0.length co8), .int .i64 a1_1, .int .i64 a1_2, .int .i64 a1_3, (.slice Ao9 l1_4.length co9)] 29 (0, 0))) ∧ Aside0 (wc.heap[gb301]? = some (.cells #[(.slice none 0 0), .int .i64 0, .int .i64 0, .int .i64 0, (.slice none 0 0)] 29 (0, 0))) ∧ Aside0 (Kept w wc (fun k_ => P1_0_ k_ ∨ P1_4_ k_)) ∧ Aside0 (Below w0.heap.size w0 wc))
 case first =>
  have H := HC7.out
  clear HC7
  by_cases c13 : a4 = true
  ·subst c13
   rw [if_pos rfl] at H
   have H' := Aside0.mk H
   clear H
   have hnb14 := NB300_301.out
   have hnc14 := NB301_300.out
   obtain ⟨hcz15_0, hcz15_1, hcz15_2, hcz15_3, hcz15_4, hfz15_0, hfz15_1, hfz15_2, hfz15_3, hfz15_4⟩ := cbf5 BK300
   go_wp2
   go_meet
   case rel => exact ⟨_, (decide ((wrap64 (a1_3 + t302)) ≤ (l1_0.length : Int))), z6, H', ⟨by first | omega | exact Nat.le_refl _⟩, ⟨by (with_reducible repeat (first | apply Kd.R_alloc | apply Kd.R_drewN | apply Kd.R_drew)); exact HO1_0.out⟩, ⟨by (with_reducible repeat (first | apply Kd.R_alloc | apply Kd.R_drewN | apply Kd.R_drew)); exact HO1_4.out⟩, ⟨by (with_reducible repeat (first | refine blk_drewN ?_ _ | refine blk_drew ?_ | refine blk_alloc ?_ _)); exact BK300.out⟩, ⟨by (with_reducible repeat (first | refine blk_drewN ?_ _ | refine blk_drew ?_ | refine blk_alloc ?_ _)); exact BK301.out⟩, ⟨by repeat (first | (with_reducible first | exact HK.out | apply Kept.alloc | apply Kept.drewN | apply Kept.drew | refine Kept.setCell ?_ (.inr GW300.out) _ | refine Kept.setCell ?_ (.inr GW301.out) _) | exact HK.out)⟩, ⟨by repeat (first | (with_reducible first | exact HB.out | apply below_alloc | apply pw_below_drewN | apply below_drew1 | refine below_set ?_ GE300.out | refine below_set ?_ GE301.out) | exact HB.out)⟩⟩
  ·replace c13 := Bool.eq_false_iff.mpr c13
   subst c13
   rw [if_neg (show ¬ (false = true) by decide)] at H
   have H' := Aside0.mk H
   clear H
   go_wp2
   go_meet
   case rel => exact ⟨_, (false), z6, H', ⟨by first | omega | exact Nat.le_refl _⟩, ⟨by (with_reducible repeat (first | apply Kd.R_alloc | apply Kd.R_drewN | apply Kd.R_drew)); exact HO1_0.out⟩, ⟨by (with_reducible repeat (first | apply Kd.R_alloc | apply Kd.R_drewN | apply Kd.R_drew)); exact HO1_4.out⟩, ⟨by (with_reducible repeat (first | refine blk_drewN ?_ _ | refine blk_drew ?_ | refine blk_alloc ?_ _)); exact BK300.out⟩, ⟨by (with_reducible repeat (first | refine blk_drewN ?_ _ | refine blk_drew ?_ | refine blk_alloc ?_ _)); exact BK301.out⟩, ⟨by repeat (first | (with_reducible first | exact HK.out | apply Kept.alloc | apply Kept.drewN | apply Kept.drew | refine Kept.setCell ?_ (.inr GW300.out) _ | refine Kept.setCell ?_ (.inr GW301.out) _) | exact HK.out)⟩, ⟨by repeat (first | (with_reducible first | exact HB.out | apply below_alloc | apply pw_below_drewN | apply below_drew1 | refine below_set ?_ GE300.out | refine below_set ?_ GE301.out) | exact HB.out)⟩⟩
 case rest =>
  clear HC7
  try clear c1
  try clear p2
  try clear c5
  try clear p6
  try clear c13
  try clear c14
  try clear hcz15_0
  try clear hcz15_1
  try clear hcz15_2
  try clear hcz15_3
  try clear hcz15_4
  try clear hfz15_0
  try clear hfz15_1
  try clear hfz15_2
  try clear hfz15_3
  try clear hfz15_4
  obtain ⟨kq, x27_6, rfl, HA, HJ6, HO_301000, HO_301004, BK300, BK301, HK, HB⟩ := hcut
  cases kq with
  | zero => exact absurd HA.out (by simp [spec_l21Try.j0])
  | succ kj6 =>
   have H := HA.out
   clear HA
   simp only [spec_l21Try.j0] at H
   by_cases c16 : x27_6 = true
   ·subst c16
    rw [if_pos rfl] at H
    replace H := Option.bind_eq_some_iff.mp H
    obtain ⟨⟨t303, t306, t307, t308, t309, t312⟩, A170, H⟩ := H
    try dsimp only at H
    have A17 := Aside0.mk A170
    clear A170
    simp only [Option.some.injEq, Prod.mk.injEq] at H
    obtain ⟨rfl, rfl, rfl, rfl, rfl, rfl⟩ := H
    have hnb18 := NB300_301.out
    have hnc18 := NB301_300.out
    obtain ⟨hcz19_0, hcz19_1, hcz19_2, hcz19_3, hcz19_4, hfz19_0, hfz19_1, hfz19_2, hfz19_3, hfz19_4⟩ := cbf5 BK300
    go_wp2_with (first | ((with_reducible refine gate_store (t := 3) (p := 32) rfl ?_); refine store_event (t := 3) (p := 32) (v := ?vo_w20) (w1 := (wc.setCell ⟨gb300, 3, none⟩ (.int .i64 (wrap64 (a1_3 + t302))))) ?hg ?ho ?hn ?hr ?_; (case ho => rfl); (case hg => rfl); (case hn => rfl); (case hr => first | (go_simp; done) | (go_simp; rfl) | ((try (first | (obtain ⟨_, _, rfl⟩ := Kd.R_slice HO305.out) | (obtain ⟨_, _, rfl⟩ := Kd.S_slice HO305.out))); (try (first | (obtain ⟨_, _, rfl⟩ := Kd.R_slice HO311.out) | (obtain ⟨_, _, rfl⟩ := Kd.S_slice HO311.out))); (try (first | (obtain ⟨_, _, rfl⟩ := Kd.R_slice HO_301000.out) | (obtain ⟨_, _, rfl⟩ := Kd.S_slice HO_301000.out))); (try (first | (obtain ⟨_, _, rfl⟩ := Kd.R_slice HO_301004.out) | (obtain ⟨_, _, rfl⟩ := Kd.S_slice HO_301004.out))); first | (go_simp; done) | (go_simp; rfl))); intro w20 hw; have n0_ : Aside0 (Kd.R (Kd.int .i64) 3 w20 w0.heap.size (fun k_ => ((P1_0_ k_ ∨ P1_4_ k_) ∨ w.heap.size ≤ k_)) (.slice Ao8 l1_0.length co8) l1_0) := ⟨(by rw [hw]; exact (by (with_reducible repeat (first | apply Kd.R_alloc | apply Kd.R_drewN | apply Kd.R_drew)); exact Kd.R_mono (Kd.R_far (p := ⟨gb300, 3, none⟩) (Kd.R_types HO_301000.out BK300.out (by decide)) (fun _ hk => hk.2) (.int .i64 (wrap64 (a1_3 + t302)))) (fun _ hk => hk.1)))⟩; have n1_ : Aside0 (Kd.R Kd.bool 4 w20 w0.heap.size (fun k_ => ((P1_0_ k_ ∨ P1_4_ k_) ∨ w.heap.size ≤ k_)) (.slice Ao9 l1_4.length co9) l1_4) := ⟨(by rw [hw]; exact (by (with_reducible repeat (first | apply Kd.R_alloc | apply Kd.R_drewN | apply Kd.R_drew)); exact Kd.R_mono (Kd.R_far (p := ⟨gb300, 3, none⟩) (Kd.R_types HO_301004.out BK300.out (by decide)) (fun _ hk => hk.2) (.int .i64 (wrap64 (a1_3 + t302)))) (fun _ hk => hk.1)))⟩; have n2_ : Aside0 (w20.heap[gb300]? = some (.cells #[.slice Ao8 l1_0.length co8, .int .i64 a1_1, .int .i64 a1_2, .int .i64 (wrap64 (a1_3 + t302)), .slice Ao9 l1_4.length co9] 29 (0, 0))) := ⟨(by rw [hw]; exact (by (with_reducible repeat (first | refine blk_drewN ?_ _ | refine blk_drew ?_ | refine blk_alloc ?_ _)); refine blk_put (cs := #[.slice Ao8 l1_0.length co8, .int .i64 a1_1, .int .i64 a1_2, .int .i64 a1_3, .slice Ao9 l1_4.length co9]) ?_ 3 _ rfl; (with_reducible repeat (first | refine blk_drewN ?_ _ | refine blk_drew ?_ | refine blk_alloc ?_ _)); exact BK300.out))⟩; have n3_ : Aside0 (w20.heap[gb301]? = some (.cells #[.slice none 0 0, .int .i64 0, .int .i64 0, .int .i64 0, .slice none 0 0] 29 (0, 0))) := ⟨(by rw [hw]; exact (by (with_reducible repeat (first | refine blk_drewN ?_ _ | refine blk_drew ?_ | refine blk_alloc ?_ _)); refine blk_far ?_ NB301_300.out _; (with_reducible repeat (first | refine blk_drewN ?_ _ | refine blk_drew ?_ | refine blk_alloc ?_ _)); exact BK301.out))⟩; have n4_ : Aside0 (Kept w w20 (fun k_ => P1_0_ k_ ∨ P1_4_ k_)) := ⟨(by rw [hw]; exact z16)⟩; have n5_ : Aside0 (Below w0.heap.size w0 w20) := ⟨(by rw [hw]; exact z49)⟩; clear hw; clear HO_301000; clear HO_301004; clear BK300; clear BK301; clear HK; clear HB; have HO_301000 := n0_; have HO_301004 := n1_; have BK300 := n2_; have BK301 := n3_; have HK := n4_; have HB := n5_; clear n0_ n1_ n2_ n3_ n4_ n5_; obtain ⟨hcz21_0, hcz21_1, hcz21_2, hcz21_3, hcz21_4, hfz21_0, hfz21_1, hfz21_2, hfz21_3, hfz21_4⟩ := cbf5 BK300) | ((with_reducible refine gate_callee (f := 94) rfl ?_); refine goesL_ (some 40) rfl rfl Try.func94 (by kernel_rfl) rfl #[.agg #[.slice Ao8 l1_0.length co8, .int .i64 a1_1, .int .i64 a1_2, .int .i64 (wrap64 (a1_3 + t302)), .slice Ao9 l1_4.length co9], .int .i64 (wrap64 ((wrap64 (a1_3 + t302)) - t302)), .int .i64 a2, .int .i64 a3] rfl z2 ?_; (with_reducible refine (spec_l21Make.calls (fun k_ => some k_ = (.slice Ao8 l1_0.length co8 : Value).ownBlock) (.slice Ao8 l1_0.length co8) l1_0 a1_1 a1_2 (wrap64 (a1_3 + t302)) (fun k_ => some k_ = (.slice Ao9 l1_4.length co9 : Value).ownBlock) (.slice Ao9 l1_4.length co9) l1_4 (wrap64 ((wrap64 (a1_3 + t302)) - t302)) a2 a3 t303 t306 t307 t308 t309 t312 w0 _ ?side1 ?side2 ?side3 A17.out).mono ?_); (case side1 => repeat (first | (with_reducible first | exact HB.out | apply below_alloc | apply pw_below_drewN | apply below_drew1 | refine below_set ?_ GE300.out | refine below_set ?_ GE301.out) | exact HB.out)); (case side2 => exact Kd.R_tight rfl HO_301000.out); (case side3 => exact Kd.R_tight rfl HO_301004.out); rintro e w22 ⟨v304, v310, rfl, ho0, ho1, hb, hkp⟩; refine ⟨_, rfl, ?_⟩; have n0_ := Aside0.mk (blk_kept z37 hkp (fun hs_ => Or.elim hs_ (fun e_ => (fun e_ => (Kd.R_ne HO_301000.out BK300.out (by decide)) e_) e_) (fun e_ => (fun e_ => (Kd.R_ne HO_301004.out BK300.out (by decide)) e_) e_))); have n1_ := Aside0.mk (blk_kept (by (with_reducible repeat (first | refine blk_drewN ?_ _ | refine blk_drew ?_ | refine blk_alloc ?_ _)); exact BK301.out) hkp (fun hs_ => Or.elim hs_ (fun e_ => (fun e_ => (Kd.R_ne HO_301000.out BK301.out (by decide)) e_) e_) (fun e_ => (fun e_ => (Kd.R_ne HO_301004.out BK301.out (by decide)) e_) e_))); have n2_ := Aside0.mk (Kd.R_mono (ok' := fun k_ => ((P1_0_ k_ ∨ P1_4_ k_) ∨ w.heap.size ≤ k_)) ho0 (fun k_ hk_ => Or.elim hk_ (fun hs_ => Or.elim hs_ (fun hs_ => (HO_301000.out.1 k_ (hs_).symm)) (fun hs_ => (HO_301004.out.1 k_ (hs_).symm))) (fun hn_ => (.inr (Nat.le_trans z22 hn_))))); have n3_ := Aside0.mk (Kd.R_mono (ok' := fun k_ => ((P1_0_ k_ ∨ P1_4_ k_) ∨ w.heap.size ≤ k_)) ho1 (fun k_ hk_ => Or.elim hk_ (fun hs_ => Or.elim hs_ (fun hs_ => (HO_301000.out.1 k_ (hs_).symm)) (fun hs_ => (HO_301004.out.1 k_ (hs_).symm))) (fun hn_ => (.inr (Nat.le_trans z22 hn_))))); have n4_ := Aside0.mk (Kept.then_ (S := (fun k_ => P1_0_ k_ ∨ P1_4_ k_)) z16 hkp (fun k_ hs_ => Or.elim hs_ (fun e_ => (fun e_ => (HO_301000.out.1 k_ e_.symm)) e_) (fun e_ => (fun e_ => (HO_301004.out.1 k_ e_.symm)) e_))); have n5_ := Aside0.mk (hb); clear BK300; clear BK301; clear HK; clear HB; clear HO_301000; clear HO_301004; have BK300 := n0_; have BK301 := n1_; have HO305 := n2_; have HO311 := n3_; have HK := n4_; have HB := n5_; clear n0_ n1_ n2_ n3_ n4_ n5_; (try clear hb); (try clear hkp); (try clear ho0); (try clear ho1); obtain ⟨Ao23, co23, eo23⟩ := Kd.R_slice HO305.out; subst eo23; obtain ⟨hcz24_0, hcz24_1, hcz24_2, hcz24_3, hcz24_4, hfz24_0, hfz24_1, hfz24_2, hfz24_3, hfz24_4⟩ := cbf5 BK301; obtain ⟨Ao25, co25, eo25⟩ := Kd.R_slice HO311.out; subst eo25))
    refine bodyPost_ret (results_ct rfl _ _ gb301 29 #[.slice Ao23 t303.length co23, .int .i64 t306, .int .i64 t307, .int .i64 t308, .slice Ao25 t309.length co25] (0, 0) _ rfl (by (with_reducible repeat (first | refine blk_drewN ?_ _ | refine blk_drew ?_ | refine blk_alloc ?_ _)); refine blk_put (cs := #[.slice Ao23 t303.length co23, .int .i64 t306, .int .i64 t307, .int .i64 t308, .slice none 0 0]) ?_ 4 _ rfl; (with_reducible repeat (first | refine blk_drewN ?_ _ | refine blk_drew ?_ | refine blk_alloc ?_ _)); refine blk_put (cs := #[.slice Ao23 t303.length co23, .int .i64 t306, .int .i64 t307, .int .i64 0, .slice none 0 0]) ?_ 3 _ rfl; (with_reducible repeat (first | refine blk_drewN ?_ _ | refine blk_drew ?_ | refine blk_alloc ?_ _)); refine blk_put (cs := #[.slice Ao23 t303.length co23, .int .i64 t306, .int .i64 0, .int .i64 0, .slice none 0 0]) ?_ 2 _ rfl; (with_reducible repeat (first | refine blk_drewN ?_ _ | refine blk_drew ?_ | refine blk_alloc ?_ _)); refine blk_put (cs := #[.slice Ao23 t303.length co23, .int .i64 0, .int .i64 0, .int .i64 0, .slice none 0 0]) ?_ 1 _ rfl; (with_reducible repeat (first | refine blk_drewN ?_ _ | refine blk_drew ?_ | refine blk_alloc ?_ _)); refine blk_put (cs := #[.slice none 0 0, .int .i64 0, .int .i64 0, .int .i64 0, .slice none 0 0]) ?_ 0 _ rfl; (with_reducible repeat (first | refine blk_drewN ?_ _ | refine blk_drew ?_ | refine blk_alloc ?_ _)); exact BK301.out) Try.underlying29 rfl (by kernel_rfl)) rfl ?_
    exact ⟨_, _, by first | rfl | (simp [errW_none, errW_some] <;> rfl) | (simp [*, errW_none, errW_some] <;> rfl), by (with_reducible repeat (first | apply Kd.R_alloc | apply Kd.R_drewN | apply Kd.R_drew)); exact Kd.R_mono (Kd.R_far (p := ⟨gb301, 4, none⟩) (Kd.R_far (p := ⟨gb301, 3, none⟩) (Kd.R_far (p := ⟨gb301, 2, none⟩) (Kd.R_far (p := ⟨gb301, 1, none⟩) (Kd.R_far (p := ⟨gb301, 0, none⟩) (Kd.R_types HO305.out BK301.out (by decide)) (fun _ hk => hk.2) (.slice Ao23 t303.length co23)) (fun _ hk => hk.2) (.int .i64 t306)) (fun _ hk => hk.2) (.int .i64 t307)) (fun _ hk => hk.2) (.int .i64 t308)) (fun _ hk => hk.2) (.slice Ao25 t309.length co25)) (fun _ hk => hk.1), by (with_reducible repeat (first | apply Kd.R_alloc | apply Kd.R_drewN | apply Kd.R_drew)); exact Kd.R_mono (Kd.R_far (p := ⟨gb301, 4, none⟩) (Kd.R_far (p := ⟨gb301, 3, none⟩) (Kd.R_far (p := ⟨gb301, 2, none⟩) (Kd.R_far (p := ⟨gb301, 1, none⟩) (Kd.R_far (p := ⟨gb301, 0, none⟩) (Kd.R_types HO311.out BK301.out (by decide)) (fun _ hk => hk.2) (.slice Ao23 t303.length co23)) (fun _ hk => hk.2) (.int .i64 t306)) (fun _ hk => hk.2) (.int .i64 t307)) (fun _ hk => hk.2) (.int .i64 t308)) (fun _ hk => hk.2) (.slice Ao25 t309.length co25)) (fun _ hk => hk.1), by repeat (first | (with_reducible first | exact HB.out | apply below_alloc | apply pw_below_drewN | apply below_drew1 | refine below_set ?_ GE300.out | refine below_set ?_ GE301.out) | exact HB.out), by repeat (first | (with_reducible first | exact HK.out | apply Kept.alloc | apply Kept.drewN | apply Kept.drew | refine Kept.setCell ?_ (.inr GW300.out) _ | refine Kept.setCell ?_ (.inr GW301.out) _) | exact HK.out)⟩
   ·replace c16 := Bool.eq_false_iff.mpr c16
    subst c16
    rw [if_neg (show ¬ (false = true) by decide)] at H
    by_cases c26 : a4 = true
    ·subst c26
     rw [if_pos rfl] at H
     simp only [Option.some.injEq, Prod.mk.injEq] at H
     obtain ⟨rfl, rfl, rfl, rfl, rfl, rfl⟩ := H
     have hnb27 := NB300_301.out
     have hnc27 := NB301_300.out
     obtain ⟨hcz28_0, hcz28_1, hcz28_2, hcz28_3, hcz28_4, hfz28_0, hfz28_1, hfz28_2, hfz28_3, hfz28_4⟩ := cbf5 BK300
     obtain ⟨hcz29_0, hcz29_1, hcz29_2, hcz29_3, hcz29_4, hfz29_0, hfz29_1, hfz29_2, hfz29_3, hfz29_4⟩ := cbf5 BK301
     go_wp2
     refine bodyPost_ret (results_ct rfl _ _ gb301 29 #[.slice Ao8 l1_0.length co8, .int .i64 a1_1, .int .i64 a1_2, .int .i64 a1_3, .slice Ao9 l1_4.length co9] (0, 0) _ rfl (by (with_reducible repeat (first | refine blk_drewN ?_ _ | refine blk_drew ?_ | refine blk_alloc ?_ _)); refine blk_put (cs := #[.slice Ao8 l1_0.length co8, .int .i64 a1_1, .int .i64 a1_2, .int .i64 a1_3, .slice none 0 0]) ?_ 4 _ rfl; (with_reducible repeat (first | refine blk_drewN ?_ _ | refine blk_drew ?_ | refine blk_alloc ?_ _)); refine blk_put (cs := #[.slice Ao8 l1_0.length co8, .int .i64 a1_1, .int .i64 a1_2, .int .i64 0, .slice none 0 0]) ?_ 3 _ rfl; (with_reducible repeat (first | refine blk_drewN ?_ _ | refine blk_drew ?_ | refine blk_alloc ?_ _)); refine blk_put (cs := #[.slice Ao8 l1_0.length co8, .int .i64 a1_1, .int .i64 0, .int .i64 0, .slice none 0 0]) ?_ 2 _ rfl; (with_reducible repeat (first | refine blk_drewN ?_ _ | refine blk_drew ?_ | refine blk_alloc ?_ _)); refine blk_put (cs := #[.slice Ao8 l1_0.length co8, .int .i64 0, .int .i64 0, .int .i64 0, .slice none 0 0]) ?_ 1 _ rfl; (with_reducible repeat (first | refine blk_drewN ?_ _ | refine blk_drew ?_ | refine blk_alloc ?_ _)); refine blk_put (cs := #[.slice none 0 0, .int .i64 0, .int .i64 0, .int .i64 0, .slice none 0 0]) ?_ 0 _ rfl; (with_reducible repeat (first | refine blk_drewN ?_ _ | refine blk_drew ?_ | refine blk_alloc ?_ _)); exact BK301.out) Try.underlying29 rfl (by kernel_rfl)) rfl ?_
     exact ⟨_, _, by first | rfl | (simp [errW_none, errW_some] <;> rfl) | (simp [*, errW_none, errW_some] <;> rfl), by (with_reducible repeat (first | apply Kd.R_alloc | apply Kd.R_drewN | apply Kd.R_drew)); exact Kd.R_mono (Kd.R_far (p := ⟨gb301, 4, none⟩) (Kd.R_far (p := ⟨gb301, 3, none⟩) (Kd.R_far (p := ⟨gb301, 2, none⟩) (Kd.R_far (p := ⟨gb301, 1, none⟩) (Kd.R_far (p := ⟨gb301, 0, none⟩) (Kd.R_types HO_301000.out BK301.out (by decide)) (fun _ hk => hk.2) (.slice Ao8 l1_0.length co8)) (fun _ hk => hk.2) (.int .i64 a1_1)) (fun _ hk => hk.2) (.int .i64 a1_2)) (fun _ hk => hk.2) (.int .i64 a1_3)) (fun _ hk => hk.2) (.slice Ao9 l1_4.length co9)) (fun _ hk => hk.1), by (with_reducible repeat (first | apply Kd.R_alloc | apply Kd.R_drewN | apply Kd.R_drew)); exact Kd.R_mono (Kd.R_far (p := ⟨gb301, 4, none⟩) (Kd.R_far (p := ⟨gb301, 3, none⟩) (Kd.R_far (p := ⟨gb301, 2, none⟩) (Kd.R_far (p := ⟨gb301, 1, none⟩) (Kd.R_far (p := ⟨gb301, 0, none⟩) (Kd.R_types HO_301004.out BK301.out (by decide)) (fun _ hk => hk.2) (.slice Ao8 l1_0.length co8)) (fun _ hk => hk.2) (.int .i64 a1_1)) (fun _ hk => hk.2) (.int .i64 a1_2)) (fun _ hk => hk.2) (.int .i64 a1_3)) (fun _ hk => hk.2) (.slice Ao9 l1_4.length co9)) (fun _ hk => hk.1), by repeat (first | (with_reducible first | exact HB.out | apply below_alloc | apply pw_below_drewN | apply below_drew1 | refine below_set ?_ GE300.out | refine below_set ?_ GE301.out) | exact HB.out), by repeat (first | (with_reducible first | exact HK.out | apply Kept.alloc | apply Kept.drewN | apply Kept.drew | refine Kept.setCell ?_ (.inr GW300.out) _ | refine Kept.setCell ?_ (.inr GW301.out) _) | exact HK.out)⟩
    ·replace c26 := Bool.eq_false_iff.mpr c26
     subst c26
     rw [if_neg (show ¬ (false = true) by decide)] at H
     by_cases c30 : (wrap64 (a1_2 + t302)) ≤ a1_1
     ·rw [if_pos c30] at H
      have c30b0 : decide ((wrap64 (a1_2 + t302)) ≤ a1_1) = true := decide_eq_true c30
      clear c30
      replace H := Option.bind_eq_some_iff.mp H
      obtain ⟨⟨t313, t316, t317, t318, t319, t322⟩, A310, H⟩ := H
      try dsimp only at H
      have A31 := Aside0.mk A310
      clear A310
      simp only [Option.some.injEq, Prod.mk.injEq] at H
      obtain ⟨rfl, rfl, rfl, rfl, rfl, rfl⟩ := H
      have hnb32 := NB300_301.out
      have hnc32 := NB301_300.out
      obtain ⟨hcz33_0, hcz33_1, hcz33_2, hcz33_3, hcz33_4, hfz33_0, hfz33_1, hfz33_2, hfz33_3, hfz33_4⟩ := cbf5 BK300
      go_wp2_with (first | ((with_reducible refine gate_store (t := 3) (p := 58) rfl ?_); refine store_event (t := 3) (p := 58) (v := ?vo_w34) (w1 := (wc.setCell ⟨gb300, 2, none⟩ (.int .i64 (wrap64 (a1_2 + t302))))) ?hg ?ho ?hn ?hr ?_; (case ho => rfl); (case hg => rfl); (case hn => rfl); (case hr => first | (go_simp; done) | (go_simp; rfl) | ((try (first | (obtain ⟨_, _, rfl⟩ := Kd.R_slice HO315.out) | (obtain ⟨_, _, rfl⟩ := Kd.S_slice HO315.out))); (try (first | (obtain ⟨_, _, rfl⟩ := Kd.R_slice HO321.out) | (obtain ⟨_, _, rfl⟩ := Kd.S_slice HO321.out))); (try (first | (obtain ⟨_, _, rfl⟩ := Kd.R_slice HO_301000.out) | (obtain ⟨_, _, rfl⟩ := Kd.S_slice HO_301000.out))); (try (first | (obtain ⟨_, _, rfl⟩ := Kd.R_slice HO_301004.out) | (obtain ⟨_, _, rfl⟩ := Kd.S_slice HO_301004.out))); first | (go_simp; done) | (go_simp; rfl))); intro w34 hw; have n0_ : Aside0 (Kd.R (Kd.int .i64) 3 w34 w0.heap.size (fun k_ => ((P1_0_ k_ ∨ P1_4_ k_) ∨ w.heap.size ≤ k_)) (.slice Ao8 l1_0.length co8) l1_0) := ⟨(by rw [hw]; exact (by (with_reducible repeat (first | apply Kd.R_alloc | apply Kd.R_drewN | apply Kd.R_drew)); exact Kd.R_mono (Kd.R_far (p := ⟨gb300, 2, none⟩) (Kd.R_types HO_301000.out BK300.out (by decide)) (fun _ hk => hk.2) (.int .i64 (wrap64 (a1_2 + t302)))) (fun _ hk => hk.1)))⟩; have n1_ : Aside0 (Kd.R Kd.bool 4 w34 w0.heap.size (fun k_ => ((P1_0_ k_ ∨ P1_4_ k_) ∨ w.heap.size ≤ k_)) (.slice Ao9 l1_4.length co9) l1_4) := ⟨(by rw [hw]; exact (by (with_reducible repeat (first | apply Kd.R_alloc | apply Kd.R_drewN | apply Kd.R_drew)); exact Kd.R_mono (Kd.R_far (p := ⟨gb300, 2, none⟩) (Kd.R_types HO_301004.out BK300.out (by decide)) (fun _ hk => hk.2) (.int .i64 (wrap64 (a1_2 + t302)))) (fun _ hk => hk.1)))⟩; have n2_ : Aside0 (w34.heap[gb300]? = some (.cells #[.slice Ao8 l1_0.length co8, .int .i64 a1_1, .int .i64 (wrap64 (a1_2 + t302)), .int .i64 a1_3, .slice Ao9 l1_4.length co9] 29 (0, 0))) := ⟨(by rw [hw]; exact (by (with_reducible repeat (first | refine blk_drewN ?_ _ | refine blk_drew ?_ | refine blk_alloc ?_ _)); refine blk_put (cs := #[.slice Ao8 l1_0.length co8, .int .i64 a1_1, .int .i64 a1_2, .int .i64 a1_3, .slice Ao9 l1_4.length co9]) ?_ 2 _ rfl; (with_reducible repeat (first | refine blk_drewN ?_ _ | refine blk_drew ?_ | refine blk_alloc ?_ _)); exact BK300.out))⟩; have n3_ : Aside0 (w34.heap[gb301]? = some (.cells #[.slice none 0 0, .int .i64 0, .int .i64 0, .int .i64 0, .slice none 0 0] 29 (0, 0))) := ⟨(by rw [hw]; exact (by (with_reducible repeat (first | refine blk_drewN ?_ _ | refine blk_drew ?_ | refine blk_alloc ?_ _)); refine blk_far ?_ NB301_300.out _; (with_reducible repeat (first | refine blk_drewN ?_ _ | refine blk_drew ?_ | refine blk_alloc ?_ _)); exact BK301.out))⟩; have n4_ : Aside0 (Kept w w34 (fun k_ => P1_0_ k_ ∨ P1_4_ k_)) := ⟨(by rw [hw]; exact z16)⟩; have n5_ : Aside0 (Below w0.heap.size w0 w34) := ⟨(by rw [hw]; exact z49)⟩; clear hw; clear HO_301000; clear HO_301004; clear BK300; clear BK301; clear HK; clear HB; have HO_301000 := n0_; have HO_301004 := n1_; have BK300 := n2_; have BK301 := n3_; have HK := n4_; have HB := n5_; clear n0_ n1_ n2_ n3_ n4_ n5_; obtain ⟨hcz35_0, hcz35_1, hcz35_2, hcz35_3, hcz35_4, hfz35_0, hfz35_1, hfz35_2, hfz35_3, hfz35_4⟩ := cbf5 BK300) | ((with_reducible refine gate_callee (f := 94) rfl ?_); refine goesL_ (some 66) rfl rfl Try.func94 (by kernel_rfl) rfl #[.agg #[.slice Ao8 l1_0.length co8, .int .i64 a1_1, .int .i64 (wrap64 (a1_2 + t302)), .int .i64 a1_3, .slice Ao9 l1_4.length co9], .int .i64 (wrap64 ((wrap64 (a1_2 + t302)) - t302)), .int .i64 a2, .int .i64 a3] rfl z2 ?_; (with_reducible refine (spec_l21Make.calls (fun k_ => some k_ = (.slice Ao8 l1_0.length co8 : Value).ownBlock) (.slice Ao8 l1_0.length co8) l1_0 a1_1 (wrap64 (a1_2 + t302)) a1_3 (fun k_ => some k_ = (.slice Ao9 l1_4.length co9 : Value).ownBlock) (.slice Ao9 l1_4.length co9) l1_4 (wrap64 ((wrap64 (a1_2 + t302)) - t302)) a2 a3 t313 t316 t317 t318 t319 t322 w0 _ ?side1 ?side2 ?side3 A31.out).mono ?_); (case side1 => repeat (first | (with_reducible first | exact HB.out | apply below_alloc | apply pw_below_drewN | apply below_drew1 | refine below_set ?_ GE300.out | refine below_set ?_ GE301.out) | exact HB.out)); (case side2 => exact Kd.R_tight rfl HO_301000.out); (case side3 => exact Kd.R_tight rfl HO_301004.out); rintro e w36 ⟨v314, v320, rfl, ho0, ho1, hb, hkp⟩; refine ⟨_, rfl, ?_⟩; have n0_ := Aside0.mk (blk_kept z37 hkp (fun hs_ => Or.elim hs_ (fun e_ => (fun e_ => (Kd.R_ne HO_301000.out BK300.out (by decide)) e_) e_) (fun e_ => (fun e_ => (Kd.R_ne HO_301004.out BK300.out (by decide)) e_) e_))); have n1_ := Aside0.mk (blk_kept (by (with_reducible repeat (first | refine blk_drewN ?_ _ | refine blk_drew ?_ | refine blk_alloc ?_ _)); exact BK301.out) hkp (fun hs_ => Or.elim hs_ (fun e_ => (fun e_ => (Kd.R_ne HO_301000.out BK301.out (by decide)) e_) e_) (fun e_ => (fun e_ => (Kd.R_ne HO_301004.out BK301.out (by decide)) e_) e_))); have n2_ := Aside0.mk (Kd.R_mono (ok' := fun k_ => ((P1_0_ k_ ∨ P1_4_ k_) ∨ w.heap.size ≤ k_)) ho0 (fun k_ hk_ => Or.elim hk_ (fun hs_ => Or.elim hs_ (fun hs_ => (HO_301000.out.1 k_ (hs_).symm)) (fun hs_ => (HO_301004.out.1 k_ (hs_).symm))) (fun hn_ => (.inr (Nat.le_trans z22 hn_))))); have n3_ := Aside0.mk (Kd.R_mono (ok' := fun k_ => ((P1_0_ k_ ∨ P1_4_ k_) ∨ w.heap.size ≤ k_)) ho1 (fun k_ hk_ => Or.elim hk_ (fun hs_ => Or.elim hs_ (fun hs_ => (HO_301000.out.1 k_ (hs_).symm)) (fun hs_ => (HO_301004.out.1 k_ (hs_).symm))) (fun hn_ => (.inr (Nat.le_trans z22 hn_))))); have n4_ := Aside0.mk (Kept.then_ (S := (fun k_ => P1_0_ k_ ∨ P1_4_ k_)) z16 hkp (fun k_ hs_ => Or.elim hs_ (fun e_ => (fun e_ => (HO_301000.out.1 k_ e_.symm)) e_) (fun e_ => (fun e_ => (HO_301004.out.1 k_ e_.symm)) e_))); have n5_ := Aside0.mk (hb); clear BK300; clear BK301; clear HK; clear HB; clear HO_301000; clear HO_301004; have BK300 := n0_; have BK301 := n1_; have HO315 := n2_; have HO321 := n3_; have HK := n4_; have HB := n5_; clear n0_ n1_ n2_ n3_ n4_ n5_; (try clear hb); (try clear hkp); (try clear ho0); (try clear ho1); obtain ⟨Ao37, co37, eo37⟩ := Kd.R_slice HO315.out; subst eo37; obtain ⟨hcz38_0, hcz38_1, hcz38_2, hcz38_3, hcz38_4, hfz38_0, hfz38_1, hfz38_2, hfz38_3, hfz38_4⟩ := cbf5 BK301; obtain ⟨Ao39, co39, eo39⟩ := Kd.R_slice HO321.out; subst eo39))
      refine bodyPost_ret (results_ct rfl _ _ gb301 29 #[.slice Ao37 t313.length co37, .int .i64 t316, .int .i64 t317, .int .i64 t318, .slice Ao39 t319.length co39] (0, 0) _ rfl (by (with_reducible repeat (first | refine blk_drewN ?_ _ | refine blk_drew ?_ | refine blk_alloc ?_ _)); refine blk_put (cs := #[.slice Ao37 t313.length co37, .int .i64 t316, .int .i64 t317, .int .i64 t318, .slice none 0 0]) ?_ 4 _ rfl; (with_reducible repeat (first | refine blk_drewN ?_ _ | refine blk_drew ?_ | refine blk_alloc ?_ _)); refine blk_put (cs := #[.slice Ao37 t313.length co37, .int .i64 t316, .int .i64 t317, .int .i64 0, .slice none 0 0]) ?_ 3 _ rfl; (with_reducible repeat (first | refine blk_drewN ?_ _ | refine blk_drew ?_ | refine blk_alloc ?_ _)); refine blk_put (cs := #[.slice Ao37 t313.length co37, .int .i64 t316, .int .i64 0, .int .i64 0, .slice none 0 0]) ?_ 2 _ rfl; (with_reducible repeat (first | refine blk_drewN ?_ _ | refine blk_drew ?_ | refine blk_alloc ?_ _)); refine blk_put (cs := #[.slice Ao37 t313.length co37, .int .i64 0, .int .i64 0, .int .i64 0, .slice none 0 0]) ?_ 1 _ rfl; (with_reducible repeat (first | refine blk_drewN ?_ _ | refine blk_drew ?_ | refine blk_alloc ?_ _)); refine blk_put (cs := #[.slice none 0 0, .int .i64 0, .int .i64 0, .int .i64 0, .slice none 0 0]) ?_ 0 _ rfl; (with_reducible repeat (first | refine blk_drewN ?_ _ | refine blk_drew ?_ | refine blk_alloc ?_ _)); exact BK301.out) Try.underlying29 rfl (by kernel_rfl)) rfl ?_
      exact ⟨_, _, by first | rfl | (simp [errW_none, errW_some] <;> rfl) | (simp [*, errW_none, errW_some] <;> rfl), by (with_reducible repeat (first | apply Kd.R_alloc | apply Kd.R_drewN | apply Kd.R_drew)); exact Kd.R_mono (Kd.R_far (p := ⟨gb301, 4, none⟩) (Kd.R_far (p := ⟨gb301, 3, none⟩) (Kd.R_far (p := ⟨gb301, 2, none⟩) (Kd.R_far (p := ⟨gb301, 1, none⟩) (Kd.R_far (p := ⟨gb301, 0, none⟩) (Kd.R_types HO315.out BK301.out (by decide)) (fun _ hk => hk.2) (.slice Ao37 t313.length co37)) (fun _ hk => hk.2) (.int .i64 t316)) (fun _ hk => hk.2) (.int .i64 t317)) (fun _ hk => hk.2) (.int .i64 t318)) (fun _ hk => hk.2) (.slice Ao39 t319.length co39)) (fun _ hk => hk.1), by (with_reducible repeat (first | apply Kd.R_alloc | apply Kd.R_drewN | apply Kd.R_drew)); exact Kd.R_mono (Kd.R_far (p := ⟨gb301, 4, none⟩) (Kd.R_far (p := ⟨gb301, 3, none⟩) (Kd.R_far (p := ⟨gb301, 2, none⟩) (Kd.R_far (p := ⟨gb301, 1, none⟩) (Kd.R_far (p := ⟨gb301, 0, none⟩) (Kd.R_types HO321.out BK301.out (by decide)) (fun _ hk => hk.2) (.slice Ao37 t313.length co37)) (fun _ hk => hk.2) (.int .i64 t316)) (fun _ hk => hk.2) (.int .i64 t317)) (fun _ hk => hk.2) (.int .i64 t318)) (fun _ hk => hk.2) (.slice Ao39 t319.length co39)) (fun _ hk => hk.1), by repeat (first | (with_reducible first | exact HB.out | apply below_alloc | apply pw_below_drewN | apply below_drew1 | refine below_set ?_ GE300.out | refine below_set ?_ GE301.out) | exact HB.out), by repeat (first | (with_reducible first | exact HK.out | apply Kept.alloc | apply Kept.drewN | apply Kept.drew | refine Kept.setCell ?_ (.inr GW300.out) _ | refine Kept.setCell ?_ (.inr GW301.out) _) | exact HK.out)⟩
     ·rw [if_neg c30] at H
      have c30b0 : decide ((wrap64 (a1_2 + t302)) ≤ a1_1) = false := decide_eq_false c30
      clear c30
      simp only [Option.some.injEq, Prod.mk.injEq] at H
      obtain ⟨rfl, rfl, rfl, rfl, rfl, rfl⟩ := H
      have hnb40 := NB300_301.out
      have hnc40 := NB301_300.out
      obtain ⟨hcz41_0, hcz41_1, hcz41_2, hcz41_3, hcz41_4, hfz41_0, hfz41_1, hfz41_2, hfz41_3, hfz41_4⟩ := cbf5 BK300
      obtain ⟨hcz42_0, hcz42_1, hcz42_2, hcz42_3, hcz42_4, hfz42_0, hfz42_1, hfz42_2, hfz42_3, hfz42_4⟩ := cbf5 BK301
      go_wp2
      refine bodyPost_ret (results_ct rfl _ _ gb301 29 #[.slice Ao8 l1_0.length co8, .int .i64 a1_1, .int .i64 a1_2, .int .i64 a1_3, .slice Ao9 l1_4.length co9] (0, 0) _ rfl (by (with_reducible repeat (first | refine blk_drewN ?_ _ | refine blk_drew ?_ | refine blk_alloc ?_ _)); refine blk_put (cs := #[.slice Ao8 l1_0.length co8, .int .i64 a1_1, .int .i64 a1_2, .int .i64 a1_3, .slice none 0 0]) ?_ 4 _ rfl; (with_reducible repeat (first | refine blk_drewN ?_ _ | refine blk_drew ?_ | refine blk_alloc ?_ _)); refine blk_put (cs := #[.slice Ao8 l1_0.length co8, .int .i64 a1_1, .int .i64 a1_2, .int .i64 0, .slice none 0 0]) ?_ 3 _ rfl; (with_reducible repeat (first | refine blk_drewN ?_ _ | refine blk_drew ?_ | refine blk_alloc ?_ _)); refine blk_put (cs := #[.slice Ao8 l1_0.length co8, .int .i64 a1_1, .int .i64 0, .int .i64 0, .slice none 0 0]) ?_ 2 _ rfl; (with_reducible repeat (first | refine blk_drewN ?_ _ | refine blk_drew ?_ | refine blk_alloc ?_ _)); refine blk_put (cs := #[.slice Ao8 l1_0.length co8, .int .i64 0, .int .i64 0, .int .i64 0, .slice none 0 0]) ?_ 1 _ rfl; (with_reducible repeat (first | refine blk_drewN ?_ _ | refine blk_drew ?_ | refine blk_alloc ?_ _)); refine blk_put (cs := #[.slice none 0 0, .int .i64 0, .int .i64 0, .int .i64 0, .slice none 0 0]) ?_ 0 _ rfl; (with_reducible repeat (first | refine blk_drewN ?_ _ | refine blk_drew ?_ | refine blk_alloc ?_ _)); exact BK301.out) Try.underlying29 rfl (by kernel_rfl)) rfl ?_
      exact ⟨_, _, by first | rfl | (simp [errW_none, errW_some] <;> rfl) | (simp [*, errW_none, errW_some] <;> rfl), by (with_reducible repeat (first | apply Kd.R_alloc | apply Kd.R_drewN | apply Kd.R_drew)); exact Kd.R_mono (Kd.R_far (p := ⟨gb301, 4, none⟩) (Kd.R_far (p := ⟨gb301, 3, none⟩) (Kd.R_far (p := ⟨gb301, 2, none⟩) (Kd.R_far (p := ⟨gb301, 1, none⟩) (Kd.R_far (p := ⟨gb301, 0, none⟩) (Kd.R_types HO_301000.out BK301.out (by decide)) (fun _ hk => hk.2) (.slice Ao8 l1_0.length co8)) (fun _ hk => hk.2) (.int .i64 a1_1)) (fun _ hk => hk.2) (.int .i64 a1_2)) (fun _ hk => hk.2) (.int .i64 a1_3)) (fun _ hk => hk.2) (.slice Ao9 l1_4.length co9)) (fun _ hk => hk.1), by (with_reducible repeat (first | apply Kd.R_alloc | apply Kd.R_drewN | apply Kd.R_drew)); exact Kd.R_mono (Kd.R_far (p := ⟨gb301, 4, none⟩) (Kd.R_far (p := ⟨gb301, 3, none⟩) (Kd.R_far (p := ⟨gb301, 2, none⟩) (Kd.R_far (p := ⟨gb301, 1, none⟩) (Kd.R_far (p := ⟨gb301, 0, none⟩) (Kd.R_types HO_301004.out BK301.out (by decide)) (fun _ hk => hk.2) (.slice Ao8 l1_0.length co8)) (fun _ hk => hk.2) (.int .i64 a1_1)) (fun _ hk => hk.2) (.int .i64 a1_2)) (fun _ hk => hk.2) (.int .i64 a1_3)) (fun _ hk => hk.2) (.slice Ao9 l1_4.length co9)) (fun _ hk => hk.1), by repeat (first | (with_reducible first | exact HB.out | apply below_alloc | apply pw_below_drewN | apply below_drew1 | refine below_set ?_ GE300.out | refine below_set ?_ GE301.out) | exact HB.out), by repeat (first | (with_reducible first | exact HK.out | apply Kept.alloc | apply Kept.drewN | apply Kept.drew | refine Kept.setCell ?_ (.inr GW300.out) _ | refine Kept.setCell ?_ (.inr GW301.out) _) | exact HK.out)⟩
end Go.Proofs.Ytmniglgahodghaa.K
namespace Go.Proofs.Ytmniglgahodghaa.K
open Go.RowKit Go.Proofs.YtmniglgahodghaaW.PrintWords Go.Proofs.YtmniglgahodghaaW.PrintLast Go.Proofs.YtmniglgahodghaaW.PrintMore
attribute [local go_sem] max2_int min2_int max_two min_two max_three min_three max_four min_four
set_option linter.unusedVariables false
set_option linter.unusedSimpArgs false
def spec_MemMake.j0 : Nat → List (S69) → Int → Int → Bool → Bool → List Int → Int → Int → Int → List Bool → Option (List Int × Int × Int × Int × List Bool × Int)
  | 0, _, _, _, _, _, _, _, _, _, _ => none
  | k + 1, x0, x2, x3, x4, x22, x324000, x324001, x324002, x324003, x324004 => if x22 = true then (some (([] : List Int), 0, 0, 0, ([] : List Bool), 0)) else ((spec_l21Copy.f x324000 x324001 x324002 x324003 x324004).bind fun bt327 => ((spec_l21Try.f k x0 bt327.1 bt327.2.1 bt327.2.2.1 bt327.2.2.2.1 bt327.2.2.2.2 x2 x3 x4).bind fun bt336 => (some (bt336.1, bt336.2.1, bt336.2.2.1, bt336.2.2.2.1, bt336.2.2.2.2.1, bt336.2.2.2.2.2))))
def spec_MemMake.f (k : Nat) (l0 : List (S69)) (l1_0 : List Int) (a1_1 : Int) (a1_2 : Int) (a1_3 : Int) (l1_4 : List Bool) (a2 : Int) (a3 : Int) (a4 : Bool) : Option (List Int × Int × Int × Int × List Bool × Int) := (spec_MemOk.f k l0 l1_0 a1_1 a1_2 a1_3 l1_4).bind fun t325 => (if t325 = true then ((spec_l21Want.f k l0 a2 a3).bind fun t326 => (spec_MemMake.j0 k l0 a2 a3 a4 (t326 == 0) l1_0 a1_1 a1_2 a1_3 l1_4)) else (spec_MemMake.j0 k l0 a2 a3 a4 true l1_0 a1_1 a1_2 a1_3 l1_4))
set_option maxHeartbeats 8000000 in
set_option maxRecDepth 100000 in
theorem spec_MemMake.calls (k : Nat) (A0 : Option Addr) (c0 : Nat) (l0 : List (S69)) (A1_0 : Option Addr) (c1_0 : Nat) (l1_0 : List Int) (a1_1 : Int) (a1_2 : Int) (a1_3 : Int) (A1_4 : Option Addr) (c1_4 : Nat) (l1_4 : List Bool) (a2 : Int) (a3 : Int) (a4 : Bool) (r1 : List Int) (r2 : Int) (r3 : Int) (r4 : Int) (r5 : List Bool) (r6 : Int) (w : World) (hr0 : Kd.C k69 w A0 l0.length l0) (hc0 : l0.length ≤ c0) (hr1_0 : Kd.C (Kd.int .i64) w A1_0 l1_0.length l1_0) (hc1_0 : l1_0.length ≤ c1_0) (hr1_4 : Kd.C Kd.bool w A1_4 l1_4.length l1_4) (hc1_4 : l1_4.length ≤ c1_4) (h : spec_MemMake.f k l0 l1_0 a1_1 a1_2 a1_3 l1_4 a2 a3 a4 = some (r1, r2, r3, r4, r5, r6)) :
  Calls Try.prog 23 #[.slice A0 l0.length c0, .agg #[.slice A1_0 l1_0.length c1_0, .int .i64 a1_1, .int .i64 a1_2, .int .i64 a1_3, .slice A1_4 l1_4.length c1_4], .int .i64 a2, .int .i64 a3, .bool a4] w fun e w' => ∃ v0_ v4_ : Value, e = .returned (.tuple #[.agg #[v0_, .int .i64 r2, .int .i64 r3, .int .i64 r4, v4_], .int .i64 r6]) ∧ Kd.R (Kd.int .i64) 3 w' w.heap.size (fun _ => True) v0_ r1 ∧ Kd.R Kd.bool 4 w' w.heap.size (fun _ => True) v4_ r5 ∧ Below w.heap.size w w' := by
 have hu29 := Try.underlying29
 have HR0 := Aside0.mk hr0
 have HC0 := Aside0.mk hc0
 clear hr0 hc0
 have HR1_0 := Aside0.mk hr1_0
 have HC1_0 := Aside0.mk hc1_0
 clear hr1_0 hc1_0
 have HR1_4 := Aside0.mk hr1_4
 have HC1_4 := Aside0.mk hc1_4
 clear hr1_4 hc1_4
 have HB := Aside0.mk (Below.refl w.heap.size w)
 have H : ((spec_MemOk.f k l0 l1_0 a1_1 a1_2 a1_3 l1_4).bind fun t325 => (if t325 = true then ((spec_l21Want.f k l0 a2 a3).bind fun t326 => (spec_MemMake.j0 k l0 a2 a3 a4 (t326 == 0) l1_0 a1_1 a1_2 a1_3 l1_4)) else (spec_MemMake.j0 k l0 a2 a3 a4 true l1_0 a1_1 a1_2 a1_3 l1_4))) = some (r1, r2, r3, r4, r5, r6) := h
 clear h
 have HC6 := Aside0.mk H
 clear H
 go_enter Try.func23, Try.ntmps23
 go_upto_region 1 with (first | ((with_reducible refine gate_dst (N := 6) rfl ?_); refine box_event ?hg (N := 6) ?hd (cs := #[.slice A1_0 l1_0.length c1_0, .int .i64 a1_1, .int .i64 a1_2, .int .i64 a1_3, .slice A1_4 l1_4.length c1_4]) (t := 29) ?hr ?_; (case hd => rfl); (case hg => rfl); (case hr => first | (go_simp; done) | (go_simp; rfl)); intro gb323 hg w7 hbox hb; have BK323 := Aside0.mk (hbox); have GW323 := Aside0.mk ((by rw [hg]; exact (below_size z1) : w.heap.size ≤ gb323)); have GE323 := Aside0.mk ((by rw [hg]; exact (below_size z1) : w.heap.size ≤ gb323)); replace HB := Aside0.mk (below_step z1 hb); clear hb hbox hg) | ((with_reducible refine gate_dst (N := 10) rfl ?_); refine box_event ?hg (N := 10) ?hd (cs := #[.slice none 0 0, .int .i64 0, .int .i64 0, .int .i64 0, .slice none 0 0]) (t := 29) ?hr ?_; (case hd => rfl); (case hg => rfl); (case hr => first | (go_simp; done) | (go_simp; rfl)); intro gb324 hg w8 hbox hb; have BK324 := Aside0.mk (hbox); have GW324 := Aside0.mk ((by rw [hg]; exact (below_size (by repeat (first | (with_reducible first | exact HB.out | apply below_alloc | apply pw_below_drewN | apply below_drew1 | refine below_set ?_ GE323.out) | exact HB.out))) : w.heap.size ≤ gb324)); have GE324 := Aside0.mk ((by rw [hg]; exact (below_size (by repeat (first | (with_reducible first | exact HB.out | apply below_alloc | apply pw_below_drewN | apply below_drew1 | refine below_set ?_ GE323.out) | exact HB.out))) : w.heap.size ≤ gb324)); have NB323_324 := Aside0.mk ((by rw [hg]; exact Nat.ne_of_lt (blk_lt (g := gb323) (o := .cells #[.slice A1_0 l1_0.length c1_0, .int .i64 a1_1, .int .i64 a1_2, .int .i64 a1_3, .slice A1_4 l1_4.length c1_4] 29 (0, 0)) z25) : gb323 ≠ gb324)); have NB324_323 := Aside0.mk ((by rw [hg]; exact Nat.ne_of_gt (blk_lt (g := gb323) (o := .cells #[.slice A1_0 l1_0.length c1_0, .int .i64 a1_1, .int .i64 a1_2, .int .i64 a1_3, .slice A1_4 l1_4.length c1_4] 29 (0, 0)) z25) : gb324 ≠ gb323)); replace BK323 := Aside0.mk (blk_below (g := gb323) (o := .cells #[.slice A1_0 l1_0.length c1_0, .int .i64 a1_1, .int .i64 a1_2, .int .i64 a1_3, .slice A1_4 l1_4.length c1_4] 29 (0, 0)) z25 hb); replace HB := Aside0.mk (below_step (by repeat (first | (with_reducible first | exact HB.out | apply below_alloc | apply pw_below_drewN | apply below_drew1 | refine below_set ?_ GE323.out) | exact HB.out)) hb); clear hb hbox hg))
 (try simp only [Act.put, List.setIfInBounds_toArray, List.set_cons_zero, List.set_cons_succ])
 go_cut [22] (fun v22 wc => ∃ (kq : Nat) (x22_5 : Bool), v22 = .bool x22_5 ∧ Aside0 (spec_MemMake.j0 kq l0 a2 a3 a4 x22_5 l1_0 a1_1 a1_2 a1_3 l1_4 = some (r1, r2, r3, r4, r5, r6)) ∧ Aside0 (kq ≤ k) ∧ Aside0 (wc.heap[gb323]? = some (.cells #[(.slice A1_0 l1_0.length c1_0), .int .i64 a1_1, .int .i64 a1_2, .int .i64 a1_3, (.slice A1_4 l1_4.length c1_4)] 29 (0, 0))) ∧ Aside0 (wc.heap[gb324]? = some (.cells #[(.slice none 0 0), .int .i64 0, .int .i64 0, .int .i64 0, (.slice none 0 0)] 29 (0, 0))) ∧ Aside0 (Below w.heap.size w wc))
 case first =>
  have H := HC6.out
  clear HC6
  replace H := Option.bind_eq_some_iff.mp H
  obtain ⟨t325, A90, H⟩ := H
  try dsimp only at H
  have A9 := Aside0.mk A90
  clear A90
  by_cases c10 : t325 = true
  ·subst c10
   rw [if_pos rfl] at H
   replace H := Option.bind_eq_some_iff.mp H
   obtain ⟨t326, A110, H⟩ := H
   try dsimp only at H
   have A11 := Aside0.mk A110
   clear A110
   have H' := Aside0.mk H
   clear H
   have hnb12 := NB323_324.out
   have hnc12 := NB324_323.out
   obtain ⟨hcz13_0, hcz13_1, hcz13_2, hcz13_3, hcz13_4, hfz13_0, hfz13_1, hfz13_2, hfz13_3, hfz13_4⟩ := cbf5 BK323
   go_wp2_with (first | ((with_reducible refine gate_callee (f := 34) rfl ?_); refine goesL_ (some 14) rfl rfl Try.func34 (by kernel_rfl) rfl #[.slice A0 l0.length c0, .agg #[.slice A1_0 l1_0.length c1_0, .int .i64 a1_1, .int .i64 a1_2, .int .i64 a1_3, .slice A1_4 l1_4.length c1_4]] rfl z2 ?_; (with_reducible refine (spec_MemOk.calls k _ _ l0 _ _ l1_0 a1_1 a1_2 a1_3 _ _ l1_4 true _ ?side1 ?side2 ?side3 ?side4 ?side5 ?side6 A9.out).mono ?_); (case side1 => repeat (first | exact (Kd.C_below HR0.out HB.out) | (with_reducible refine Kd.C_alloc ?_ _) | (with_reducible refine Kd.C_drewN ?_ _) | (with_reducible refine Kd.C_drew ?_))); (case side2 => exact HC0.out); (case side3 => repeat (first | exact (Kd.C_below HR1_0.out HB.out) | (with_reducible refine Kd.C_alloc ?_ _) | (with_reducible refine Kd.C_drewN ?_ _) | (with_reducible refine Kd.C_drew ?_))); (case side4 => exact HC1_0.out); (case side5 => repeat (first | exact (Kd.C_below HR1_4.out HB.out) | (with_reducible refine Kd.C_alloc ?_ _) | (with_reducible refine Kd.C_drewN ?_ _) | (with_reducible refine Kd.C_drew ?_))); (case side6 => exact HC1_4.out); rintro e w14 ⟨rfl, hb⟩; refine ⟨_, rfl, ?_⟩; replace BK323 := Aside0.mk (blk_below (g := gb323) (o := .cells #[.slice A1_0 l1_0.length c1_0, .int .i64 a1_1, .int .i64 a1_2, .int .i64 a1_3, .slice A1_4 l1_4.length c1_4] 29 (0, 0)) z25 hb); replace BK324 := Aside0.mk (blk_below (g := gb324) (o := .cells #[.slice none 0 0, .int .i64 0, .int .i64 0, .int .i64 0, .slice none 0 0] 29 (0, 0)) z43 hb); replace HB := Aside0.mk (below_step z15 hb); (try clear hb); (try clear hb2); (try clear hk); (try clear hi)) | (go_at_call 57; (with_reducible refine (spec_l21Want.calls k _ _ l0 a2 a3 t326 _ ?side1 ?side2 A11.out).mono ?_); (case side1 => repeat (first | exact (Kd.C_below HR0.out HB.out) | (with_reducible refine Kd.C_alloc ?_ _) | (with_reducible refine Kd.C_drewN ?_ _) | (with_reducible refine Kd.C_drew ?_))); (case side2 => exact HC0.out); rintro e w15 ⟨rfl, hb⟩; replace BK323 := Aside0.mk (blk_below (g := gb323) (o := .cells #[.slice A1_0 l1_0.length c1_0, .int .i64 a1_1, .int .i64 a1_2, .int .i64 a1_3, .slice A1_4 l1_4.length c1_4] 29 (0, 0)) z25 hb); replace BK324 := Aside0.mk (blk_below (g := gb324) (o := .cells #[.slice none 0 0, .int .i64 0, .int .i64 0, .int .i64 0, .slice none 0 0] 29 (0, 0)) z43 hb); replace HB := Aside0.mk (below_step z15 hb); (try clear hb); (try clear hb2); (try clear hk); (try clear hi)))
   go_meet
   case rel => exact ⟨_, ((t326 == 0)), z6, H', ⟨by first | omega | exact Nat.le_refl _⟩, ⟨by (with_reducible repeat (first | refine blk_drewN ?_ _ | refine blk_drew ?_ | refine blk_alloc ?_ _)); exact BK323.out⟩, ⟨by (with_reducible repeat (first | refine blk_drewN ?_ _ | refine blk_drew ?_ | refine blk_alloc ?_ _)); exact BK324.out⟩, ⟨by repeat (first | (with_reducible first | exact HB.out | apply below_alloc | apply pw_below_drewN | apply below_drew1 | refine below_set ?_ GE323.out | refine below_set ?_ GE324.out) | exact HB.out)⟩⟩
  ·replace c10 := Bool.eq_false_iff.mpr c10
   subst c10
   rw [if_neg (show ¬ (false = true) by decide)] at H
   have H' := Aside0.mk H
   clear H
   have hnb16 := NB323_324.out
   have hnc16 := NB324_323.out
   obtain ⟨hcz17_0, hcz17_1, hcz17_2, hcz17_3, hcz17_4, hfz17_0, hfz17_1, hfz17_2, hfz17_3, hfz17_4⟩ := cbf5 BK323
   go_wp2_with (first | ((with_reducible refine gate_callee (f := 34) rfl ?_); refine goesL_ (some 14) rfl rfl Try.func34 (by kernel_rfl) rfl #[.slice A0 l0.length c0, .agg #[.slice A1_0 l1_0.length c1_0, .int .i64 a1_1, .int .i64 a1_2, .int .i64 a1_3, .slice A1_4 l1_4.length c1_4]] rfl z2 ?_; (with_reducible refine (spec_MemOk.calls k _ _ l0 _ _ l1_0 a1_1 a1_2 a1_3 _ _ l1_4 false _ ?side1 ?side2 ?side3 ?side4 ?side5 ?side6 A9.out).mono ?_); (case side1 => repeat (first | exact (Kd.C_below HR0.out HB.out) | (with_reducible refine Kd.C_alloc ?_ _) | (with_reducible refine Kd.C_drewN ?_ _) | (with_reducible refine Kd.C_drew ?_))); (case side2 => exact HC0.out); (case side3 => repeat (first | exact (Kd.C_below HR1_0.out HB.out) | (with_reducible refine Kd.C_alloc ?_ _) | (with_reducible refine Kd.C_drewN ?_ _) | (with_reducible refine Kd.C_drew ?_))); (case side4 => exact HC1_0.out); (case side5 => repeat (first | exact (Kd.C_below HR1_4.out HB.out) | (with_reducible refine Kd.C_alloc ?_ _) | (with_reducible refine Kd.C_drewN ?_ _) | (with_reducible refine Kd.C_drew ?_))); (case side6 => exact HC1_4.out); rintro e w18 ⟨rfl, hb⟩; refine ⟨_, rfl, ?_⟩; replace BK323 := Aside0.mk (blk_below (g := gb323) (o := .cells #[.slice A1_0 l1_0.length c1_0, .int .i64 a1_1, .int .i64 a1_2, .int .i64 a1_3, .slice A1_4 l1_4.length c1_4] 29 (0, 0)) z25 hb); replace BK324 := Aside0.mk (blk_below (g := gb324) (o := .cells #[.slice none 0 0, .int .i64 0, .int .i64 0, .int .i64 0, .slice none 0 0] 29 (0, 0)) z43 hb); replace HB := Aside0.mk (below_step z15 hb); (try clear hb); (try clear hb2); (try clear hk); (try clear hi)))
   go_meet
   case rel => exact ⟨_, (true), z6, H', ⟨by first | omega | exact Nat.le_refl _⟩, ⟨by (with_reducible repeat (first | refine blk_drewN ?_ _ | refine blk_drew ?_ | refine blk_alloc ?_ _)); exact BK323.out⟩, ⟨by (with_reducible repeat (first | refine blk_drewN ?_ _ | refine blk_drew ?_ | refine blk_alloc ?_ _)); exact BK324.out⟩, ⟨by repeat (first | (with_reducible first | exact HB.out | apply below_alloc | apply pw_below_drewN | apply below_drew1 | refine below_set ?_ GE323.out | refine below_set ?_ GE324.out) | exact HB.out)⟩⟩
 case rest =>
  clear HC6
  try clear c1
  try clear c2
  try clear p2
  try clear c3
  try clear c10
  try clear c12
  try clear c16
  try clear hcz13_0
  try clear hcz13_1
  try clear hcz13_2
  try clear hcz13_3
  try clear hcz13_4
  try clear hcz17_0
  try clear hcz17_1
  try clear hcz17_2
  try clear hcz17_3
  try clear hcz17_4
  try clear hfz13_0
  try clear hfz13_1
  try clear hfz13_2
  try clear hfz13_3
  try clear hfz13_4
  try clear hfz17_0
  try clear hfz17_1
  try clear hfz17_2
  try clear hfz17_3
  try clear hfz17_4
  obtain ⟨kq, x22_5, rfl, HA, HJ5, BK323, BK324, HB⟩ := hcut
  cases kq with
  | zero => exact absurd HA.out (by simp [spec_MemMake.j0])
  | succ kj5 =>
   have H := HA.out
   clear HA
   simp only [spec_MemMake.j0] at H
   by_cases c19 : x22_5 = true
   ·subst c19
    rw [if_pos rfl] at H
    simp only [Option.some.injEq, Prod.mk.injEq] at H
    obtain ⟨rfl, rfl, rfl, rfl, rfl, rfl⟩ := H
    have hnb20 := NB324_323.out
    have hnc20 := NB323_324.out
    obtain ⟨hcz21_0, hcz21_1, hcz21_2, hcz21_3, hcz21_4, hfz21_0, hfz21_1, hfz21_2, hfz21_3, hfz21_4⟩ := cbf5 BK324
    go_wp2
    refine bodyPost_ret (results_ct rfl _ _ gb324 29 #[.slice none 0 0, .int .i64 0, .int .i64 0, .int .i64 0, .slice none 0 0] (0, 0) _ rfl (by (with_reducible repeat (first | refine blk_drewN ?_ _ | refine blk_drew ?_ | refine blk_alloc ?_ _)); refine blk_put (cs := #[.slice none 0 0, .int .i64 0, .int .i64 0, .int .i64 0, .slice none 0 0]) ?_ 4 _ rfl; (with_reducible repeat (first | refine blk_drewN ?_ _ | refine blk_drew ?_ | refine blk_alloc ?_ _)); refine blk_put (cs := #[.slice none 0 0, .int .i64 0, .int .i64 0, .int .i64 0, .slice none 0 0]) ?_ 3 _ rfl; (with_reducible repeat (first | refine blk_drewN ?_ _ | refine blk_drew ?_ | refine blk_alloc ?_ _)); refine blk_put (cs := #[.slice none 0 0, .int .i64 0, .int .i64 0, .int .i64 0, .slice none 0 0]) ?_ 2 _ rfl; (with_reducible repeat (first | refine blk_drewN ?_ _ | refine blk_drew ?_ | refine blk_alloc ?_ _)); refine blk_put (cs := #[.slice none 0 0, .int .i64 0, .int .i64 0, .int .i64 0, .slice none 0 0]) ?_ 1 _ rfl; (with_reducible repeat (first | refine blk_drewN ?_ _ | refine blk_drew ?_ | refine blk_alloc ?_ _)); refine blk_put (cs := #[.slice none 0 0, .int .i64 0, .int .i64 0, .int .i64 0, .slice none 0 0]) ?_ 0 _ rfl; (with_reducible repeat (first | refine blk_drewN ?_ _ | refine blk_drew ?_ | refine blk_alloc ?_ _)); exact BK324.out) Try.underlying29 rfl (by kernel_rfl)) rfl ?_
    exact ⟨_, _, by first | rfl | (simp [errW_none, errW_some] <;> rfl) | (simp [*, errW_none, errW_some] <;> rfl), by first | exact Kd.R_nil _ _ _ _ _ | exact Kd.N_nil _ _ _ _ _ | exact Kd.V_nil _ _ _ _ _ | exact Kd.Q_nil _ _ _ _ _ | exact Kd.S_nil _ _ _ _ _, by first | exact Kd.R_nil _ _ _ _ _ | exact Kd.N_nil _ _ _ _ _ | exact Kd.V_nil _ _ _ _ _ | exact Kd.Q_nil _ _ _ _ _ | exact Kd.S_nil _ _ _ _ _, by repeat (first | (with_reducible first | exact HB.out | apply below_alloc | apply pw_below_drewN | apply below_drew1 | refine below_set ?_ GE323.out | refine below_set ?_ GE324.out) | exact HB.out)⟩
   ·replace c19 := Bool.eq_false_iff.mpr c19
    subst c19
    rw [if_neg (show ¬ (false = true) by decide)] at H
    replace H := Option.bind_eq_some_iff.mp H
    obtain ⟨⟨t327, t330, t331, t332, t333⟩, A220, H⟩ := H
    try dsimp only at H
    have A22 := Aside0.mk A220
    clear A220
    replace H := Option.bind_eq_some_iff.mp H
    obtain ⟨⟨t336, t339, t340, t341, t342, t345⟩, A230, H⟩ := H
    try dsimp only at H
    have A23 := Aside0.mk A230
    clear A230
    simp only [Option.some.injEq, Prod.mk.injEq] at H
    obtain ⟨rfl, rfl, rfl, rfl, rfl, rfl⟩ := H
    have hnb24 := NB323_324.out
    have hnc24 := NB324_323.out
    obtain ⟨hcz25_0, hcz25_1, hcz25_2, hcz25_3, hcz25_4, hfz25_0, hfz25_1, hfz25_2, hfz25_3, hfz25_4⟩ := cbf5 BK323
    go_wp2_with (first | ((with_reducible refine gate_callee (f := 42) rfl ?_); refine goesL_ (some 26) rfl rfl Try.func42 (by kernel_rfl) rfl #[.agg #[.slice A1_0 l1_0.length c1_0, .int .i64 a1_1, .int .i64 a1_2, .int .i64 a1_3, .slice A1_4 l1_4.length c1_4]] rfl z2 ?_; (with_reducible refine (spec_l21Copy.calls _ _ l1_0 a1_1 a1_2 a1_3 _ _ l1_4 t327 t330 t331 t332 t333 _ ?side1 ?side2 ?side3 ?side4 A22.out).mono ?_); (case side1 => repeat (first | exact (Kd.C_below HR1_0.out HB.out) | (with_reducible refine Kd.C_alloc ?_ _) | (with_reducible refine Kd.C_drewN ?_ _) | (with_reducible refine Kd.C_drew ?_))); (case side2 => exact HC1_0.out); (case side3 => repeat (first | exact (Kd.C_below HR1_4.out HB.out) | (with_reducible refine Kd.C_alloc ?_ _) | (with_reducible refine Kd.C_drewN ?_ _) | (with_reducible refine Kd.C_drew ?_))); (case side4 => exact HC1_4.out); rintro e w26 ⟨v328, v334, rfl, ho0, ho1, hb⟩; refine ⟨_, rfl, ?_⟩; have HO329 := Aside0.mk (Kd.R_lower ho0 (below_size z15)); have HO335 := Aside0.mk (Kd.R_lower ho1 (below_size z15)); replace BK323 := Aside0.mk (blk_below (g := gb323) (o := .cells #[.slice A1_0 l1_0.length c1_0, .int .i64 a1_1, .int .i64 a1_2, .int .i64 a1_3, .slice A1_4 l1_4.length c1_4] 29 (0, 0)) z25 hb); replace BK324 := Aside0.mk (blk_below (g := gb324) (o := .cells #[.slice none 0 0, .int .i64 0, .int .i64 0, .int .i64 0, .slice none 0 0] 29 (0, 0)) z43 hb); replace HB := Aside0.mk (below_step z15 hb); (try clear hb); (try clear hb2); (try clear hk); (try clear hi); (try clear ho0); (try clear ho1); obtain ⟨Ao27, co27, eo27⟩ := Kd.R_slice HO329.out; subst eo27; obtain ⟨Ao28, co28, eo28⟩ := Kd.R_slice HO335.out; subst eo28) | ((with_reducible refine gate_callee (f := 58) rfl ?_); refine goesL_ (some 30) rfl rfl Try.func58 (by kernel_rfl) rfl #[.slice A0 l0.length c0, .agg #[.slice Ao27 t327.length co27, .int .i64 t330, .int .i64 t331, .int .i64 t332, .slice Ao28 t333.length co28], .int .i64 a2, .int .i64 a3, .bool a4] rfl z2 ?_; (with_reducible refine (spec_l21Try.calls kj5 _ _ l0 (fun k_ => some k_ = (.slice Ao27 t327.length co27 : Value).ownBlock) (.slice Ao27 t327.length co27) t327 t330 t331 t332 (fun k_ => some k_ = (.slice Ao28 t333.length co28 : Value).ownBlock) (.slice Ao28 t333.length co28) t333 a2 a3 a4 t336 t339 t340 t341 t342 t345 w _ ?side1 ?side2 ?side3 ?side4 ?side5 A23.out).mono ?_); (case side1 => repeat (first | (with_reducible first | exact HB.out | apply below_alloc | apply pw_below_drewN | apply below_drew1 | refine below_set ?_ GE323.out | refine below_set ?_ GE324.out) | exact HB.out)); (case side2 => exact Kd.C_kept_came k69_heap HR0.out z15 (fun k_ hs_ => Or.elim hs_ (fun e_ => (fun e_ => Kd.R_base HO329.out k_ e_.symm) e_) (fun e_ => (fun e_ => Kd.R_base HO335.out k_ e_.symm) e_))); (case side3 => exact HC0.out); (case side4 => exact Kd.R_tight rfl HO329.out); (case side5 => exact Kd.R_tight rfl HO335.out); rintro e w29 ⟨v337, v343, rfl, ho0, ho1, hb, hkp⟩; refine ⟨_, rfl, ?_⟩; have n0_ := Aside0.mk (blk_kept z25 hkp (fun hs_ => Or.elim hs_ (fun e_ => (fun e_ => (Kd.R_ne HO329.out BK323.out (by decide)) e_) e_) (fun e_ => (fun e_ => (Kd.R_ne HO335.out BK323.out (by decide)) e_) e_))); have n1_ := Aside0.mk (blk_kept z43 hkp (fun hs_ => Or.elim hs_ (fun e_ => (fun e_ => (Kd.R_ne HO329.out BK324.out (by decide)) e_) e_) (fun e_ => (fun e_ => (Kd.R_ne HO335.out BK324.out (by decide)) e_) e_))); have n2_ := Aside0.mk (Kd.R_mono (ok' := fun k_ => True) ho0 (fun k_ hk_ => trivial)); have n3_ := Aside0.mk (Kd.R_mono (ok' := fun k_ => True) ho1 (fun k_ hk_ => trivial)); have n4_ := Aside0.mk (hb); clear BK323; clear BK324; clear HB; clear HO329; clear HO335; have BK323 := n0_; have BK324 := n1_; have HO338 := n2_; have HO344 := n3_; have HB := n4_; clear n0_ n1_ n2_ n3_ n4_; (try clear hb); (try clear hkp); (try clear ho0); (try clear ho1); obtain ⟨Ao30, co30, eo30⟩ := Kd.R_slice HO338.out; subst eo30; obtain ⟨hcz31_0, hcz31_1, hcz31_2, hcz31_3, hcz31_4, hfz31_0, hfz31_1, hfz31_2, hfz31_3, hfz31_4⟩ := cbf5 BK324; obtain ⟨Ao32, co32, eo32⟩ := Kd.R_slice HO344.out; subst eo32))
    refine bodyPost_ret (results_ct rfl _ _ gb324 29 #[.slice Ao30 t336.length co30, .int .i64 t339, .int .i64 t340, .int .i64 t341, .slice Ao32 t342.length co32] (0, 0) _ rfl (by (with_reducible repeat (first | refine blk_drewN ?_ _ | refine blk_drew ?_ | refine blk_alloc ?_ _)); refine blk_put (cs := #[.slice Ao30 t336.length co30, .int .i64 t339, .int .i64 t340, .int .i64 t341, .slice none 0 0]) ?_ 4 _ rfl; (with_reducible repeat (first | refine blk_drewN ?_ _ | refine blk_drew ?_ | refine blk_alloc ?_ _)); refine blk_put (cs := #[.slice Ao30 t336.length co30, .int .i64 t339, .int .i64 t340, .int .i64 0, .slice none 0 0]) ?_ 3 _ rfl; (with_reducible repeat (first | refine blk_drewN ?_ _ | refine blk_drew ?_ | refine blk_alloc ?_ _)); refine blk_put (cs := #[.slice Ao30 t336.length co30, .int .i64 t339, .int .i64 0, .int .i64 0, .slice none 0 0]) ?_ 2 _ rfl; (with_reducible repeat (first | refine blk_drewN ?_ _ | refine blk_drew ?_ | refine blk_alloc ?_ _)); refine blk_put (cs := #[.slice Ao30 t336.length co30, .int .i64 0, .int .i64 0, .int .i64 0, .slice none 0 0]) ?_ 1 _ rfl; (with_reducible repeat (first | refine blk_drewN ?_ _ | refine blk_drew ?_ | refine blk_alloc ?_ _)); refine blk_put (cs := #[.slice none 0 0, .int .i64 0, .int .i64 0, .int .i64 0, .slice none 0 0]) ?_ 0 _ rfl; (with_reducible repeat (first | refine blk_drewN ?_ _ | refine blk_drew ?_ | refine blk_alloc ?_ _)); exact BK324.out) Try.underlying29 rfl (by kernel_rfl)) rfl ?_
    exact ⟨_, _, by first | rfl | (simp [errW_none, errW_some] <;> rfl) | (simp [*, errW_none, errW_some] <;> rfl), by (with_reducible repeat (first | apply Kd.R_alloc | apply Kd.R_drewN | apply Kd.R_drew)); exact Kd.R_mono (Kd.R_far (p := ⟨gb324, 4, none⟩) (Kd.R_far (p := ⟨gb324, 3, none⟩) (Kd.R_far (p := ⟨gb324, 2, none⟩) (Kd.R_far (p := ⟨gb324, 1, none⟩) (Kd.R_far (p := ⟨gb324, 0, none⟩) (Kd.R_types HO338.out BK324.out (by decide)) (fun _ hk => hk.2) (.slice Ao30 t336.length co30)) (fun _ hk => hk.2) (.int .i64 t339)) (fun _ hk => hk.2) (.int .i64 t340)) (fun _ hk => hk.2) (.int .i64 t341)) (fun _ hk => hk.2) (.slice Ao32 t342.length co32)) (fun _ hk => trivial), by (with_reducible repeat (first | apply Kd.R_alloc | apply Kd.R_drewN | apply Kd.R_drew)); exact Kd.R_mono (Kd.R_far (p := ⟨gb324, 4, none⟩) (Kd.R_far (p := ⟨gb324, 3, none⟩) (Kd.R_far (p := ⟨gb324, 2, none⟩) (Kd.R_far (p := ⟨gb324, 1, none⟩) (Kd.R_far (p := ⟨gb324, 0, none⟩) (Kd.R_types HO344.out BK324.out (by decide)) (fun _ hk => hk.2) (.slice Ao30 t336.length co30)) (fun _ hk => hk.2) (.int .i64 t339)) (fun _ hk => hk.2) (.int .i64 t340)) (fun _ hk => hk.2) (.int .i64 t341)) (fun _ hk => hk.2) (.slice Ao32 t342.length co32)) (fun _ hk => trivial), by repeat (first | (with_reducible first | exact HB.out | apply below_alloc | apply pw_below_drewN | apply below_drew1 | refine below_set ?_ GE323.out | refine below_set ?_ GE324.out) | exact HB.out)⟩
end Go.Proofs.Ytmniglgahodghaa.K
namespace Go.Proofs.Ytmniglgahodghaa.K
open Go.RowKit Go.Proofs.YtmniglgahodghaaW.PrintWords Go.Proofs.YtmniglgahodghaaW.PrintLast Go.Proofs.YtmniglgahodghaaW.PrintMore
attribute [local go_sem] max2_int min2_int max_two min_two max_three min_three max_four min_four
set_option linter.unusedVariables false
set_option linter.unusedSimpArgs false
def kndV (t : Int) : Value :=
 if t = 0 then .iface 148 (.agg #[])
 else if t = 1 then .iface 143 (.agg #[])
 else if t = 2 then .iface 149 (.agg #[])
 else if t = 3 then .iface 145 (.agg #[.bool false])
 else if t = 4 then .iface 145 (.agg #[.bool true])
 else .iface 147 (.agg #[.int .i64 (t - 8)])
def kv (t : Int) : Prop := (0 ≤ t ∧ t ≤ 4) ∨ 8 ≤ t
def kOk (n t : Int) : Bool := decide ((0 ≤ t ∧ t ≤ 4) ∨ (8 ≤ t ∧ t < 8 + n))
def kndO (n t : Int) : Value := if kOk n t = true then kndV t else .nilIface
theorem kv_cases {t : Int} (h : kv t) : t = 0 ∨ t = 1 ∨ t = 2 ∨ t = 3 ∨ t = 4 ∨ 8 ≤ t := by unfold kv at h; omega
theorem kndV_cls {t : Int} (h : 8 ≤ t) : kndV t = .iface 147 (.agg #[.int .i64 (t - 8)]) := by
  unfold kndV
  rw [if_neg (by omega), if_neg (by omega), if_neg (by omega), if_neg (by omega), if_neg (by omega)]
theorem kind_int {s : Int} (hs : kv s) (W : World) : (Instr.typeAssert (kndV s) 140 143 true).run Try.prog W = .ok (.tuple #[.agg #[], .bool (decide (s = 1))]) W := by
 rcases kv_cases hs with rfl | rfl | rfl | rfl | rfl | hs
 all_goals first
  | (rw [kndV_cls hs, decide_eq_false (by omega)]; kernel_rfl)
  | kernel_rfl
theorem kind_arr {s : Int} (hs : kv s) (W : World) : (Instr.typeAssert (kndV s) 140 145 true).run Try.prog W = .ok (.tuple #[.agg #[.bool (decide (s = 4))], .bool (decide (s = 3 ∨ s = 4))]) W := by
 rcases kv_cases hs with rfl | rfl | rfl | rfl | rfl | hs
 all_goals first
  | (rw [kndV_cls hs, decide_eq_false (p := s = 4) (by omega), decide_eq_false (by omega)]; kernel_rfl)
  | kernel_rfl
def clsOf (t : Int) : Int := if 8 ≤ t then t - 8 else 0
theorem kind_class {s : Int} (hs : kv s) (W : World) : (Instr.typeAssert (kndV s) 140 147 true).run Try.prog W = .ok (.tuple #[.agg #[.int .i64 (clsOf s)], .bool (decide (8 ≤ s))]) W := by
 rcases kv_cases hs with rfl | rfl | rfl | rfl | rfl | hs
 all_goals first
  | (rw [kndV_cls hs, decide_eq_true hs, show clsOf s = s - 8 from if_pos hs]; kernel_rfl)
  | kernel_rfl
theorem nil_int (W : World) : (Instr.typeAssert .nilIface 140 143 true).run Try.prog W = .ok (.tuple #[.agg #[], .bool false]) W := by kernel_rfl
theorem nil_arr (W : World) : (Instr.typeAssert .nilIface 140 145 true).run Try.prog W = .ok (.tuple #[.agg #[.bool false], .bool false]) W := by kernel_rfl
theorem nil_class (W : World) : (Instr.typeAssert .nilIface 140 147 true).run Try.prog W = .ok (.tuple #[.agg #[.int .i64 0], .bool false]) W := by kernel_rfl
set_option maxHeartbeats 2000000 in
theorem impl_kindOf.calls (a0 a1 : Int) (w : World) (h0 : 0 ≤ a0) (h1 : a0 ≤ 281474976710656) :
  Calls Try.prog 131 #[.int .i64 a0, .int .i64 a1] w fun e w' => e = .returned (kndO a0 a1) ∧ Drawn0 w w' := by
 by_cases c0 : a1 = 0
 ·subst c0
  have HF := Aside0.mk (show kndO a0 0 = kndV 0 from if_pos (by simp [kOk]))
  go_enter Try.func131, Try.ntmps131
  go_wp2
  go_ret
  exact ⟨by rw [HF.out]; rfl, Drawn0.refl _⟩
 by_cases c1 : a1 = 1
 ·subst c1
  have HF := Aside0.mk (show kndO a0 1 = kndV 1 from if_pos (by simp [kOk]))
  go_enter Try.func131, Try.ntmps131
  go_wp2
  go_ret
  exact ⟨by rw [HF.out]; rfl, Drawn0.refl _⟩
 by_cases c2 : a1 = 2
 ·subst c2
  have HF := Aside0.mk (show kndO a0 2 = kndV 2 from if_pos (by simp [kOk]))
  go_enter Try.func131, Try.ntmps131
  go_wp2
  go_ret
  exact ⟨by rw [HF.out]; rfl, Drawn0.refl _⟩
 by_cases c3 : a1 = 3
 ·subst c3
  have HF := Aside0.mk (show kndO a0 3 = kndV 3 from if_pos (by simp [kOk]))
  go_enter Try.func131, Try.ntmps131
  go_wp2
  go_ret
  exact ⟨by rw [HF.out]; rfl, Drawn0.refl _⟩
 by_cases c4 : a1 = 4
 ·subst c4
  have HF := Aside0.mk (show kndO a0 4 = kndV 4 from if_pos (by simp [kOk]))
  go_enter Try.func131, Try.ntmps131
  go_wp2
  go_ret
  exact ⟨by rw [HF.out]; rfl, Drawn0.refl _⟩
 have d0 : (a1 == 0) = false := beq_eq_false_iff_ne.2 c0
 have d1 : (a1 == 1) = false := beq_eq_false_iff_ne.2 c1
 have d2 : (a1 == 2) = false := beq_eq_false_iff_ne.2 c2
 have d3 : (a1 == 3) = false := beq_eq_false_iff_ne.2 c3
 have d4 : (a1 == 4) = false := beq_eq_false_iff_ne.2 c4
 by_cases c5 : 8 ≤ a1
 ·by_cases c6 : a1 < 8 + a0
  ·have HF := Aside0.mk (show kndO a0 a1 = .iface 147 (.agg #[.int .i64 (a1 - 8)]) from (if_pos (by simp [kOk]; omega)).trans (kndV_cls c5))
   have d5 : decide (8 ≤ a1) = true := decide_eq_true c5
   have d6 : decide (a1 < 8 + a0) = true := decide_eq_true c6
   clear c0 c1 c2 c3 c4
   go_enter Try.func131, Try.ntmps131
   go_wp2
   go_ret
   exact ⟨by rw [HF.out]; rfl, Drawn0.refl _⟩
  ·have HF := Aside0.mk (show kndO a0 a1 = .nilIface from if_neg (by simp [kOk]; omega))
   have d5 : decide (8 ≤ a1) = true := decide_eq_true c5
   have d6 : decide (a1 < 8 + a0) = false := decide_eq_false c6
   clear c0 c1 c2 c3 c4
   go_enter Try.func131, Try.ntmps131
   go_wp2
   go_ret
   exact ⟨by rw [HF.out]; rfl, Drawn0.refl _⟩
 ·have HF := Aside0.mk (show kndO a0 a1 = .nilIface from if_neg (by simp [kOk]; omega))
  have d5 : decide (8 ≤ a1) = false := decide_eq_false c5
  clear c0 c1 c2 c3 c4
  go_enter Try.func131, Try.ntmps131
  go_wp2
  go_ret
  exact ⟨by rw [HF.out]; rfl, Drawn0.refl _⟩
def kOkF.f (n t : Int) : Option Bool := if 0 ≤ n ∧ n ≤ 281474976710656 then some (kOk n t) else none
end Go.Proofs.Ytmniglgahodghaa.K
namespace Go.Proofs.Ytmniglgahodghaa.K
open Go.RowKit Go.Proofs.YtmniglgahodghaaW.PrintWords Go.Proofs.YtmniglgahodghaaW.PrintLast Go.Proofs.YtmniglgahodghaaW.PrintMore
attribute [local go_sem] max2_int min2_int max_two min_two max_three min_three max_four min_four
set_option linter.unusedVariables false
set_option linter.unusedSimpArgs false
def impl_fieldType.f (a0 a1 : Int) : Option Bool := if 0 ≤ a0 ∧ a0 ≤ 281474976710656 then some (kOk a0 a1 && decide (a1 = 1 ∨ a1 = 3 ∨ a1 = 4 ∨ 8 ≤ a1)) else none
set_option maxHeartbeats 2000000 in
theorem impl_fieldType.calls (a0 : Int) (a1 : Int) (r : Bool) (w : World) (h : impl_fieldType.f a0 a1 = some r) :
  Calls Try.prog 112 #[.int .i64 a0, .int .i64 a1] w fun e w' => e = .returned (.bool r) ∧ Drawn0 w w' := by
 unfold impl_fieldType.f at h
 split at h
 case isFalse => simp at h
 case isTrue hb =>
  obtain ⟨h0, h1⟩ := hb
  have HR := Aside0.mk (Option.some.inj h)
  clear h
  by_cases hk : kOk a0 a1 = true
  ·have hv : kv a1 := by simp [kOk] at hk; unfold kv; omega
   have HO := Aside0.mk (show kndO a0 a1 = kndV a1 from if_pos hk)
   have t1 := kind_int hv
   have t2 := kind_arr hv
   have t3 := kind_class hv
   have HK := Aside0.mk hk
   clear hk hv
   go_enter Try.func112, Try.ntmps112
   go_wp2_with (go_at_call 131; refine (impl_kindOf.calls a0 a1 _ h0 h1).mono ?_; rintro e w' ⟨rfl, ⟨n, rfl⟩⟩; rw [HO.out])
   ·go_ret
    exact ⟨by show Ending.returned (.bool true) = _; rw [← HR.out, HK.out, decide_eq_true (by omega)]; rfl, Drawn0.step (Drawn0.refl _) _⟩
   ·go_ret
    exact ⟨by show Ending.returned (.bool false) = _; rw [← HR.out, HK.out, decide_eq_false (by omega)]; rfl, Drawn0.step (Drawn0.refl _) _⟩
  ·have HO := Aside0.mk (show kndO a0 a1 = .nilIface from if_neg hk)
   have HK := Aside0.mk (Bool.not_eq_true _ |>.mp hk)
   have t1 := nil_int
   have t2 := nil_arr
   have t3 := nil_class
   clear hk
   go_enter Try.func112, Try.ntmps112
   go_wp2_with (go_at_call 131; refine (impl_kindOf.calls a0 a1 _ h0 h1).mono ?_; rintro e w' ⟨rfl, ⟨n, rfl⟩⟩; rw [HO.out])
   go_ret
   exact ⟨by show Ending.returned (.bool false) = _; rw [← HR.out, HK.out]; rfl, Drawn0.step (Drawn0.refl _) _⟩
end Go.Proofs.Ytmniglgahodghaa.K
