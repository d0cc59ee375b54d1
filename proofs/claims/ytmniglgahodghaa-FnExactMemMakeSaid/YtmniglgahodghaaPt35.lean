import Derived.Test.YtmniglgahodghaaPt24
import Derived.Test.YtmniglgahodghaaPt25
import Derived.Test.YtmniglgahodghaaPt29
import Derived.Test.YtmniglgahodghaaPt34
import Derived.Deep.Slices
import Derived.Deep.Fields
import Derived.ChangeSame
import Derived.ProofKit
import Derived.OpenShut
import Derived.ShutString
import Derived.ChangeOld
import Derived.SizedLaws
import Derived.Test.YtmniglgahodghaaPt31
import Derived.Test.YtmniglgahodghaaPt26
import Derived.Test.YtmniglgahodghaaPt32
namespace Go.Proofs.Ytmniglgahodghaa.K
open Go.RowKit Go.Proofs.YtmniglgahodghaaW.PrintWords Go.Proofs.YtmniglgahodghaaW.PrintLast Go.Proofs.YtmniglgahodghaaW.PrintMore
attribute [local go_sem] max2_int min2_int max_two min_two max_three min_three max_four min_four
set_option linter.unusedVariables false
set_option linter.unusedSimpArgs false
open Classical in
noncomputable def laws_FnExactMemMake.f (k : Nat) (l0 : List (S56)) (l1_0 : List Int) (a1_1 : Int) (a1_2 : Int) (a1_3 : Int) (l1_4 : List Bool) (a2 : Int) (a3 : Int) (a4 : Bool) : Option (Bool) :=
 (laws_szClassS.f k l0 1048576).bind fun t => if t < 0 then some true else (laws_szMem.f l1_0 a1_1 a1_2 a1_3 l1_4 t).bind fun t2 => if t2 < 0 then some true else
 (laws_toClassS.f k l0).bind fun cs => (laws_toMem.f k l1_0 a1_1 a1_2 a1_3 l1_4).bind fun M => if M = (l1_0, a1_1, a1_2, a1_3, l1_4) ∧ cs.length ≤ 1048576 then
 (spec_MemMake.f k cs l1_0 a1_1 a1_2 a1_3 l1_4 a2 a3 a4).bind fun w_ => (impl_MemMake.f k cs l1_0 a1_1 a1_2 a1_3 l1_4 a2 a3 a4).bind fun v_ =>
 (laws_eqMem.f k w_.1 w_.2.1 w_.2.2.1 w_.2.2.2.1 w_.2.2.2.2.1 w_.1 w_.2.1 w_.2.2.1 w_.2.2.2.1 w_.2.2.2.2.1).bind fun e0 =>
 (laws_eqClassS.f k cs cs).bind fun ec =>
 (laws_eqMem.f k l1_0 a1_1 a1_2 a1_3 l1_4 l1_0 a1_1 a1_2 a1_3 l1_4).bind fun em =>
 (mcs k cs 1).bind fun k1 =>
 (laws_markMem.f k l1_0 a1_1 a1_2 a1_3 l1_4 k1).bind fun km =>
 (laws_markMem.f k w_.1 w_.2.1 w_.2.2.1 w_.2.2.2.1 w_.2.2.2.2.1 1).bind fun m0 =>
 (laws_heldMem.f k m0.2.1 w_.2.1 w_.2.2.1 w_.2.2.2.1 m0.2.2 1).bind fun q0 =>
 if w_ = v_ ∧ (e0 = true ∧ ec = true ∧ em = true) ∧ 0 ≤ km.1 ∧ q0 = m0.1 ∧ 0 ≤ q0 then some true else none
 else none
set_option maxHeartbeats 64000000 in
set_option maxRecDepth 100000 in
theorem laws_FnExactMemMake.calls (k : Nat) (A0 : Option Addr) (c0 : Nat) (l0 : List (S56)) (A1_0 : Option Addr) (c1_0 : Nat) (l1_0 : List Int) (a1_1 : Int) (a1_2 : Int) (a1_3 : Int) (A1_4 : Option Addr) (c1_4 : Nat) (l1_4 : List Bool) (a2 : Int) (a3 : Int) (a4 : Bool) (r : Bool) (w : World) (hr_ : Aside0 (r = true)) (hr0 : Kd.C k56 w A0 l0.length l0) (hc0 : l0.length ≤ c0) (hr1_0 : Kd.C (Kd.int .i64) w A1_0 l1_0.length l1_0) (hc1_0 : l1_0.length ≤ c1_0) (hr1_4 : Kd.C Kd.bool w A1_4 l1_4.length l1_4) (hc1_4 : l1_4.length ≤ c1_4) (h : laws_FnExactMemMake.f k l0 l1_0 a1_1 a1_2 a1_3 l1_4 a2 a3 a4 = some r) :
  Calls Try.prog 5 #[.slice A0 l0.length c0, .agg #[.slice A1_0 l1_0.length c1_0, .int .i64 a1_1, .int .i64 a1_2, .int .i64 a1_3, .slice A1_4 l1_4.length c1_4], .int .i64 a2, .int .i64 a3, .bool a4] w fun e w' => e = .returned (.bool r) ∧ Below w.heap.size w w' := by
 obtain rfl := hr_.out
 have HR0 := Aside0.mk hr0
 have HC0 := Aside0.mk hc0
 have HR1_0 := Aside0.mk hr1_0
 have HC1_0 := Aside0.mk hc1_0
 have HR1_4 := Aside0.mk hr1_4
 have HC1_4 := Aside0.mk hc1_4
 clear hr0 hc0 hr1_0 hc1_0 hr1_4 hc1_4 hr_
 have HB0 := Aside0.mk (below_alloc (Below.refl w.heap.size w) (.cells #[.slice A1_0 l1_0.length c1_0, .int .i64 a1_1, .int .i64 a1_2, .int .i64 a1_3, .slice A1_4 l1_4.length c1_4] 26 (0, 0)))
 have BM0 := Aside0.mk (blk_new w (.cells #[.slice A1_0 l1_0.length c1_0, .int .i64 a1_1, .int .i64 a1_2, .int .i64 a1_3, .slice A1_4 l1_4.length c1_4] 26 (0, 0)))
 unfold laws_FnExactMemMake.f at h
 obtain ⟨t, h1, h⟩ := Option.bind_eq_some_iff.mp h
 have H1 := Aside0.mk h1
 clear h1
 by_cases c1 : t < 0
 ·have d1 : decide (t < 0) = true := decide_eq_true c1
  go_enter Try.func5, Try.ntmps5
  go_wp2_with fail
  go_at_call 7
  refine (laws_szClassS.calls k A0 c0 l0 1048576 t _ (Kd.C_below HR0.out HB0.out) HC0.out H1.out).mono ?_
  rintro e w1 ⟨rfl, hb⟩
  have HB := Aside0.mk (below_step HB0.out hb)
  have BM := Aside0.mk ((hb.block _ (blk_lt BM0.out)).trans BM0.out)
  clear hb HB0 BM0
  go_wp2
  go_ret
  exact ⟨rfl, HB.out⟩
 rw [if_neg c1] at h
 have d1 : decide (t < 0) = false := decide_eq_false c1
 obtain ⟨t2, h2, h⟩ := Option.bind_eq_some_iff.mp h
 have H2 := Aside0.mk h2
 clear h2
 go_enter Try.func5, Try.ntmps5
 go_wp2_with fail
 go_at_call 7
 refine (laws_szClassS.calls k A0 c0 l0 1048576 t _ (Kd.C_below HR0.out HB0.out) HC0.out H1.out).mono ?_
 rintro e w1 ⟨rfl, hb⟩
 have HB := Aside0.mk (below_step HB0.out hb)
 have BM := Aside0.mk ((hb.block _ (blk_lt BM0.out)).trans BM0.out)
 clear hb HB0 BM0
 have mc0 := (blk_cell BM.out 0).trans rfl; have mc1 := (blk_cell BM.out 1).trans rfl; have mc2 := (blk_cell BM.out 2).trans rfl; have mc3 := (blk_cell BM.out 3).trans rfl; have mc4 := (blk_cell BM.out 4).trans rfl
 go_wp2_with fail
 go_at_call 8
 refine (laws_szMem.calls A1_0 c1_0 l1_0 a1_1 a1_2 a1_3 A1_4 c1_4 l1_4 t t2 _ (Kd.C_below HR1_0.out HB.out) HC1_0.out (Kd.C_below HR1_4.out HB.out) HC1_4.out H2.out).mono ?_
 rintro e w2 ⟨rfl, hb⟩
 clear mc0 mc1 mc2 mc3 mc4
 replace HB := Aside0.mk (below_step HB.out hb)
 replace BM := Aside0.mk ((hb.block _ (blk_lt BM.out)).trans BM.out)
 clear hb
 by_cases c2 : t2 < 0
 ·have d2 : decide (t2 < 0) = true := decide_eq_true c2
  go_wp2
  go_ret
  exact ⟨rfl, HB.out⟩
 rw [if_neg c2] at h
 have d2 : decide (t2 < 0) = false := decide_eq_false c2
 obtain ⟨cs, h3, h⟩ := Option.bind_eq_some_iff.mp h
 have H3 := Aside0.mk h3
 obtain ⟨M, h4, h⟩ := Option.bind_eq_some_iff.mp h
 split at h
 case isFalse => simp at h
 case isTrue hM =>
 obtain ⟨rfl, hcl⟩ := hM
 have H4 := Aside0.mk h4
 have HCL := Aside0.mk hcl
 obtain ⟨⟨r0_0, r0_1, r0_2, r0_3, r0_4, r1⟩, h5, h⟩ := Option.bind_eq_some_iff.mp h
 have H5 := Aside0.mk h5
 obtain ⟨v_, h6, h⟩ := Option.bind_eq_some_iff.mp h
 obtain ⟨e0, he0, h⟩ := Option.bind_eq_some_iff.mp h
 obtain ⟨ec, hec, h⟩ := Option.bind_eq_some_iff.mp h
 obtain ⟨em, hem, h⟩ := Option.bind_eq_some_iff.mp h
 obtain ⟨k1, hk1, h⟩ := Option.bind_eq_some_iff.mp h
 obtain ⟨⟨k2, y0, y1⟩, hkm, h⟩ := Option.bind_eq_some_iff.mp h
 obtain ⟨⟨m0, u0_0, u0_4⟩, hm0, h⟩ := Option.bind_eq_some_iff.mp h
 obtain ⟨q0, hq0, h⟩ := Option.bind_eq_some_iff.mp h
 split at h
 case isFalse => simp at h
 case isTrue hE =>
 obtain ⟨rfl, ⟨rfl, rfl, rfl⟩, hk2, hq, h0q0⟩ := hE
 dsimp only at hk2 hq h0q0 h6 he0 hec hem hk1 hkm hm0 hq0
 subst hq
 have H6 := Aside0.mk h6
 have He0 := Aside0.mk he0
 have Hec := Aside0.mk hec
 have Hem := Aside0.mk hem
 have Hk1 := Aside0.mk hk1
 have Hkm := Aside0.mk hkm
 have Hm0 := Aside0.mk hm0
 have Hq0 := Aside0.mk hq0
 have dk : decide (k2 < 0) = false := decide_eq_false (by omega)
 have dq0 : decide (q0 < 0) = false := decide_eq_false (by omega)
 have dn : (q0 != q0) = false := by simp
 have dr1 : (r1 != r1) = false := by simp
 clear h h3 h4 h5 h6 he0 hec hem hk1 hkm hm0 hq0 hcl hk2 h0q0 c1 c2
 have mc0 := (blk_cell BM.out 0).trans rfl; have mc1 := (blk_cell BM.out 1).trans rfl; have mc2 := (blk_cell BM.out 2).trans rfl; have mc3 := (blk_cell BM.out 3).trans rfl; have mc4 := (blk_cell BM.out 4).trans rfl
 go_wp2
 refine start_ (n := 14) (S := fun w' => Aside0 (Below w2.heap.size w2 w') ∧ w'.cell? (⟨w.heap.size, 0, none⟩) = some (.slice A1_0 l1_0.length c1_0) ∧ w'.cell? (⟨w.heap.size, 1, none⟩) = some (.int .i64 a1_1) ∧ w'.cell? (⟨w.heap.size, 2, none⟩) = some (.int .i64 a1_2) ∧ w'.cell? (⟨w.heap.size, 3, none⟩) = some (.int .i64 a1_3) ∧ w'.cell? (⟨w.heap.size, 4, none⟩) = some (.slice A1_4 l1_4.length c1_4)) (ds := [12]) #[false, false, false, false, false, false, false, false, false, false, false, false, false, false] (by kernel_rfl) rfl rfl ⟨⟨below_drew1 (Below.refl _ _)⟩, (by go_simp), (by go_simp), (by go_simp), (by go_simp), (by go_simp)⟩ (fun hHeld => ?_)
 generalize w2.drew = Wd at hHeld ⊢
 refine pS 0 34 (lA 14 1) ?_
 refine pS 4 38 (lA 14 17) ?_
 refine pS 5 39 (lA 14 49) ?_
 refine pS 6 40 (lA 14 113) ?_
 refine tS 2 36 (lA 14 117) rfl rfl (by kernel_rfl) hHeld z4 ?_
 refine join_ (σ := Value × Value × Option Addr × Nat × Option Addr × Nat × Nat) 2 (lA 14 4095) (fun s => [(35, s.1), (37, s.2.1), (41, .tuple #[.agg #[.slice s.2.2.1 r0_0.length s.2.2.2.1, .int .i64 r0_1, .int .i64 r0_2, .int .i64 r0_3, .slice s.2.2.2.2.1 r0_4.length s.2.2.2.2.2.1], .int .i64 r1]), (12, .pointer (some ⟨s.2.2.2.2.2.2, 0, none⟩)), (33, .tuple #[.agg #[.slice s.2.2.1 r0_0.length s.2.2.2.1, .int .i64 r0_1, .int .i64 r0_2, .int .i64 r0_3, .slice s.2.2.2.2.1 r0_4.length s.2.2.2.2.2.1], .int .i64 r1]), (42, .agg #[.slice s.2.2.1 r0_0.length s.2.2.2.1, .int .i64 r0_1, .int .i64 r0_2, .int .i64 r0_3, .slice s.2.2.2.2.1 r0_4.length s.2.2.2.2.2.1]), (43, .int .i64 r1)]) (fun s w' => Kd.R (Kd.int .i64) 3 w' w.heap.size (fun k_ => k_ ≠ s.2.2.2.2.2.2) (.slice s.2.2.1 r0_0.length s.2.2.2.1) r0_0 ∧ Kd.R Kd.bool 4 w' w.heap.size (fun k_ => k_ ≠ s.2.2.2.2.2.2) (.slice s.2.2.2.2.1 r0_4.length s.2.2.2.2.2.1) r0_4 ∧ w'.heap[s.2.2.2.2.2.2]? = some (.cells #[.slice none 0 0, .int .i64 0, .int .i64 0, .int .i64 0, .slice none 0 0] 29 (0, 0)) ∧ w2.heap.size ≤ s.2.2.2.2.2.2 ∧ (Aside0 (Below w2.heap.size w2 w') ∧ w'.cell? (⟨w.heap.size, 0, none⟩) = some (.slice A1_0 l1_0.length c1_0) ∧ w'.cell? (⟨w.heap.size, 1, none⟩) = some (.int .i64 a1_1) ∧ w'.cell? (⟨w.heap.size, 2, none⟩) = some (.int .i64 a1_2) ∧ w'.cell? (⟨w.heap.size, 3, none⟩) = some (.int .i64 a1_3) ∧ w'.cell? (⟨w.heap.size, 4, none⟩) = some (.slice A1_4 l1_4.length c1_4))) ?_ ?_
 rotate_left
 ·intro hCont
  refine two_ (i := 1) (j := 11) (Ni := some 35) (Nj := some 12) (lA 14 119) (lA 14 2165) rfl rfl rfl rfl (by kernel_rfl) (by decide) (by decide) (fun K hK => ?_) (fun K hK => ?_)
  ·skip
   refine goes_ Try.func10 (by kernel_rfl) rfl #[.slice A0 l0.length c0] (by rfl) rfl rfl z5 ?_
   with_reducible refine (laws_toClassS.calls k A0 c0 l0 cs _ (Kd.C_below HR0.out (below_step HB.out hHeld.1.out)) HC0.out H3.out).mono ?_
   rintro e wa ⟨vc, rfl, hc, hba⟩
   have HVC := Aside0.mk hc
   obtain ⟨AVC, cVC, rfl⟩ := Kd.S_slice hc
   refine ⟨_, rfl, ?_⟩
   refine hK.out _ _ ⟨⟨below_step hHeld.1.out hba⟩, (pw_cell_below hba hHeld.2.1), (pw_cell_below hba hHeld.2.2.1), (pw_cell_below hba hHeld.2.2.2.1), (pw_cell_below hba hHeld.2.2.2.2.1), (pw_cell_below hba hHeld.2.2.2.2.2)⟩ (fun hHeld => ?_)
   clear hK K
   refine norm_ (a' := ?_) ?_ ?_
   rotate_left
   ·show Act.put _ (some 35) _ = _
    simp only [Act.put, lA1, lA2, lA3, i64_w, i32_w]
    rfl
   refine two_ (i := 3) (j := 11) (Ni := some 37) (Nj := some 12) (lA 14 127) (lA 14 2167) rfl rfl rfl rfl (by kernel_rfl) (by decide) (by decide) (fun K hK => ?_) (fun K hK => ?_)
   ·skip
    refine goes_ Try.func11 (by kernel_rfl) rfl #[.agg #[.slice A1_0 l1_0.length c1_0, .int .i64 a1_1, .int .i64 a1_2, .int .i64 a1_3, .slice A1_4 l1_4.length c1_4]] (by rfl) rfl rfl z5 ?_
    with_reducible refine (laws_toMem.calls k A1_0 c1_0 l1_0 a1_1 a1_2 a1_3 A1_4 c1_4 l1_4 l1_0 a1_1 a1_2 a1_3 l1_4 _ (Kd.C_below HR1_0.out (below_step HB.out hHeld.1.out)) HC1_0.out (Kd.C_below HR1_4.out (below_step HB.out hHeld.1.out)) HC1_4.out H4.out).mono ?_
    rintro e wb ⟨vm, vn, rfl, hm_, hn_, hbb⟩
    have HVM := Aside0.mk hm_
    have HVN := Aside0.mk hn_
    have HBB := Aside0.mk hbb
    obtain ⟨AVM, cVM, rfl⟩ := Kd.R_slice hm_
    obtain ⟨AVN, cVN, rfl⟩ := Kd.R_slice hn_
    refine ⟨_, rfl, ?_⟩
    refine hK.out _ _ ⟨⟨below_step hHeld.1.out hbb⟩, (pw_cell_below hbb hHeld.2.1), (pw_cell_below hbb hHeld.2.2.1), (pw_cell_below hbb hHeld.2.2.2.1), (pw_cell_below hbb hHeld.2.2.2.2.1), (pw_cell_below hbb hHeld.2.2.2.2.2)⟩ (fun hHeld => ?_)
    clear hK K
    refine norm_ (a' := ?_) ?_ ?_
    rotate_left
    ·show Act.put _ (some 37) _ = _
     simp only [Act.put, lA1, lA2, lA3, i64_w, i32_w]
     rfl
    refine two_ (i := 7) (j := 11) (Ni := some 41) (Nj := some 12) (lA 14 255) (lA 14 2175) rfl rfl rfl rfl (by kernel_rfl) (by decide) (by decide) (fun K hK => ?_) (fun K hK => ?_)
    ·skip
     refine goes_ Try.func23 (by kernel_rfl) rfl #[.slice AVC cs.length cVC, .agg #[.slice AVM l1_0.length cVM, .int .i64 a1_1, .int .i64 a1_2, .int .i64 a1_3, .slice AVN l1_4.length cVN], .int .i64 a2, .int .i64 a3, .bool a4] (by rfl) rfl rfl z5 ?_
     with_reducible refine (spec_MemMake.calls k AVC cVC cs AVM cVM l1_0 a1_1 a1_2 a1_3 AVN cVN l1_4 a2 a3 a4 r0_0 r0_1 r0_2 r0_3 r0_4 r1 _ (Kd.C_below (Kd.R_reads' (Kd.S_R HVC.out)).2.2 HBB.out) (Kd.R_reads' (Kd.S_R HVC.out)).2.1 (Kd.C_below (Kd.R_reads' HVM.out).2.2 (Below.refl _ _)) (Kd.R_reads' HVM.out).2.1 (Kd.C_below (Kd.R_reads' HVN.out).2.2 (Below.refl _ _)) (Kd.R_reads' HVN.out).2.1 H5.out).mono ?_
     rintro e wc ⟨vw0_0, vw0_4, rfl, hv0_0, hv0_4, hbc⟩
     have HVw0_0 := Aside0.mk hv0_0
     have HVw0_4 := Aside0.mk hv0_4
     obtain ⟨AV0_0, cV0_0, ev0⟩ := Kd.R_slice hv0_0
     subst ev0
     obtain ⟨AV0_4, cV0_4, ev4⟩ := Kd.R_slice hv0_4
     subst ev4
     have HWB := Aside0.mk (below_size (below_step HB.out hHeld.1.out))
     have HWc := Aside0.mk (below_step hHeld.1.out hbc)
     refine ⟨_, rfl, ?_⟩
     refine hK.out _ _ ⟨⟨below_step hHeld.1.out hbc⟩, (pw_cell_below hbc hHeld.2.1), (pw_cell_below hbc hHeld.2.2.1), (pw_cell_below hbc hHeld.2.2.2.1), (pw_cell_below hbc hHeld.2.2.2.2.1), (pw_cell_below hbc hHeld.2.2.2.2.2)⟩ (fun hHeld => ?_)
     clear hK K
     refine norm_ (a' := ?_) ?_ ?_
     rotate_left
     ·show Act.put _ (some 41) _ = _
      simp only [Act.put, lA1, lA2, lA3, i64_w, i32_w]
      rfl
     refine pS 8 33 (lA 14 511) ?_
     refine pS 9 42 (lA 14 1023) ?_
     refine pS 10 43 (lA 14 2047) ?_
     refine one_ (i := 11) (N := some 12) (lA 14 4095) rfl rfl (by kernel_rfl) (by decide) (fun K hK => ?_)
     have hgX := hHeld.1.out.size
     refine value_ (w1 := ?_) (v := ?_) (by rfl) rfl ?_ ?_
     rotate_left 2
     ·go_simp
      constructor
      ·rfl
      ·rfl
     refine hK.out _ _ ⟨⟨below_alloc hHeld.1.out _⟩, (pw_cell_below (below_alloc (Below.refl _ _) _) hHeld.2.1), (pw_cell_below (below_alloc (Below.refl _ _) _) hHeld.2.2.1), (pw_cell_below (below_alloc (Below.refl _ _) _) hHeld.2.2.2.1), (pw_cell_below (below_alloc (Below.refl _ _) _) hHeld.2.2.2.2.1), (pw_cell_below (below_alloc (Below.refl _ _) _) hHeld.2.2.2.2.2)⟩ (fun hHeld => ?_)
     clear hK K
     refine norm_ (a' := ?_) ?_ ?_
     rotate_left
     ·show Act.put _ (some 12) _ = _
      simp only [Act.put, lA1, lA2, lA3, i64_w, i32_w]
      rfl
     exact norm_ z32 (hCont (.slice AVC cs.length cVC, .agg #[.slice AVM l1_0.length cVM, .int .i64 a1_1, .int .i64 a1_2, .int .i64 a1_3, .slice AVN l1_4.length cVN], AV0_0, cV0_0, AV0_4, cV0_4, wc.heap.size) _ ⟨(Kd.R_below (Kd.R_lower (Kd.R_mono (Kd.R_bound HVw0_0.out) (fun k_ hk_ => by have h_ := hk_.2.2.1; show k_ ≠ wc.heap.size; omega)) HWB.out) (below_alloc (Below.refl wc.heap.size wc) _)), (Kd.R_below (Kd.R_lower (Kd.R_mono (Kd.R_bound HVw0_4.out) (fun k_ hk_ => by have h_ := hk_.2.2.1; show k_ ≠ wc.heap.size; omega)) HWB.out) (below_alloc (Below.refl wc.heap.size wc) _)), blk_new wc _, hgX, hHeld⟩)
    ·skip
     have hgX := hHeld.1.out.size
     refine value_ (w1 := ?_) (v := ?_) (by rfl) rfl ?_ ?_
     rotate_left 2
     ·go_simp
      constructor
      ·rfl
      ·rfl
     refine hK.out _ _ ⟨⟨below_alloc hHeld.1.out _⟩, (pw_cell_below (below_alloc (Below.refl _ _) _) hHeld.2.1), (pw_cell_below (below_alloc (Below.refl _ _) _) hHeld.2.2.1), (pw_cell_below (below_alloc (Below.refl _ _) _) hHeld.2.2.2.1), (pw_cell_below (below_alloc (Below.refl _ _) _) hHeld.2.2.2.2.1), (pw_cell_below (below_alloc (Below.refl _ _) _) hHeld.2.2.2.2.2)⟩ (fun hHeld => ?_)
     clear hK K
     refine norm_ (a' := ?_) ?_ ?_
     rotate_left
     ·show Act.put _ (some 12) _ = _
      simp only [Act.put, lA1, lA2, lA3, i64_w, i32_w]
      rfl
     refine one_ (i := 7) (N := some 41) (lA 14 2303) rfl rfl (by kernel_rfl) (by decide) (fun K hK => ?_)
     have HGB := Aside0.mk (show wb.heap.size < _ from blk_lt (blk_new wb (.cells #[.slice none 0 0, .int .i64 0, .int .i64 0, .int .i64 0, .slice none 0 0] 29 (0, 0))))
     replace HBB := Aside0.mk (below_alloc HBB.out (.cells #[.slice none 0 0, .int .i64 0, .int .i64 0, .int .i64 0, .slice none 0 0] 29 (0, 0)))
     replace HVM := Aside0.mk (Kd.R_below HVM.out (below_alloc (Below.refl wb.heap.size wb) (.cells #[.slice none 0 0, .int .i64 0, .int .i64 0, .int .i64 0, .slice none 0 0] 29 (0, 0))))
     replace HVN := Aside0.mk (Kd.R_below HVN.out (below_alloc (Below.refl wb.heap.size wb) (.cells #[.slice none 0 0, .int .i64 0, .int .i64 0, .int .i64 0, .slice none 0 0] 29 (0, 0))))
     refine goes_ Try.func23 (by kernel_rfl) rfl #[.slice AVC cs.length cVC, .agg #[.slice AVM l1_0.length cVM, .int .i64 a1_1, .int .i64 a1_2, .int .i64 a1_3, .slice AVN l1_4.length cVN], .int .i64 a2, .int .i64 a3, .bool a4] (by rfl) rfl rfl z5 ?_
     with_reducible refine (spec_MemMake.calls k AVC cVC cs AVM cVM l1_0 a1_1 a1_2 a1_3 AVN cVN l1_4 a2 a3 a4 r0_0 r0_1 r0_2 r0_3 r0_4 r1 _ (Kd.C_below (Kd.R_reads' (Kd.S_R HVC.out)).2.2 HBB.out) (Kd.R_reads' (Kd.S_R HVC.out)).2.1 (Kd.C_below (Kd.R_reads' HVM.out).2.2 (Below.refl _ _)) (Kd.R_reads' HVM.out).2.1 (Kd.C_below (Kd.R_reads' HVN.out).2.2 (Below.refl _ _)) (Kd.R_reads' HVN.out).2.1 H5.out).mono ?_
     rintro e wc ⟨vw0_0, vw0_4, rfl, hv0_0, hv0_4, hbc⟩
     have HVw0_0 := Aside0.mk hv0_0
     have HVw0_4 := Aside0.mk hv0_4
     obtain ⟨AV0_0, cV0_0, ev0⟩ := Kd.R_slice hv0_0
     subst ev0
     obtain ⟨AV0_4, cV0_4, ev4⟩ := Kd.R_slice hv0_4
     subst ev4
     have HWB := Aside0.mk (below_size (below_step HB.out hHeld.1.out))
     have HWc := Aside0.mk (below_step hHeld.1.out hbc)
     have hbox := blk_below (blk_new wb (.cells #[.slice none 0 0, .int .i64 0, .int .i64 0, .int .i64 0, .slice none 0 0] 29 (0, 0))) hbc
     refine ⟨_, rfl, ?_⟩
     refine hK.out _ _ ⟨⟨below_step hHeld.1.out hbc⟩, (pw_cell_below hbc hHeld.2.1), (pw_cell_below hbc hHeld.2.2.1), (pw_cell_below hbc hHeld.2.2.2.1), (pw_cell_below hbc hHeld.2.2.2.2.1), (pw_cell_below hbc hHeld.2.2.2.2.2)⟩ (fun hHeld => ?_)
     clear hK K
     refine norm_ (a' := ?_) ?_ ?_
     rotate_left
     ·show Act.put _ (some 41) _ = _
      simp only [Act.put, lA1, lA2, lA3, i64_w, i32_w]
      rfl
     refine pS 8 33 (lA 14 2559) ?_
     refine pS 9 42 (lA 14 3071) ?_
     refine pS 10 43 (lA 14 4095) ?_
     exact norm_ z32 (hCont (.slice AVC cs.length cVC, .agg #[.slice AVM l1_0.length cVM, .int .i64 a1_1, .int .i64 a1_2, .int .i64 a1_3, .slice AVN l1_4.length cVN], AV0_0, cV0_0, AV0_4, cV0_4, wb.heap.size) _ ⟨(Kd.R_lower (Kd.R_mono (Kd.R_bound HVw0_0.out) (fun k_ hk_ => by have h_ := hk_.2.1; have h2_ := HGB.out; show k_ ≠ wb.heap.size; omega)) HWB.out), (Kd.R_lower (Kd.R_mono (Kd.R_bound HVw0_4.out) (fun k_ hk_ => by have h_ := hk_.2.1; have h2_ := HGB.out; show k_ ≠ wb.heap.size; omega)) HWB.out), hbox, hgX, hHeld⟩)
   ·skip
    have hgX := hHeld.1.out.size
    refine value_ (w1 := ?_) (v := ?_) (by rfl) rfl ?_ ?_
    rotate_left 2
    ·go_simp
     constructor
     ·rfl
     ·rfl
    refine hK.out _ _ ⟨⟨below_alloc hHeld.1.out _⟩, (pw_cell_below (below_alloc (Below.refl _ _) _) hHeld.2.1), (pw_cell_below (below_alloc (Below.refl _ _) _) hHeld.2.2.1), (pw_cell_below (below_alloc (Below.refl _ _) _) hHeld.2.2.2.1), (pw_cell_below (below_alloc (Below.refl _ _) _) hHeld.2.2.2.2.1), (pw_cell_below (below_alloc (Below.refl _ _) _) hHeld.2.2.2.2.2)⟩ (fun hHeld => ?_)
    clear hK K
    refine norm_ (a' := ?_) ?_ ?_
    rotate_left
    ·show Act.put _ (some 12) _ = _
     simp only [Act.put, lA1, lA2, lA3, i64_w, i32_w]
     rfl
    refine one_ (i := 3) (N := some 37) (lA 14 2175) rfl rfl (by kernel_rfl) (by decide) (fun K hK => ?_)
    replace HVC := Aside0.mk (Kd.S_below HVC.out (below_alloc (Below.refl wa.heap.size wa) (.cells #[.slice none 0 0, .int .i64 0, .int .i64 0, .int .i64 0, .slice none 0 0] 29 (0, 0))))
    refine goes_ Try.func11 (by kernel_rfl) rfl #[.agg #[.slice A1_0 l1_0.length c1_0, .int .i64 a1_1, .int .i64 a1_2, .int .i64 a1_3, .slice A1_4 l1_4.length c1_4]] (by rfl) rfl rfl z5 ?_
    with_reducible refine (laws_toMem.calls k A1_0 c1_0 l1_0 a1_1 a1_2 a1_3 A1_4 c1_4 l1_4 l1_0 a1_1 a1_2 a1_3 l1_4 _ (Kd.C_below HR1_0.out (below_step HB.out hHeld.1.out)) HC1_0.out (Kd.C_below HR1_4.out (below_step HB.out hHeld.1.out)) HC1_4.out H4.out).mono ?_
    rintro e wb ⟨vm, vn, rfl, hm_, hn_, hbb⟩
    have HVM := Aside0.mk hm_
    have HVN := Aside0.mk hn_
    have HBB := Aside0.mk hbb
    obtain ⟨AVM, cVM, rfl⟩ := Kd.R_slice hm_
    obtain ⟨AVN, cVN, rfl⟩ := Kd.R_slice hn_
    have hbox := blk_below (blk_new wa (.cells #[.slice none 0 0, .int .i64 0, .int .i64 0, .int .i64 0, .slice none 0 0] 29 (0, 0))) hbb
    refine ⟨_, rfl, ?_⟩
    refine hK.out _ _ ⟨⟨below_step hHeld.1.out hbb⟩, (pw_cell_below hbb hHeld.2.1), (pw_cell_below hbb hHeld.2.2.1), (pw_cell_below hbb hHeld.2.2.2.1), (pw_cell_below hbb hHeld.2.2.2.2.1), (pw_cell_below hbb hHeld.2.2.2.2.2)⟩ (fun hHeld => ?_)
    clear hK K
    refine norm_ (a' := ?_) ?_ ?_
    rotate_left
    ·show Act.put _ (some 37) _ = _
     simp only [Act.put, lA1, lA2, lA3, i64_w, i32_w]
     rfl
    refine one_ (i := 7) (N := some 41) (lA 14 2303) rfl rfl (by kernel_rfl) (by decide) (fun K hK => ?_)
    have HGB := Aside0.mk (show wa.heap.size < _ from blk_lt hbox)
    refine goes_ Try.func23 (by kernel_rfl) rfl #[.slice AVC cs.length cVC, .agg #[.slice AVM l1_0.length cVM, .int .i64 a1_1, .int .i64 a1_2, .int .i64 a1_3, .slice AVN l1_4.length cVN], .int .i64 a2, .int .i64 a3, .bool a4] (by rfl) rfl rfl z5 ?_
    with_reducible refine (spec_MemMake.calls k AVC cVC cs AVM cVM l1_0 a1_1 a1_2 a1_3 AVN cVN l1_4 a2 a3 a4 r0_0 r0_1 r0_2 r0_3 r0_4 r1 _ (Kd.C_below (Kd.R_reads' (Kd.S_R HVC.out)).2.2 HBB.out) (Kd.R_reads' (Kd.S_R HVC.out)).2.1 (Kd.C_below (Kd.R_reads' HVM.out).2.2 (Below.refl _ _)) (Kd.R_reads' HVM.out).2.1 (Kd.C_below (Kd.R_reads' HVN.out).2.2 (Below.refl _ _)) (Kd.R_reads' HVN.out).2.1 H5.out).mono ?_
    rintro e wc ⟨vw0_0, vw0_4, rfl, hv0_0, hv0_4, hbc⟩
    have HVw0_0 := Aside0.mk hv0_0
    have HVw0_4 := Aside0.mk hv0_4
    obtain ⟨AV0_0, cV0_0, ev0⟩ := Kd.R_slice hv0_0
    subst ev0
    obtain ⟨AV0_4, cV0_4, ev4⟩ := Kd.R_slice hv0_4
    subst ev4
    have HWB := Aside0.mk (below_size (below_step HB.out hHeld.1.out))
    have HWc := Aside0.mk (below_step hHeld.1.out hbc)
    have hbox := blk_below hbox hbc
    refine ⟨_, rfl, ?_⟩
    refine hK.out _ _ ⟨⟨below_step hHeld.1.out hbc⟩, (pw_cell_below hbc hHeld.2.1), (pw_cell_below hbc hHeld.2.2.1), (pw_cell_below hbc hHeld.2.2.2.1), (pw_cell_below hbc hHeld.2.2.2.2.1), (pw_cell_below hbc hHeld.2.2.2.2.2)⟩ (fun hHeld => ?_)
    clear hK K
    refine norm_ (a' := ?_) ?_ ?_
    rotate_left
    ·show Act.put _ (some 41) _ = _
     simp only [Act.put, lA1, lA2, lA3, i64_w, i32_w]
     rfl
    refine pS 8 33 (lA 14 2559) ?_
    refine pS 9 42 (lA 14 3071) ?_
    refine pS 10 43 (lA 14 4095) ?_
    exact norm_ z32 (hCont (.slice AVC cs.length cVC, .agg #[.slice AVM l1_0.length cVM, .int .i64 a1_1, .int .i64 a1_2, .int .i64 a1_3, .slice AVN l1_4.length cVN], AV0_0, cV0_0, AV0_4, cV0_4, wa.heap.size) _ ⟨(Kd.R_lower (Kd.R_mono (Kd.R_bound HVw0_0.out) (fun k_ hk_ => by have h_ := hk_.2.1; have h2_ := HGB.out; show k_ ≠ wa.heap.size; omega)) HWB.out), (Kd.R_lower (Kd.R_mono (Kd.R_bound HVw0_4.out) (fun k_ hk_ => by have h_ := hk_.2.1; have h2_ := HGB.out; show k_ ≠ wa.heap.size; omega)) HWB.out), hbox, hgX, hHeld⟩)
  ·skip
   have hgX := hHeld.1.out.size
   refine value_ (w1 := ?_) (v := ?_) (by rfl) rfl ?_ ?_
   rotate_left 2
   ·go_simp
    constructor
    ·rfl
    ·rfl
   refine hK.out _ _ ⟨⟨below_alloc hHeld.1.out _⟩, (pw_cell_below (below_alloc (Below.refl _ _) _) hHeld.2.1), (pw_cell_below (below_alloc (Below.refl _ _) _) hHeld.2.2.1), (pw_cell_below (below_alloc (Below.refl _ _) _) hHeld.2.2.2.1), (pw_cell_below (below_alloc (Below.refl _ _) _) hHeld.2.2.2.2.1), (pw_cell_below (below_alloc (Below.refl _ _) _) hHeld.2.2.2.2.2)⟩ (fun hHeld => ?_)
   clear hK K
   refine norm_ (a' := ?_) ?_ ?_
   rotate_left
   ·show Act.put _ (some 12) _ = _
    simp only [Act.put, lA1, lA2, lA3, i64_w, i32_w]
    rfl
   refine one_ (i := 1) (N := some 35) (lA 14 2167) rfl rfl (by kernel_rfl) (by decide) (fun K hK => ?_)
   refine goes_ Try.func10 (by kernel_rfl) rfl #[.slice A0 l0.length c0] (by rfl) rfl rfl z5 ?_
   with_reducible refine (laws_toClassS.calls k A0 c0 l0 cs _ (Kd.C_below HR0.out (below_step HB.out hHeld.1.out)) HC0.out H3.out).mono ?_
   rintro e wa ⟨vc, rfl, hc, hba⟩
   have HVC := Aside0.mk hc
   obtain ⟨AVC, cVC, rfl⟩ := Kd.S_slice hc
   have hbox := blk_below (blk_new Wd (.cells #[.slice none 0 0, .int .i64 0, .int .i64 0, .int .i64 0, .slice none 0 0] 29 (0, 0))) hba
   refine ⟨_, rfl, ?_⟩
   refine hK.out _ _ ⟨⟨below_step hHeld.1.out hba⟩, (pw_cell_below hba hHeld.2.1), (pw_cell_below hba hHeld.2.2.1), (pw_cell_below hba hHeld.2.2.2.1), (pw_cell_below hba hHeld.2.2.2.2.1), (pw_cell_below hba hHeld.2.2.2.2.2)⟩ (fun hHeld => ?_)
   clear hK K
   refine norm_ (a' := ?_) ?_ ?_
   rotate_left
   ·show Act.put _ (some 35) _ = _
    simp only [Act.put, lA1, lA2, lA3, i64_w, i32_w]
    rfl
   refine one_ (i := 3) (N := some 37) (lA 14 2175) rfl rfl (by kernel_rfl) (by decide) (fun K hK => ?_)
   refine goes_ Try.func11 (by kernel_rfl) rfl #[.agg #[.slice A1_0 l1_0.length c1_0, .int .i64 a1_1, .int .i64 a1_2, .int .i64 a1_3, .slice A1_4 l1_4.length c1_4]] (by rfl) rfl rfl z5 ?_
   with_reducible refine (laws_toMem.calls k A1_0 c1_0 l1_0 a1_1 a1_2 a1_3 A1_4 c1_4 l1_4 l1_0 a1_1 a1_2 a1_3 l1_4 _ (Kd.C_below HR1_0.out (below_step HB.out hHeld.1.out)) HC1_0.out (Kd.C_below HR1_4.out (below_step HB.out hHeld.1.out)) HC1_4.out H4.out).mono ?_
   rintro e wb ⟨vm, vn, rfl, hm_, hn_, hbb⟩
   have HVM := Aside0.mk hm_
   have HVN := Aside0.mk hn_
   have HBB := Aside0.mk hbb
   obtain ⟨AVM, cVM, rfl⟩ := Kd.R_slice hm_
   obtain ⟨AVN, cVN, rfl⟩ := Kd.R_slice hn_
   have hbox := blk_below hbox hbb
   refine ⟨_, rfl, ?_⟩
   refine hK.out _ _ ⟨⟨below_step hHeld.1.out hbb⟩, (pw_cell_below hbb hHeld.2.1), (pw_cell_below hbb hHeld.2.2.1), (pw_cell_below hbb hHeld.2.2.2.1), (pw_cell_below hbb hHeld.2.2.2.2.1), (pw_cell_below hbb hHeld.2.2.2.2.2)⟩ (fun hHeld => ?_)
   clear hK K
   refine norm_ (a' := ?_) ?_ ?_
   rotate_left
   ·show Act.put _ (some 37) _ = _
    simp only [Act.put, lA1, lA2, lA3, i64_w, i32_w]
    rfl
   refine one_ (i := 7) (N := some 41) (lA 14 2303) rfl rfl (by kernel_rfl) (by decide) (fun K hK => ?_)
   have HGB := Aside0.mk (show Wd.heap.size < _ from blk_lt hbox)
   refine goes_ Try.func23 (by kernel_rfl) rfl #[.slice AVC cs.length cVC, .agg #[.slice AVM l1_0.length cVM, .int .i64 a1_1, .int .i64 a1_2, .int .i64 a1_3, .slice AVN l1_4.length cVN], .int .i64 a2, .int .i64 a3, .bool a4] (by rfl) rfl rfl z5 ?_
   with_reducible refine (spec_MemMake.calls k AVC cVC cs AVM cVM l1_0 a1_1 a1_2 a1_3 AVN cVN l1_4 a2 a3 a4 r0_0 r0_1 r0_2 r0_3 r0_4 r1 _ (Kd.C_below (Kd.R_reads' (Kd.S_R HVC.out)).2.2 HBB.out) (Kd.R_reads' (Kd.S_R HVC.out)).2.1 (Kd.C_below (Kd.R_reads' HVM.out).2.2 (Below.refl _ _)) (Kd.R_reads' HVM.out).2.1 (Kd.C_below (Kd.R_reads' HVN.out).2.2 (Below.refl _ _)) (Kd.R_reads' HVN.out).2.1 H5.out).mono ?_
   rintro e wc ⟨vw0_0, vw0_4, rfl, hv0_0, hv0_4, hbc⟩
   have HVw0_0 := Aside0.mk hv0_0
   have HVw0_4 := Aside0.mk hv0_4
   obtain ⟨AV0_0, cV0_0, ev0⟩ := Kd.R_slice hv0_0
   subst ev0
   obtain ⟨AV0_4, cV0_4, ev4⟩ := Kd.R_slice hv0_4
   subst ev4
   have HWB := Aside0.mk (below_size (below_step HB.out hHeld.1.out))
   have HWc := Aside0.mk (below_step hHeld.1.out hbc)
   have hbox := blk_below hbox hbc
   refine ⟨_, rfl, ?_⟩
   refine hK.out _ _ ⟨⟨below_step hHeld.1.out hbc⟩, (pw_cell_below hbc hHeld.2.1), (pw_cell_below hbc hHeld.2.2.1), (pw_cell_below hbc hHeld.2.2.2.1), (pw_cell_below hbc hHeld.2.2.2.2.1), (pw_cell_below hbc hHeld.2.2.2.2.2)⟩ (fun hHeld => ?_)
   clear hK K
   refine norm_ (a' := ?_) ?_ ?_
   rotate_left
   ·show Act.put _ (some 41) _ = _
    simp only [Act.put, lA1, lA2, lA3, i64_w, i32_w]
    rfl
   refine pS 8 33 (lA 14 2559) ?_
   refine pS 9 42 (lA 14 3071) ?_
   refine pS 10 43 (lA 14 4095) ?_
   exact norm_ z32 (hCont (.slice AVC cs.length cVC, .agg #[.slice AVM l1_0.length cVM, .int .i64 a1_1, .int .i64 a1_2, .int .i64 a1_3, .slice AVN l1_4.length cVN], AV0_0, cV0_0, AV0_4, cV0_4, Wd.heap.size) _ ⟨(Kd.R_lower (Kd.R_mono (Kd.R_bound HVw0_0.out) (fun k_ hk_ => by have h_ := hk_.2.1; have h2_ := HGB.out; show k_ ≠ Wd.heap.size; omega)) HWB.out), (Kd.R_lower (Kd.R_mono (Kd.R_bound HVw0_4.out) (fun k_ hk_ => by have h_ := hk_.2.1; have h2_ := HGB.out; show k_ ≠ Wd.heap.size; omega)) HWB.out), hbox, hgX, hHeld⟩)
 rintro ⟨vq0, vq1, AQ, cQ, AR, cR, gq⟩ w2_ ⟨hq0, hq1, hqz, hqg, hHeld⟩
 have HVw0_0 := Aside0.mk hq0
 have HVw0_4 := Aside0.mk hq1
 have HZ := Aside0.mk hqz
 have HGq := Aside0.mk hqg
 have HWc := hHeld.1
 have z0 := (blk_cell hqz 0).trans rfl; have z1 := (blk_cell hqz 1).trans rfl; have z2 := (blk_cell hqz 2).trans rfl; have z3 := (blk_cell hqz 3).trans rfl; have z4 := (blk_cell hqz 4).trans rfl
 have y0 := blk_frozen hqz 0; have y1 := blk_frozen hqz 1; have y2 := blk_frozen hqz 2; have y3 := blk_frozen hqz 3; have y4 := blk_frozen hqz 4
 clear hq0 hq1 hqz hqg
 refine norm_ (a' := ?_) ?_ ?_
 rotate_left
 ·simp only [putAll, Act.put, List.setIfInBounds_toArray, List.set_cons_zero, List.set_cons_succ]
  rfl
 refine last_ (i := 12) (N := none) (lA 14 8191) rfl rfl (by kernel_rfl) (by decide) (fun K hK => ?_)
 refine skip_ (w1 := ?_) (by rfl) rfl ?_ ?_
 rotate_left
 ·go_simp
  rfl
 refine hK.out _ _ ?_
 clear hK K
 refine pS 13 13 (lA 14 16383) ?_
 refine done_ (by kernel_rfl) ?_
 have BW0 := Aside0.mk (show (memBox w2_ gq (.slice AQ r0_0.length cQ) (.int .i64 r0_1) (.int .i64 r0_2) (.int .i64 r0_3) (.slice AR r0_4.length cR)).heap[gq]? = some (.cells #[.slice AQ r0_0.length cQ, .int .i64 r0_1, .int .i64 r0_2, .int .i64 r0_3, .slice AR r0_4.length cR] 29 (0, 0)) from blk_box5 HZ.out)
 have HW8 := Aside0.mk (show Below w2.heap.size w2 (memBox w2_ gq (.slice AQ r0_0.length cQ) (.int .i64 r0_1) (.int .i64 r0_2) (.int .i64 r0_3) (.slice AR r0_4.length cR)) from below_box5 HWc.out HGq.out)
 replace HVw0_0 := Aside0.mk (R_box5n (a := .slice AQ r0_0.length cQ) (b := .int .i64 r0_1) (c := .int .i64 r0_2) (d := .int .i64 r0_3) (e := .slice AR r0_4.length cR) HVw0_0.out (fun _ h_ => h_))
 replace HVw0_4 := Aside0.mk (R_box5n (a := .slice AQ r0_0.length cQ) (b := .int .i64 r0_1) (c := .int .i64 r0_2) (d := .int .i64 r0_3) (e := .slice AR r0_4.length cR) HVw0_4.out (fun _ h_ => h_))
 generalize hW8 : memBox w2_ gq (.slice AQ r0_0.length cQ) (.int .i64 r0_1) (.int .i64 r0_2) (.int .i64 r0_3) (.slice AR r0_4.length cR) = W8 at BW0 HW8 HVw0_0 HVw0_4
 unfold memBox at hW8
 rw [hW8]
 clear hW8
 obtain ⟨gw0, hgw0⟩ : ∃ g, g = gq := ⟨_, rfl⟩
 subst hgw0
 have HWB := Aside0.mk (Nat.le_refl w.heap.size)
 clear HZ HGq HWc z0 z1 z2 z3 z4 y0 y1 y2 y3 y4
 clear mc0 mc1 mc2 mc3 mc4
 obtain ⟨s3, hs3⟩ : ∃ s, s = W8.heap.size := ⟨_, rfl⟩
 replace HB := Aside0.mk (below_step HB.out HW8.out)
 replace BM := Aside0.mk ((HW8.out.block _ (blk_lt BM.out)).trans BM.out)
 have HO := Aside0.mk (show w.heap.size < s3 from by rw [hs3]; exact blk_lt BM.out)
 obtain ⟨AW0_0, cW0_0, eA, eC⟩ : ∃ A c, A = AQ ∧ c = cQ := ⟨_, _, rfl, rfl⟩
 subst eA eC
 obtain ⟨AW0_4, cW0_4, eA, eC⟩ : ∃ A c, A = AR ∧ c = cR := ⟨_, _, rfl, rfl⟩
 subst eA eC
 have HW0_0 := Aside0.mk (show Kd.R (Kd.int .i64) 3 W8 w.heap.size (fun k_ => k_ < s3) _ r0_0 from Kd.R_lower (Kd.R_mono (Kd.R_bound HVw0_0.out) (fun k_ hk_ => by rw [hs3]; exact hk_.2.2.1)) (by exact HWB.out))
 have HW0_4 := Aside0.mk (show Kd.R Kd.bool 4 W8 w.heap.size (fun k_ => k_ < s3) _ r0_4 from Kd.R_lower (Kd.R_mono (Kd.R_bound HVw0_4.out) (fun k_ hk_ => by rw [hs3]; exact hk_.2.2.1)) (by exact HWB.out))
 have HOn := Aside0.mk (show w.heap.size < s3 ∧ gw0 < s3 from ⟨HO.out, by rw [hs3]; exact blk_lt BW0.out⟩)
 clear HO
 have HO := HOn
 clear HOn
 clear HWB HW8 HVw0_0 HVw0_4
 go_wp2_with fail
 go_at_call 10
 refine (laws_toClassS.calls k A0 c0 l0 cs _ (Kd.C_below HR0.out HB.out) HC0.out H3.out).mono ?_
 rintro e w6 ⟨vx, rfl, hx, hb⟩
 replace HB := Aside0.mk (below_step HB.out hb)
 replace BM := Aside0.mk ((hb.block _ (blk_lt BM.out)).trans BM.out)
 replace HW0_0 := Aside0.mk (Kd.R_below HW0_0.out hb)
 replace HW0_4 := Aside0.mk (Kd.R_below HW0_4.out hb)
 replace BW0 := Aside0.mk ((hb.block _ (blk_lt BW0.out)).trans BW0.out)
 obtain ⟨s4, hs4⟩ : ∃ s, s = w6.heap.size := ⟨_, rfl⟩
 have HX0 := Aside0.mk (show Kd.S k69 69 w6 w.heap.size (fun k_ => s3 ≤ k_ ∧ k_ < s4) vx cs from Kd.S_lower (Kd.S_mono (Kd.S_bound hx) (fun k_ hk_ => ⟨by rw [hs3]; exact hk_.2.1, by rw [hs4]; exact hk_.2.2.1⟩)) (by have := HO.out; omega))
 have HOn := Aside0.mk (show w.heap.size < s3 ∧ gw0 < s3 ∧ s3 ≤ s4 from ⟨HO.out.1, HO.out.2, by rw [hs3, hs4]; exact hb.size⟩)
 clear HO
 have HO := HOn
 clear HOn
 clear hx hb hs3
 obtain ⟨AX0, cX0, rfl⟩ := Kd.S_slice HX0.out
 have mc0 := (blk_cell BM.out 0).trans rfl; have mc1 := (blk_cell BM.out 1).trans rfl; have mc2 := (blk_cell BM.out 2).trans rfl; have mc3 := (blk_cell BM.out 3).trans rfl; have mc4 := (blk_cell BM.out 4).trans rfl
 go_wp2_with fail
 go_at_call 11
 refine (laws_toMem.calls k A1_0 c1_0 l1_0 a1_1 a1_2 a1_3 A1_4 c1_4 l1_4 l1_0 a1_1 a1_2 a1_3 l1_4 _ (Kd.C_below HR1_0.out HB.out) HC1_0.out (Kd.C_below HR1_4.out HB.out) HC1_4.out H4.out).mono ?_
 rintro e w7 ⟨vm, vn, rfl, hm_, hn_, hb⟩
 clear mc0 mc1 mc2 mc3 mc4
 replace HB := Aside0.mk (below_step HB.out hb)
 replace BM := Aside0.mk ((hb.block _ (blk_lt BM.out)).trans BM.out)
 replace HW0_0 := Aside0.mk (Kd.R_below HW0_0.out hb)
 replace HW0_4 := Aside0.mk (Kd.R_below HW0_4.out hb)
 replace BW0 := Aside0.mk ((hb.block _ (blk_lt BW0.out)).trans BW0.out)
 replace HX0 := Aside0.mk (Kd.S_below HX0.out hb)
 obtain ⟨s5, hs5⟩ : ∃ s, s = w7.heap.size := ⟨_, rfl⟩
 have HX1 := Aside0.mk (show Kd.R (Kd.int .i64) 3 w7 w.heap.size (fun k_ => s4 ≤ k_ ∧ k_ < s5) vm l1_0 from Kd.R_lower (Kd.R_mono (Kd.R_bound hm_) (fun k_ hk_ => ⟨by rw [hs4]; exact hk_.2.1, by rw [hs5]; exact hk_.2.2.1⟩)) (by have := HO.out; omega))
 have HX2 := Aside0.mk (show Kd.R Kd.bool 4 w7 w.heap.size (fun k_ => s4 ≤ k_ ∧ k_ < s5) vn l1_4 from Kd.R_lower (Kd.R_mono (Kd.R_bound hn_) (fun k_ hk_ => ⟨by rw [hs4]; exact hk_.2.1, by rw [hs5]; exact hk_.2.2.1⟩)) (by have := HO.out; omega))
 have HOn := Aside0.mk (show w.heap.size < s3 ∧ gw0 < s3 ∧ s3 ≤ s4 ∧ s4 ≤ s5 from ⟨HO.out.1, HO.out.2.1, HO.out.2.2, by rw [hs4, hs5]; exact hb.size⟩)
 clear HO
 have HO := HOn
 clear HOn
 clear hm_ hn_ hb hs4
 obtain ⟨AX, cX, rfl⟩ := Kd.R_slice HX1.out
 obtain ⟨AY, cY, rfl⟩ := Kd.R_slice HX2.out
 go_wp2_with fail
 go_at_call 24
 have BX := Aside0.mk (show (w7.alloc (.cells #[.slice AX l1_0.length cX, .int .i64 a1_1, .int .i64 a1_2, .int .i64 a1_3, .slice AY l1_4.length cY] 29 (0, 0))).heap[w7.heap.size]? = some (.cells #[.slice AX l1_0.length cX, .int .i64 a1_1, .int .i64 a1_2, .int .i64 a1_3, .slice AY l1_4.length cY] 29 (0, 0)) from blk_new w7 _)
 have hb : Below w7.heap.size w7 (w7.alloc (.cells #[.slice AX l1_0.length cX, .int .i64 a1_1, .int .i64 a1_2, .int .i64 a1_3, .slice AY l1_4.length cY] 29 (0, 0))) := below_alloc (Below.refl _ _) _
 generalize w7.alloc (.cells #[.slice AX l1_0.length cX, .int .i64 a1_1, .int .i64 a1_2, .int .i64 a1_3, .slice AY l1_4.length cY] 29 (0, 0)) = w7b at BX hb ⊢
 replace HB := Aside0.mk (below_step HB.out hb)
 replace BM := Aside0.mk ((hb.block _ (blk_lt BM.out)).trans BM.out)
 replace HW0_0 := Aside0.mk (Kd.R_below HW0_0.out hb)
 replace HW0_4 := Aside0.mk (Kd.R_below HW0_4.out hb)
 replace BW0 := Aside0.mk ((hb.block _ (blk_lt BW0.out)).trans BW0.out)
 replace HX0 := Aside0.mk (Kd.S_below HX0.out hb)
 replace HX1 := Aside0.mk (Kd.R_below HX1.out hb)
 replace HX2 := Aside0.mk (Kd.R_below HX2.out hb)
 obtain ⟨gx, hgx⟩ : ∃ g, g = w7.heap.size := ⟨_, rfl⟩
 rw [← hgx] at BX
 try rw [← hgx]
 obtain ⟨s6, hs6⟩ : ∃ s, s = w7b.heap.size := ⟨_, rfl⟩
 have HOn := Aside0.mk (show w.heap.size < s3 ∧ gw0 < s3 ∧ s3 ≤ s4 ∧ s4 ≤ s5 ∧ s5 ≤ gx from ⟨HO.out.1, HO.out.2.1, HO.out.2.2.1, HO.out.2.2.2, by rw [hs5, hgx]; exact Nat.le_refl _⟩)
 clear HO
 have HO := HOn
 clear HOn
 have HOn := Aside0.mk (show w.heap.size < s3 ∧ gw0 < s3 ∧ s3 ≤ s4 ∧ s4 ≤ s5 ∧ s5 ≤ gx ∧ gx < s6 from ⟨HO.out.1, HO.out.2.1, HO.out.2.2.1, HO.out.2.2.2.1, HO.out.2.2.2.2, by rw [hs6]; exact blk_lt BX.out⟩)
 clear HO
 have HO := HOn
 clear HOn
 clear hb hs5 hgx
 refine (impl_MemMake.calls k AX0 cX0 cs AX cX l1_0 a1_1 a1_2 a1_3 AY cY l1_4 a2 a3 a4 r0_0 r0_1 r0_2 r0_3 r0_4 r1 _ (Kd.R_reads' (Kd.S_R HX0.out)).2.2 (Kd.R_reads' (Kd.S_R HX0.out)).2.1 (Kd.R_reads' HX1.out).2.2 (Kd.R_reads' HX1.out).2.1 (Kd.R_reads' HX2.out).2.2 (Kd.R_reads' HX2.out).2.1 H6.out).mono ?_
 rintro e w9 ⟨vg0_0, vg0_4, rfl, hg0_0, hg0_4, hb⟩
 replace HB := Aside0.mk (below_step HB.out hb)
 replace BM := Aside0.mk ((hb.block _ (blk_lt BM.out)).trans BM.out)
 replace HW0_0 := Aside0.mk (Kd.R_below HW0_0.out hb)
 replace HW0_4 := Aside0.mk (Kd.R_below HW0_4.out hb)
 replace BW0 := Aside0.mk ((hb.block _ (blk_lt BW0.out)).trans BW0.out)
 replace HX0 := Aside0.mk (Kd.S_below HX0.out hb)
 replace HX1 := Aside0.mk (Kd.R_below HX1.out hb)
 replace HX2 := Aside0.mk (Kd.R_below HX2.out hb)
 replace BX := Aside0.mk ((hb.block _ (blk_lt BX.out)).trans BX.out)
 obtain ⟨s7, hs7⟩ : ∃ s, s = w9.heap.size := ⟨_, rfl⟩
 have HG0_0 := Aside0.mk (show Kd.R (Kd.int .i64) 3 w9 w.heap.size (fun k_ => s6 ≤ k_ ∧ k_ < s7) vg0_0 r0_0 from Kd.R_lower (Kd.R_mono (Kd.R_bound hg0_0) (fun k_ hk_ => ⟨by rw [hs6]; exact hk_.2.1, by rw [hs7]; exact hk_.2.2.1⟩)) (by have := HO.out; omega))
 have HG0_4 := Aside0.mk (show Kd.R Kd.bool 4 w9 w.heap.size (fun k_ => s6 ≤ k_ ∧ k_ < s7) vg0_4 r0_4 from Kd.R_lower (Kd.R_mono (Kd.R_bound hg0_4) (fun k_ hk_ => ⟨by rw [hs6]; exact hk_.2.1, by rw [hs7]; exact hk_.2.2.1⟩)) (by have := HO.out; omega))
 obtain ⟨AG0_0, cG0_0, rfl⟩ := Kd.R_slice HG0_0.out
 obtain ⟨AG0_4, cG0_4, rfl⟩ := Kd.R_slice HG0_4.out
 have HOn := Aside0.mk (show w.heap.size < s3 ∧ gw0 < s3 ∧ s3 ≤ s4 ∧ s4 ≤ s5 ∧ s5 ≤ gx ∧ gx < s6 ∧ s6 ≤ s7 from ⟨HO.out.1, HO.out.2.1, HO.out.2.2.1, HO.out.2.2.2.1, HO.out.2.2.2.2.1, HO.out.2.2.2.2.2, by rw [hs6, hs7]; exact hb.size⟩)
 clear HO
 have HO := HOn
 clear HOn
 clear hb hs6 hg0_0 hg0_4
 have n0 : ∀ o, (w9.alloc o).cell? ⟨gw0, 0, none⟩ = _ := fun o => (blk_cell (blk_alloc BW0.out o) 0).trans rfl; have n1 : ∀ o, (w9.alloc o).cell? ⟨gw0, 1, none⟩ = _ := fun o => (blk_cell (blk_alloc BW0.out o) 1).trans rfl; have n2 : ∀ o, (w9.alloc o).cell? ⟨gw0, 2, none⟩ = _ := fun o => (blk_cell (blk_alloc BW0.out o) 2).trans rfl; have n3 : ∀ o, (w9.alloc o).cell? ⟨gw0, 3, none⟩ = _ := fun o => (blk_cell (blk_alloc BW0.out o) 3).trans rfl; have n4 : ∀ o, (w9.alloc o).cell? ⟨gw0, 4, none⟩ = _ := fun o => (blk_cell (blk_alloc BW0.out o) 4).trans rfl
 go_wp2_with fail
 go_at_call 13
 have BG0 := Aside0.mk (show (w9.alloc (.cells #[.slice AG0_0 r0_0.length cG0_0, .int .i64 r0_1, .int .i64 r0_2, .int .i64 r0_3, .slice AG0_4 r0_4.length cG0_4] 29 (0, 0))).heap[w9.heap.size]? = some (.cells #[.slice AG0_0 r0_0.length cG0_0, .int .i64 r0_1, .int .i64 r0_2, .int .i64 r0_3, .slice AG0_4 r0_4.length cG0_4] 29 (0, 0)) from blk_new w9 _)
 have hb : Below w9.heap.size w9 (w9.alloc (.cells #[.slice AG0_0 r0_0.length cG0_0, .int .i64 r0_1, .int .i64 r0_2, .int .i64 r0_3, .slice AG0_4 r0_4.length cG0_4] 29 (0, 0))) := below_alloc (Below.refl _ _) _
 generalize w9.alloc (.cells #[.slice AG0_0 r0_0.length cG0_0, .int .i64 r0_1, .int .i64 r0_2, .int .i64 r0_3, .slice AG0_4 r0_4.length cG0_4] 29 (0, 0)) = w9b at BG0 hb ⊢
 replace HB := Aside0.mk (below_step HB.out hb)
 replace BM := Aside0.mk ((hb.block _ (blk_lt BM.out)).trans BM.out)
 replace HW0_0 := Aside0.mk (Kd.R_below HW0_0.out hb)
 replace HW0_4 := Aside0.mk (Kd.R_below HW0_4.out hb)
 replace BW0 := Aside0.mk ((hb.block _ (blk_lt BW0.out)).trans BW0.out)
 replace HX0 := Aside0.mk (Kd.S_below HX0.out hb)
 replace HX1 := Aside0.mk (Kd.R_below HX1.out hb)
 replace HX2 := Aside0.mk (Kd.R_below HX2.out hb)
 replace BX := Aside0.mk ((hb.block _ (blk_lt BX.out)).trans BX.out)
 replace HG0_0 := Aside0.mk (Kd.R_below HG0_0.out hb)
 replace HG0_4 := Aside0.mk (Kd.R_below HG0_4.out hb)
 obtain ⟨gg, hgg⟩ : ∃ g, g = w9.heap.size := ⟨_, rfl⟩
 rw [← hgg] at BG0
 try rw [← hgg]
 obtain ⟨s8, hs8⟩ : ∃ s, s = w9b.heap.size := ⟨_, rfl⟩
 have HOn := Aside0.mk (show w.heap.size < s3 ∧ gw0 < s3 ∧ s3 ≤ s4 ∧ s4 ≤ s5 ∧ s5 ≤ gx ∧ gx < s6 ∧ s6 ≤ s7 ∧ s7 ≤ gg from ⟨HO.out.1, HO.out.2.1, HO.out.2.2.1, HO.out.2.2.2.1, HO.out.2.2.2.2.1, HO.out.2.2.2.2.2.1, HO.out.2.2.2.2.2.2, by rw [hs7, hgg]; exact Nat.le_refl _⟩)
 clear HO
 have HO := HOn
 clear HOn
 have HOn := Aside0.mk (show w.heap.size < s3 ∧ gw0 < s3 ∧ s3 ≤ s4 ∧ s4 ≤ s5 ∧ s5 ≤ gx ∧ gx < s6 ∧ s6 ≤ s7 ∧ s7 ≤ gg ∧ gg < s8 from ⟨HO.out.1, HO.out.2.1, HO.out.2.2.1, HO.out.2.2.2.1, HO.out.2.2.2.2.1, HO.out.2.2.2.2.2.1, HO.out.2.2.2.2.2.2.1, HO.out.2.2.2.2.2.2.2, by rw [hs8]; exact blk_lt BG0.out⟩)
 clear HO
 have HO := HOn
 clear HOn
 clear hb hs7 hgg
 refine (laws_eqMem.calls k AG0_0 cG0_0 r0_0 r0_1 r0_2 r0_3 AG0_4 cG0_4 r0_4 AW0_0 cW0_0 r0_0 r0_1 r0_2 r0_3 AW0_4 cW0_4 r0_4 true _ (Kd.R_reads' HG0_0.out).2.2 (Kd.R_reads' HG0_0.out).2.1 (Kd.R_reads' HG0_4.out).2.2 (Kd.R_reads' HG0_4.out).2.1 (Kd.R_reads' HW0_0.out).2.2 (Kd.R_reads' HW0_0.out).2.1 (Kd.R_reads' HW0_4.out).2.2 (Kd.R_reads' HW0_4.out).2.1 He0.out).mono ?_
 rintro e wq ⟨rfl, hb⟩
 try clear mc0 mc1 mc2 mc3 mc4
 clear n0 n1 n2 n3 n4
 replace HB := Aside0.mk (below_step HB.out hb)
 replace BM := Aside0.mk ((hb.block _ (blk_lt BM.out)).trans BM.out)
 replace HW0_0 := Aside0.mk (Kd.R_below HW0_0.out hb)
 replace HW0_4 := Aside0.mk (Kd.R_below HW0_4.out hb)
 replace BW0 := Aside0.mk ((hb.block _ (blk_lt BW0.out)).trans BW0.out)
 replace HX0 := Aside0.mk (Kd.S_below HX0.out hb)
 replace HX1 := Aside0.mk (Kd.R_below HX1.out hb)
 replace HX2 := Aside0.mk (Kd.R_below HX2.out hb)
 replace BX := Aside0.mk ((hb.block _ (blk_lt BX.out)).trans BX.out)
 replace HG0_0 := Aside0.mk (Kd.R_below HG0_0.out hb)
 replace HG0_4 := Aside0.mk (Kd.R_below HG0_4.out hb)
 replace BG0 := Aside0.mk ((hb.block _ (blk_lt BG0.out)).trans BG0.out)
 clear hb
 go_wp2_with fail
 go_at_call 10
 refine (laws_toClassS.calls k A0 c0 l0 cs _ (Kd.C_below HR0.out HB.out) HC0.out H3.out).mono ?_
 rintro e w11 ⟨vt, rfl, ht, hb⟩
 replace HB := Aside0.mk (below_step HB.out hb)
 replace BM := Aside0.mk ((hb.block _ (blk_lt BM.out)).trans BM.out)
 replace HW0_0 := Aside0.mk (Kd.R_below HW0_0.out hb)
 replace HW0_4 := Aside0.mk (Kd.R_below HW0_4.out hb)
 replace BW0 := Aside0.mk ((hb.block _ (blk_lt BW0.out)).trans BW0.out)
 replace HX0 := Aside0.mk (Kd.S_below HX0.out hb)
 replace HX1 := Aside0.mk (Kd.R_below HX1.out hb)
 replace HX2 := Aside0.mk (Kd.R_below HX2.out hb)
 replace BX := Aside0.mk ((hb.block _ (blk_lt BX.out)).trans BX.out)
 replace HG0_0 := Aside0.mk (Kd.R_below HG0_0.out hb)
 replace HG0_4 := Aside0.mk (Kd.R_below HG0_4.out hb)
 replace BG0 := Aside0.mk ((hb.block _ (blk_lt BG0.out)).trans BG0.out)
 have HT := Aside0.mk ht
 clear hb ht
 obtain ⟨AT, cT, rfl⟩ := Kd.S_slice HT.out
 go_wp2_with fail
 go_at_call 14
 refine (laws_eqClassS.calls k AX0 cX0 cs AT cT cs true _ (Kd.R_reads' (Kd.S_R HX0.out)).2.2 (Kd.R_reads' (Kd.S_R HX0.out)).2.1 (Kd.R_reads' (Kd.S_R HT.out)).2.2 (Kd.R_reads' (Kd.S_R HT.out)).2.1 Hec.out).mono ?_
 rintro e w12 ⟨rfl, hb⟩
 replace HB := Aside0.mk (below_step HB.out hb)
 replace BM := Aside0.mk ((hb.block _ (blk_lt BM.out)).trans BM.out)
 replace HW0_0 := Aside0.mk (Kd.R_below HW0_0.out hb)
 replace HW0_4 := Aside0.mk (Kd.R_below HW0_4.out hb)
 replace BW0 := Aside0.mk ((hb.block _ (blk_lt BW0.out)).trans BW0.out)
 replace HX0 := Aside0.mk (Kd.S_below HX0.out hb)
 replace HX1 := Aside0.mk (Kd.R_below HX1.out hb)
 replace HX2 := Aside0.mk (Kd.R_below HX2.out hb)
 replace BX := Aside0.mk ((hb.block _ (blk_lt BX.out)).trans BX.out)
 replace HG0_0 := Aside0.mk (Kd.R_below HG0_0.out hb)
 replace HG0_4 := Aside0.mk (Kd.R_below HG0_4.out hb)
 replace BG0 := Aside0.mk ((hb.block _ (blk_lt BG0.out)).trans BG0.out)
 clear hb HT
 have mc0 := (blk_cell BM.out 0).trans rfl; have mc1 := (blk_cell BM.out 1).trans rfl; have mc2 := (blk_cell BM.out 2).trans rfl; have mc3 := (blk_cell BM.out 3).trans rfl; have mc4 := (blk_cell BM.out 4).trans rfl
 have n0 := (blk_cell BX.out 0).trans rfl; have n1 := (blk_cell BX.out 1).trans rfl; have n2 := (blk_cell BX.out 2).trans rfl; have n3 := (blk_cell BX.out 3).trans rfl; have n4 := (blk_cell BX.out 4).trans rfl
 go_wp2
 refine start_ (n := 5) (S := fun w' => Aside0 (Below w12.heap.size w12 w') ∧ w'.cell? (⟨w.heap.size, 0, none⟩) = some (.slice A1_0 l1_0.length c1_0) ∧ w'.cell? (⟨w.heap.size, 1, none⟩) = some (.int .i64 a1_1) ∧ w'.cell? (⟨w.heap.size, 2, none⟩) = some (.int .i64 a1_2) ∧ w'.cell? (⟨w.heap.size, 3, none⟩) = some (.int .i64 a1_3) ∧ w'.cell? (⟨w.heap.size, 4, none⟩) = some (.slice A1_4 l1_4.length c1_4) ∧ w'.cell? (⟨gx, 0, none⟩) = some (.slice AX l1_0.length cX) ∧ w'.cell? (⟨gx, 1, none⟩) = some (.int .i64 a1_1) ∧ w'.cell? (⟨gx, 2, none⟩) = some (.int .i64 a1_2) ∧ w'.cell? (⟨gx, 3, none⟩) = some (.int .i64 a1_3) ∧ w'.cell? (⟨gx, 4, none⟩) = some (.slice AY l1_4.length cY)) (ds := []) #[false, false, false, false, false] (by kernel_rfl) rfl rfl ⟨⟨below_drew1 (Below.refl _ _)⟩, (by go_simp), (by go_simp), (by go_simp), (by go_simp), (by go_simp), (by go_simp), (by go_simp), (by go_simp), (by go_simp), (by go_simp)⟩ (fun hHeld => ?_)
 refine tS 0 71 #[true, false, false, false, false] rfl rfl (by kernel_rfl) hHeld z9 ?_
 refine tS 1 72 #[true, true, false, false, false] rfl rfl (by kernel_rfl) hHeld z9 ?_
 refine one_ (i := 2) (N := some 73) #[true, true, true, false, false] rfl rfl (by kernel_rfl) (by decide) (fun K hK => ?_)
 refine goes_ Try.func11 (by kernel_rfl) rfl #[.agg #[.slice A1_0 l1_0.length c1_0, .int .i64 a1_1, .int .i64 a1_2, .int .i64 a1_3, .slice A1_4 l1_4.length c1_4]] (by rfl) rfl rfl z5 ?_
 with_reducible refine (laws_toMem.calls k A1_0 c1_0 l1_0 a1_1 a1_2 a1_3 A1_4 c1_4 l1_4 l1_0 a1_1 a1_2 a1_3 l1_4 _ (Kd.C_below HR1_0.out (below_step HB.out hHeld.1.out)) HC1_0.out (Kd.C_below HR1_4.out (below_step HB.out hHeld.1.out)) HC1_4.out H4.out).mono ?_
 rintro e wb ⟨vm, vn, rfl, hm_, hn_, hbb⟩
 have HVM := Aside0.mk hm_
 have HVN := Aside0.mk hn_
 have HBB := Aside0.mk hbb
 obtain ⟨AVM, cVM, rfl⟩ := Kd.R_slice hm_
 obtain ⟨AVN, cVN, rfl⟩ := Kd.R_slice hn_
 refine ⟨_, rfl, ?_⟩
 refine hK.out _ _ ⟨⟨below_step hHeld.1.out hbb⟩, (pw_cell_below hbb hHeld.2.1), (pw_cell_below hbb hHeld.2.2.1), (pw_cell_below hbb hHeld.2.2.2.1), (pw_cell_below hbb hHeld.2.2.2.2.1), (pw_cell_below hbb hHeld.2.2.2.2.2.1), (pw_cell_below hbb hHeld.2.2.2.2.2.2.1), (pw_cell_below hbb hHeld.2.2.2.2.2.2.2.1), (pw_cell_below hbb hHeld.2.2.2.2.2.2.2.2.1), (pw_cell_below hbb hHeld.2.2.2.2.2.2.2.2.2.1), (pw_cell_below hbb hHeld.2.2.2.2.2.2.2.2.2.2)⟩ (fun hHeld => ?_)
 clear hK K
 refine norm_ (a' := ?_) ?_ ?_
 rotate_left
 ·show Act.put _ (some 73) _ = _
  simp only [Act.put, lA1, lA2, lA3, i64_w, i32_w]
  rfl
 refine one_ (i := 3) (N := some 74) #[true, true, true, true, false] rfl rfl (by kernel_rfl) (by decide) (fun K hK => ?_)
 refine goes_ Try.func13 (by kernel_rfl) rfl #[.agg #[.slice AX l1_0.length cX, .int .i64 a1_1, .int .i64 a1_2, .int .i64 a1_3, .slice AY l1_4.length cY], .agg #[.slice AVM l1_0.length cVM, .int .i64 a1_1, .int .i64 a1_2, .int .i64 a1_3, .slice AVN l1_4.length cVN]] (by rfl) rfl rfl z5 ?_
 with_reducible refine (laws_eqMem.calls k AX cX l1_0 a1_1 a1_2 a1_3 AY cY l1_4 AVM cVM l1_0 a1_1 a1_2 a1_3 AVN cVN l1_4 true _ (Kd.C_below (Kd.R_reads' HX1.out).2.2 hHeld.1.out) (Kd.R_reads' HX1.out).2.1 (Kd.C_below (Kd.R_reads' HX2.out).2.2 hHeld.1.out) (Kd.R_reads' HX2.out).2.1 (Kd.C_below (Kd.R_reads' HVM.out).2.2 (Below.refl _ _)) (Kd.R_reads' HVM.out).2.1 (Kd.C_below (Kd.R_reads' HVN.out).2.2 (Below.refl _ _)) (Kd.R_reads' HVN.out).2.1 Hem.out).mono ?_
 rintro e wc ⟨rfl, hbc⟩
 refine ⟨_, rfl, ?_⟩
 refine hK.out _ _ ⟨⟨below_step hHeld.1.out hbc⟩, (pw_cell_below hbc hHeld.2.1), (pw_cell_below hbc hHeld.2.2.1), (pw_cell_below hbc hHeld.2.2.2.1), (pw_cell_below hbc hHeld.2.2.2.2.1), (pw_cell_below hbc hHeld.2.2.2.2.2.1), (pw_cell_below hbc hHeld.2.2.2.2.2.2.1), (pw_cell_below hbc hHeld.2.2.2.2.2.2.2.1), (pw_cell_below hbc hHeld.2.2.2.2.2.2.2.2.1), (pw_cell_below hbc hHeld.2.2.2.2.2.2.2.2.2.1), (pw_cell_below hbc hHeld.2.2.2.2.2.2.2.2.2.2)⟩ (fun hHeld => ?_)
 clear hK K
 refine norm_ (a' := ?_) ?_ ?_
 rotate_left
 ·show Act.put _ (some 74) _ = _
  simp only [Act.put, lA1, lA2, lA3, i64_w, i32_w]
  rfl
 refine pS 4 75 #[true, true, true, true, true] ?_
 refine done_ (by kernel_rfl) ?_
 have hb := hHeld.1.out
 clear hHeld
 replace HB := Aside0.mk (below_step HB.out hb)
 replace BM := Aside0.mk ((hb.block _ (blk_lt BM.out)).trans BM.out)
 replace HW0_0 := Aside0.mk (Kd.R_below HW0_0.out hb)
 replace HW0_4 := Aside0.mk (Kd.R_below HW0_4.out hb)
 replace BW0 := Aside0.mk ((hb.block _ (blk_lt BW0.out)).trans BW0.out)
 replace HX0 := Aside0.mk (Kd.S_below HX0.out hb)
 replace HX1 := Aside0.mk (Kd.R_below HX1.out hb)
 replace HX2 := Aside0.mk (Kd.R_below HX2.out hb)
 replace BX := Aside0.mk ((hb.block _ (blk_lt BX.out)).trans BX.out)
 replace HG0_0 := Aside0.mk (Kd.R_below HG0_0.out hb)
 replace HG0_4 := Aside0.mk (Kd.R_below HG0_4.out hb)
 replace BG0 := Aside0.mk ((hb.block _ (blk_lt BG0.out)).trans BG0.out)
 clear hb HVM HVN HBB
 clear mc0 mc1 mc2 mc3 mc4
 clear n0 n1 n2 n3 n4
 go_wp2_with fail
 go_at_call 15
 refine (laws_markClassS.calls k (fun k_ => s3 ≤ k_ ∧ k_ < s4) AX0 cs.length cX0 cs 1 k1 w _ HB.out HX0.out HCL.out Hk1.out).mono ?_
 rintro e w14 ⟨rfl, hB_, hk⟩
 replace HB := Aside0.mk hB_
 replace BM := Aside0.mk (blk_kept BM.out hk (by intro hs; have := HO.out; omega))
 replace HW0_0 := Aside0.mk (Kd.R_kept HW0_0.out hk (fun k_ hk_ hs_ => by have := HO.out; omega))
 replace HW0_4 := Aside0.mk (Kd.R_kept HW0_4.out hk (fun k_ hk_ hs_ => by have := HO.out; omega))
 replace BW0 := Aside0.mk (blk_kept BW0.out hk (by intro hs_; have := HO.out; omega))
 replace HX1 := Aside0.mk (Kd.R_kept HX1.out hk (fun k_ hk_ hs_ => by have := HO.out; omega))
 replace HX2 := Aside0.mk (Kd.R_kept HX2.out hk (fun k_ hk_ hs_ => by have := HO.out; omega))
 replace BX := Aside0.mk (blk_kept BX.out hk (by intro hs_; have := HO.out; omega))
 replace HG0_0 := Aside0.mk (Kd.R_kept HG0_0.out hk (fun k_ hk_ hs_ => by have := HO.out; omega))
 replace HG0_4 := Aside0.mk (Kd.R_kept HG0_4.out hk (fun k_ hk_ hs_ => by have := HO.out; omega))
 replace BG0 := Aside0.mk (blk_kept BG0.out hk (by intro hs_; have := HO.out; omega))
 clear hk hB_ HX0
 have n0 := (blk_cell BX.out 0).trans rfl; have n1 := (blk_cell BX.out 1).trans rfl; have n2 := (blk_cell BX.out 2).trans rfl; have n3 := (blk_cell BX.out 3).trans rfl; have n4 := (blk_cell BX.out 4).trans rfl
 go_wp2_with fail
 go_at_call 16
 refine (laws_markMem.calls k (fun k_ => s4 ≤ k_ ∧ k_ < s5) _ l1_0 a1_1 a1_2 a1_3 (fun k_ => s4 ≤ k_ ∧ k_ < s5) _ l1_4 k1 k2 y0 y1 w _ HB.out HX1.out HX2.out Hkm.out).mono ?_
 rintro e w15 ⟨rfl, _, _, hB_, hk⟩
 clear n0 n1 n2 n3 n4
 replace HB := Aside0.mk hB_
 replace BM := Aside0.mk (blk_kept BM.out hk (by intro hs; have := HO.out; omega))
 replace HW0_0 := Aside0.mk (Kd.R_kept HW0_0.out hk (fun k_ hk_ hs_ => by have := HO.out; omega))
 replace HW0_4 := Aside0.mk (Kd.R_kept HW0_4.out hk (fun k_ hk_ hs_ => by have := HO.out; omega))
 replace BW0 := Aside0.mk (blk_kept BW0.out hk (by intro hs_; have := HO.out; omega))
 replace HG0_0 := Aside0.mk (Kd.R_kept HG0_0.out hk (fun k_ hk_ hs_ => by have := HO.out; omega))
 replace HG0_4 := Aside0.mk (Kd.R_kept HG0_4.out hk (fun k_ hk_ hs_ => by have := HO.out; omega))
 replace BG0 := Aside0.mk (blk_kept BG0.out hk (by intro hs_; have := HO.out; omega))
 clear hk hB_ HX1 HX2 BX
 have n0 := (blk_cell BW0.out 0).trans rfl; have n1 := (blk_cell BW0.out 1).trans rfl; have n2 := (blk_cell BW0.out 2).trans rfl; have n3 := (blk_cell BW0.out 3).trans rfl; have n4 := (blk_cell BW0.out 4).trans rfl
 have mc0 := (blk_cell BG0.out 0).trans rfl; have mc1 := (blk_cell BG0.out 1).trans rfl; have mc2 := (blk_cell BG0.out 2).trans rfl; have mc3 := (blk_cell BG0.out 3).trans rfl; have mc4 := (blk_cell BG0.out 4).trans rfl
 go_wp2_with fail
 go_at_call 13
 refine (laws_eqMem.calls k AG0_0 cG0_0 r0_0 r0_1 r0_2 r0_3 AG0_4 cG0_4 r0_4 AW0_0 cW0_0 r0_0 r0_1 r0_2 r0_3 AW0_4 cW0_4 r0_4 true _ (Kd.R_reads' HG0_0.out).2.2 (Kd.R_reads' HG0_0.out).2.1 (Kd.R_reads' HG0_4.out).2.2 (Kd.R_reads' HG0_4.out).2.1 (Kd.R_reads' HW0_0.out).2.2 (Kd.R_reads' HW0_0.out).2.1 (Kd.R_reads' HW0_4.out).2.2 (Kd.R_reads' HW0_4.out).2.1 He0.out).mono ?_
 rintro e wq ⟨rfl, hb⟩
 try clear mc0 mc1 mc2 mc3 mc4
 clear n0 n1 n2 n3 n4
 replace HB := Aside0.mk (below_step HB.out hb)
 replace BM := Aside0.mk ((hb.block _ (blk_lt BM.out)).trans BM.out)
 replace HW0_0 := Aside0.mk (Kd.R_below HW0_0.out hb)
 replace HW0_4 := Aside0.mk (Kd.R_below HW0_4.out hb)
 replace BW0 := Aside0.mk ((hb.block _ (blk_lt BW0.out)).trans BW0.out)
 replace HG0_0 := Aside0.mk (Kd.R_below HG0_0.out hb)
 replace HG0_4 := Aside0.mk (Kd.R_below HG0_4.out hb)
 replace BG0 := Aside0.mk ((hb.block _ (blk_lt BG0.out)).trans BG0.out)
 clear hb
 have n0 := (blk_cell BG0.out 0).trans rfl; have n1 := (blk_cell BG0.out 1).trans rfl; have n2 := (blk_cell BG0.out 2).trans rfl; have n3 := (blk_cell BG0.out 3).trans rfl; have n4 := (blk_cell BG0.out 4).trans rfl
 go_wp2_with fail
 go_at_call 16
 refine (laws_markMem.calls k (fun k_ => s6 ≤ k_ ∧ k_ < s7) _ r0_0 r0_1 r0_2 r0_3 (fun k_ => s6 ≤ k_ ∧ k_ < s7) _ r0_4 1 q0 u0_0 u0_4 w _ HB.out HG0_0.out HG0_4.out Hm0.out).mono ?_
 rintro e w16 ⟨rfl, hg_, hh_, hB_, hk⟩
 clear n0 n1 n2 n3 n4
 have HGn := Aside0.mk (show Kd.R (Kd.int .i64) 3 w16 w.heap.size (fun k_ => s6 ≤ k_ ∧ k_ < s7) (.slice AG0_0 r0_0.length cG0_0) u0_0 from Kd.R_of_own (Kd.own_of_R hg_) HG0_0.out.1)
 have HGm := Aside0.mk (show Kd.R Kd.bool 4 w16 w.heap.size (fun k_ => s6 ≤ k_ ∧ k_ < s7) (.slice AG0_4 r0_4.length cG0_4) u0_4 from Kd.R_of_own (Kd.own_of_R hh_) HG0_4.out.1)
 replace HB := Aside0.mk hB_
 replace BM := Aside0.mk (blk_kept BM.out hk (by intro hs; have := HO.out; omega))
 replace HW0_0 := Aside0.mk (Kd.R_kept HW0_0.out hk (fun k_ hk_ hs_ => by have := HO.out; omega))
 replace HW0_4 := Aside0.mk (Kd.R_kept HW0_4.out hk (fun k_ hk_ hs_ => by have := HO.out; omega))
 replace BW0 := Aside0.mk (blk_kept BW0.out hk (by intro hs_; have := HO.out; omega))
 replace BG0 := Aside0.mk (blk_kept BG0.out hk (by intro hs_; have := HO.out; omega))
 replace HG0_0 := HGn
 replace HG0_4 := HGm
 clear hk hB_ HGn HGm hg_ hh_
 have HL0_0 := Aside0.mk (Kd.R_reads' HG0_0.out).1
 rw [HL0_0.out] at HG0_0
 have HL0_4 := Aside0.mk (Kd.R_reads' HG0_4.out).1
 rw [HL0_4.out] at HG0_4
 rw [HL0_0.out, HL0_4.out] at BG0
 have n0 := (blk_cell BG0.out 0).trans rfl; have n1 := (blk_cell BG0.out 1).trans rfl; have n2 := (blk_cell BG0.out 2).trans rfl; have n3 := (blk_cell BG0.out 3).trans rfl; have n4 := (blk_cell BG0.out 4).trans rfl
 go_wp2_with fail
 go_at_call 17
 refine (laws_heldMem.calls k AG0_0 cG0_0 u0_0 r0_1 r0_2 r0_3 AG0_4 cG0_4 u0_4 1 q0 _ (Kd.R_reads' HG0_0.out).2.2 (Kd.R_reads' HG0_0.out).2.1 (Kd.R_reads' HG0_4.out).2.2 (Kd.R_reads' HG0_4.out).2.1 Hq0.out).mono ?_
 rintro e w17 ⟨rfl, hb⟩
 clear n0 n1 n2 n3 n4
 replace HB := Aside0.mk (below_step HB.out hb)
 replace BM := Aside0.mk ((hb.block _ (blk_lt BM.out)).trans BM.out)
 replace HW0_0 := Aside0.mk (Kd.R_below HW0_0.out hb)
 replace HW0_4 := Aside0.mk (Kd.R_below HW0_4.out hb)
 replace BW0 := Aside0.mk ((hb.block _ (blk_lt BW0.out)).trans BW0.out)
 replace BG0 := Aside0.mk ((hb.block _ (blk_lt BG0.out)).trans BG0.out)
 replace HG0_0 := Aside0.mk (Kd.R_below HG0_0.out hb)
 replace HG0_4 := Aside0.mk (Kd.R_below HG0_4.out hb)
 clear hb
 have mc0 := (blk_cell BM.out 0).trans rfl; have mc1 := (blk_cell BM.out 1).trans rfl; have mc2 := (blk_cell BM.out 2).trans rfl; have mc3 := (blk_cell BM.out 3).trans rfl; have mc4 := (blk_cell BM.out 4).trans rfl
 go_wp2
 refine start_ (n := 14) (S := fun w' => Aside0 (Below w17.heap.size w17 w') ∧ w'.cell? (⟨w.heap.size, 0, none⟩) = some (.slice A1_0 l1_0.length c1_0) ∧ w'.cell? (⟨w.heap.size, 1, none⟩) = some (.int .i64 a1_1) ∧ w'.cell? (⟨w.heap.size, 2, none⟩) = some (.int .i64 a1_2) ∧ w'.cell? (⟨w.heap.size, 3, none⟩) = some (.int .i64 a1_3) ∧ w'.cell? (⟨w.heap.size, 4, none⟩) = some (.slice A1_4 l1_4.length c1_4)) (ds := [12]) #[false, false, false, false, false, false, false, false, false, false, false, false, false, false] (by kernel_rfl) rfl rfl ⟨⟨below_drew1 (Below.refl _ _)⟩, (by go_simp), (by go_simp), (by go_simp), (by go_simp), (by go_simp)⟩ (fun hHeld => ?_)
 generalize w17.drew = Wd at hHeld ⊢
 refine pS 0 107 (lA 14 1) ?_
 refine pS 4 111 (lA 14 17) ?_
 refine pS 5 112 (lA 14 49) ?_
 refine pS 6 113 (lA 14 113) ?_
 refine tS 2 109 (lA 14 117) rfl rfl (by kernel_rfl) hHeld z4 ?_
 refine join_ (σ := Value × Value × Option Addr × Nat × Option Addr × Nat × Nat) 2 (lA 14 4095) (fun s => [(108, s.1), (110, s.2.1), (114, .tuple #[.agg #[.slice s.2.2.1 r0_0.length s.2.2.2.1, .int .i64 r0_1, .int .i64 r0_2, .int .i64 r0_3, .slice s.2.2.2.2.1 r0_4.length s.2.2.2.2.2.1], .int .i64 r1]), (21, .pointer (some ⟨s.2.2.2.2.2.2, 0, none⟩)), (106, .tuple #[.agg #[.slice s.2.2.1 r0_0.length s.2.2.2.1, .int .i64 r0_1, .int .i64 r0_2, .int .i64 r0_3, .slice s.2.2.2.2.1 r0_4.length s.2.2.2.2.2.1], .int .i64 r1]), (115, .agg #[.slice s.2.2.1 r0_0.length s.2.2.2.1, .int .i64 r0_1, .int .i64 r0_2, .int .i64 r0_3, .slice s.2.2.2.2.1 r0_4.length s.2.2.2.2.2.1]), (116, .int .i64 r1)]) (fun s w' => Kd.R (Kd.int .i64) 3 w' w.heap.size (fun k_ => k_ ≠ s.2.2.2.2.2.2) (.slice s.2.2.1 r0_0.length s.2.2.2.1) r0_0 ∧ Kd.R Kd.bool 4 w' w.heap.size (fun k_ => k_ ≠ s.2.2.2.2.2.2) (.slice s.2.2.2.2.1 r0_4.length s.2.2.2.2.2.1) r0_4 ∧ w'.heap[s.2.2.2.2.2.2]? = some (.cells #[.slice none 0 0, .int .i64 0, .int .i64 0, .int .i64 0, .slice none 0 0] 29 (0, 0)) ∧ w17.heap.size ≤ s.2.2.2.2.2.2 ∧ (Aside0 (Below w17.heap.size w17 w') ∧ w'.cell? (⟨w.heap.size, 0, none⟩) = some (.slice A1_0 l1_0.length c1_0) ∧ w'.cell? (⟨w.heap.size, 1, none⟩) = some (.int .i64 a1_1) ∧ w'.cell? (⟨w.heap.size, 2, none⟩) = some (.int .i64 a1_2) ∧ w'.cell? (⟨w.heap.size, 3, none⟩) = some (.int .i64 a1_3) ∧ w'.cell? (⟨w.heap.size, 4, none⟩) = some (.slice A1_4 l1_4.length c1_4))) ?_ ?_
 rotate_left
 ·intro hCont
  refine two_ (i := 1) (j := 11) (Ni := some 108) (Nj := some 21) (lA 14 119) (lA 14 2165) rfl rfl rfl rfl (by kernel_rfl) (by decide) (by decide) (fun K hK => ?_) (fun K hK => ?_)
  ·skip
   refine goes_ Try.func10 (by kernel_rfl) rfl #[.slice A0 l0.length c0] (by rfl) rfl rfl z5 ?_
   with_reducible refine (laws_toClassS.calls k A0 c0 l0 cs _ (Kd.C_below HR0.out (below_step HB.out hHeld.1.out)) HC0.out H3.out).mono ?_
   rintro e wa ⟨vc, rfl, hc, hba⟩
   have HVC := Aside0.mk hc
   obtain ⟨AVC, cVC, rfl⟩ := Kd.S_slice hc
   refine ⟨_, rfl, ?_⟩
   refine hK.out _ _ ⟨⟨below_step hHeld.1.out hba⟩, (pw_cell_below hba hHeld.2.1), (pw_cell_below hba hHeld.2.2.1), (pw_cell_below hba hHeld.2.2.2.1), (pw_cell_below hba hHeld.2.2.2.2.1), (pw_cell_below hba hHeld.2.2.2.2.2)⟩ (fun hHeld => ?_)
   clear hK K
   refine norm_ (a' := ?_) ?_ ?_
   rotate_left
   ·show Act.put _ (some 108) _ = _
    simp only [Act.put, lA1, lA2, lA3, i64_w, i32_w]
    rfl
   refine two_ (i := 3) (j := 11) (Ni := some 110) (Nj := some 21) (lA 14 127) (lA 14 2167) rfl rfl rfl rfl (by kernel_rfl) (by decide) (by decide) (fun K hK => ?_) (fun K hK => ?_)
   ·skip
    refine goes_ Try.func11 (by kernel_rfl) rfl #[.agg #[.slice A1_0 l1_0.length c1_0, .int .i64 a1_1, .int .i64 a1_2, .int .i64 a1_3, .slice A1_4 l1_4.length c1_4]] (by rfl) rfl rfl z5 ?_
    with_reducible refine (laws_toMem.calls k A1_0 c1_0 l1_0 a1_1 a1_2 a1_3 A1_4 c1_4 l1_4 l1_0 a1_1 a1_2 a1_3 l1_4 _ (Kd.C_below HR1_0.out (below_step HB.out hHeld.1.out)) HC1_0.out (Kd.C_below HR1_4.out (below_step HB.out hHeld.1.out)) HC1_4.out H4.out).mono ?_
    rintro e wb ⟨vm, vn, rfl, hm_, hn_, hbb⟩
    have HVM := Aside0.mk hm_
    have HVN := Aside0.mk hn_
    have HBB := Aside0.mk hbb
    obtain ⟨AVM, cVM, rfl⟩ := Kd.R_slice hm_
    obtain ⟨AVN, cVN, rfl⟩ := Kd.R_slice hn_
    refine ⟨_, rfl, ?_⟩
    refine hK.out _ _ ⟨⟨below_step hHeld.1.out hbb⟩, (pw_cell_below hbb hHeld.2.1), (pw_cell_below hbb hHeld.2.2.1), (pw_cell_below hbb hHeld.2.2.2.1), (pw_cell_below hbb hHeld.2.2.2.2.1), (pw_cell_below hbb hHeld.2.2.2.2.2)⟩ (fun hHeld => ?_)
    clear hK K
    refine norm_ (a' := ?_) ?_ ?_
    rotate_left
    ·show Act.put _ (some 110) _ = _
     simp only [Act.put, lA1, lA2, lA3, i64_w, i32_w]
     rfl
    refine two_ (i := 7) (j := 11) (Ni := some 114) (Nj := some 21) (lA 14 255) (lA 14 2175) rfl rfl rfl rfl (by kernel_rfl) (by decide) (by decide) (fun K hK => ?_) (fun K hK => ?_)
    ·skip
     refine goes_ Try.func24 (by kernel_rfl) rfl #[.slice AVC cs.length cVC, .agg #[.slice AVM l1_0.length cVM, .int .i64 a1_1, .int .i64 a1_2, .int .i64 a1_3, .slice AVN l1_4.length cVN], .int .i64 a2, .int .i64 a3, .bool a4] (by rfl) rfl rfl z5 ?_
     with_reducible refine (impl_MemMake.calls k AVC cVC cs AVM cVM l1_0 a1_1 a1_2 a1_3 AVN cVN l1_4 a2 a3 a4 r0_0 r0_1 r0_2 r0_3 r0_4 r1 _ (Kd.C_below (Kd.R_reads' (Kd.S_R HVC.out)).2.2 HBB.out) (Kd.R_reads' (Kd.S_R HVC.out)).2.1 (Kd.C_below (Kd.R_reads' HVM.out).2.2 (Below.refl _ _)) (Kd.R_reads' HVM.out).2.1 (Kd.C_below (Kd.R_reads' HVN.out).2.2 (Below.refl _ _)) (Kd.R_reads' HVN.out).2.1 H6.out).mono ?_
     rintro e wc ⟨vw0_0, vw0_4, rfl, hv0_0, hv0_4, hbc⟩
     have HVw0_0 := Aside0.mk hv0_0
     have HVw0_4 := Aside0.mk hv0_4
     obtain ⟨AV0_0, cV0_0, ev0⟩ := Kd.R_slice hv0_0
     subst ev0
     obtain ⟨AV0_4, cV0_4, ev4⟩ := Kd.R_slice hv0_4
     subst ev4
     have HWB := Aside0.mk (below_size (below_step HB.out hHeld.1.out))
     have HWc := Aside0.mk (below_step hHeld.1.out hbc)
     refine ⟨_, rfl, ?_⟩
     refine hK.out _ _ ⟨⟨below_step hHeld.1.out hbc⟩, (pw_cell_below hbc hHeld.2.1), (pw_cell_below hbc hHeld.2.2.1), (pw_cell_below hbc hHeld.2.2.2.1), (pw_cell_below hbc hHeld.2.2.2.2.1), (pw_cell_below hbc hHeld.2.2.2.2.2)⟩ (fun hHeld => ?_)
     clear hK K
     refine norm_ (a' := ?_) ?_ ?_
     rotate_left
     ·show Act.put _ (some 114) _ = _
      simp only [Act.put, lA1, lA2, lA3, i64_w, i32_w]
      rfl
     refine pS 8 106 (lA 14 511) ?_
     refine pS 9 115 (lA 14 1023) ?_
     refine pS 10 116 (lA 14 2047) ?_
     refine one_ (i := 11) (N := some 21) (lA 14 4095) rfl rfl (by kernel_rfl) (by decide) (fun K hK => ?_)
     have hgX := hHeld.1.out.size
     refine value_ (w1 := ?_) (v := ?_) (by rfl) rfl ?_ ?_
     rotate_left 2
     ·go_simp
      constructor
      ·rfl
      ·rfl
     refine hK.out _ _ ⟨⟨below_alloc hHeld.1.out _⟩, (pw_cell_below (below_alloc (Below.refl _ _) _) hHeld.2.1), (pw_cell_below (below_alloc (Below.refl _ _) _) hHeld.2.2.1), (pw_cell_below (below_alloc (Below.refl _ _) _) hHeld.2.2.2.1), (pw_cell_below (below_alloc (Below.refl _ _) _) hHeld.2.2.2.2.1), (pw_cell_below (below_alloc (Below.refl _ _) _) hHeld.2.2.2.2.2)⟩ (fun hHeld => ?_)
     clear hK K
     refine norm_ (a' := ?_) ?_ ?_
     rotate_left
     ·show Act.put _ (some 21) _ = _
      simp only [Act.put, lA1, lA2, lA3, i64_w, i32_w]
      rfl
     exact norm_ z32 (hCont (.slice AVC cs.length cVC, .agg #[.slice AVM l1_0.length cVM, .int .i64 a1_1, .int .i64 a1_2, .int .i64 a1_3, .slice AVN l1_4.length cVN], AV0_0, cV0_0, AV0_4, cV0_4, wc.heap.size) _ ⟨(Kd.R_below (Kd.R_lower (Kd.R_mono (Kd.R_bound HVw0_0.out) (fun k_ hk_ => by have h_ := hk_.2.2.1; show k_ ≠ wc.heap.size; omega)) HWB.out) (below_alloc (Below.refl wc.heap.size wc) _)), (Kd.R_below (Kd.R_lower (Kd.R_mono (Kd.R_bound HVw0_4.out) (fun k_ hk_ => by have h_ := hk_.2.2.1; show k_ ≠ wc.heap.size; omega)) HWB.out) (below_alloc (Below.refl wc.heap.size wc) _)), blk_new wc _, hgX, hHeld⟩)
    ·skip
     have hgX := hHeld.1.out.size
     refine value_ (w1 := ?_) (v := ?_) (by rfl) rfl ?_ ?_
     rotate_left 2
     ·go_simp
      constructor
      ·rfl
      ·rfl
     refine hK.out _ _ ⟨⟨below_alloc hHeld.1.out _⟩, (pw_cell_below (below_alloc (Below.refl _ _) _) hHeld.2.1), (pw_cell_below (below_alloc (Below.refl _ _) _) hHeld.2.2.1), (pw_cell_below (below_alloc (Below.refl _ _) _) hHeld.2.2.2.1), (pw_cell_below (below_alloc (Below.refl _ _) _) hHeld.2.2.2.2.1), (pw_cell_below (below_alloc (Below.refl _ _) _) hHeld.2.2.2.2.2)⟩ (fun hHeld => ?_)
     clear hK K
     refine norm_ (a' := ?_) ?_ ?_
     rotate_left
     ·show Act.put _ (some 21) _ = _
      simp only [Act.put, lA1, lA2, lA3, i64_w, i32_w]
      rfl
     refine one_ (i := 7) (N := some 114) (lA 14 2303) rfl rfl (by kernel_rfl) (by decide) (fun K hK => ?_)
     have HGB := Aside0.mk (show wb.heap.size < _ from blk_lt (blk_new wb (.cells #[.slice none 0 0, .int .i64 0, .int .i64 0, .int .i64 0, .slice none 0 0] 29 (0, 0))))
     replace HBB := Aside0.mk (below_alloc HBB.out (.cells #[.slice none 0 0, .int .i64 0, .int .i64 0, .int .i64 0, .slice none 0 0] 29 (0, 0)))
     replace HVM := Aside0.mk (Kd.R_below HVM.out (below_alloc (Below.refl wb.heap.size wb) (.cells #[.slice none 0 0, .int .i64 0, .int .i64 0, .int .i64 0, .slice none 0 0] 29 (0, 0))))
     replace HVN := Aside0.mk (Kd.R_below HVN.out (below_alloc (Below.refl wb.heap.size wb) (.cells #[.slice none 0 0, .int .i64 0, .int .i64 0, .int .i64 0, .slice none 0 0] 29 (0, 0))))
     refine goes_ Try.func24 (by kernel_rfl) rfl #[.slice AVC cs.length cVC, .agg #[.slice AVM l1_0.length cVM, .int .i64 a1_1, .int .i64 a1_2, .int .i64 a1_3, .slice AVN l1_4.length cVN], .int .i64 a2, .int .i64 a3, .bool a4] (by rfl) rfl rfl z5 ?_
     with_reducible refine (impl_MemMake.calls k AVC cVC cs AVM cVM l1_0 a1_1 a1_2 a1_3 AVN cVN l1_4 a2 a3 a4 r0_0 r0_1 r0_2 r0_3 r0_4 r1 _ (Kd.C_below (Kd.R_reads' (Kd.S_R HVC.out)).2.2 HBB.out) (Kd.R_reads' (Kd.S_R HVC.out)).2.1 (Kd.C_below (Kd.R_reads' HVM.out).2.2 (Below.refl _ _)) (Kd.R_reads' HVM.out).2.1 (Kd.C_below (Kd.R_reads' HVN.out).2.2 (Below.refl _ _)) (Kd.R_reads' HVN.out).2.1 H6.out).mono ?_
     rintro e wc ⟨vw0_0, vw0_4, rfl, hv0_0, hv0_4, hbc⟩
     have HVw0_0 := Aside0.mk hv0_0
     have HVw0_4 := Aside0.mk hv0_4
     obtain ⟨AV0_0, cV0_0, ev0⟩ := Kd.R_slice hv0_0
     subst ev0
     obtain ⟨AV0_4, cV0_4, ev4⟩ := Kd.R_slice hv0_4
     subst ev4
     have HWB := Aside0.mk (below_size (below_step HB.out hHeld.1.out))
     have HWc := Aside0.mk (below_step hHeld.1.out hbc)
     have hbox := blk_below (blk_new wb (.cells #[.slice none 0 0, .int .i64 0, .int .i64 0, .int .i64 0, .slice none 0 0] 29 (0, 0))) hbc
     refine ⟨_, rfl, ?_⟩
     refine hK.out _ _ ⟨⟨below_step hHeld.1.out hbc⟩, (pw_cell_below hbc hHeld.2.1), (pw_cell_below hbc hHeld.2.2.1), (pw_cell_below hbc hHeld.2.2.2.1), (pw_cell_below hbc hHeld.2.2.2.2.1), (pw_cell_below hbc hHeld.2.2.2.2.2)⟩ (fun hHeld => ?_)
     clear hK K
     refine norm_ (a' := ?_) ?_ ?_
     rotate_left
     ·show Act.put _ (some 114) _ = _
      simp only [Act.put, lA1, lA2, lA3, i64_w, i32_w]
      rfl
     refine pS 8 106 (lA 14 2559) ?_
     refine pS 9 115 (lA 14 3071) ?_
     refine pS 10 116 (lA 14 4095) ?_
     exact norm_ z32 (hCont (.slice AVC cs.length cVC, .agg #[.slice AVM l1_0.length cVM, .int .i64 a1_1, .int .i64 a1_2, .int .i64 a1_3, .slice AVN l1_4.length cVN], AV0_0, cV0_0, AV0_4, cV0_4, wb.heap.size) _ ⟨(Kd.R_lower (Kd.R_mono (Kd.R_bound HVw0_0.out) (fun k_ hk_ => by have h_ := hk_.2.1; have h2_ := HGB.out; show k_ ≠ wb.heap.size; omega)) HWB.out), (Kd.R_lower (Kd.R_mono (Kd.R_bound HVw0_4.out) (fun k_ hk_ => by have h_ := hk_.2.1; have h2_ := HGB.out; show k_ ≠ wb.heap.size; omega)) HWB.out), hbox, hgX, hHeld⟩)
   ·skip
    have hgX := hHeld.1.out.size
    refine value_ (w1 := ?_) (v := ?_) (by rfl) rfl ?_ ?_
    rotate_left 2
    ·go_simp
     constructor
     ·rfl
     ·rfl
    refine hK.out _ _ ⟨⟨below_alloc hHeld.1.out _⟩, (pw_cell_below (below_alloc (Below.refl _ _) _) hHeld.2.1), (pw_cell_below (below_alloc (Below.refl _ _) _) hHeld.2.2.1), (pw_cell_below (below_alloc (Below.refl _ _) _) hHeld.2.2.2.1), (pw_cell_below (below_alloc (Below.refl _ _) _) hHeld.2.2.2.2.1), (pw_cell_below (below_alloc (Below.refl _ _) _) hHeld.2.2.2.2.2)⟩ (fun hHeld => ?_)
    clear hK K
    refine norm_ (a' := ?_) ?_ ?_
    rotate_left
    ·show Act.put _ (some 21) _ = _
     simp only [Act.put, lA1, lA2, lA3, i64_w, i32_w]
     rfl
    refine one_ (i := 3) (N := some 110) (lA 14 2175) rfl rfl (by kernel_rfl) (by decide) (fun K hK => ?_)
    replace HVC := Aside0.mk (Kd.S_below HVC.out (below_alloc (Below.refl wa.heap.size wa) (.cells #[.slice none 0 0, .int .i64 0, .int .i64 0, .int .i64 0, .slice none 0 0] 29 (0, 0))))
    refine goes_ Try.func11 (by kernel_rfl) rfl #[.agg #[.slice A1_0 l1_0.length c1_0, .int .i64 a1_1, .int .i64 a1_2, .int .i64 a1_3, .slice A1_4 l1_4.length c1_4]] (by rfl) rfl rfl z5 ?_
    with_reducible refine (laws_toMem.calls k A1_0 c1_0 l1_0 a1_1 a1_2 a1_3 A1_4 c1_4 l1_4 l1_0 a1_1 a1_2 a1_3 l1_4 _ (Kd.C_below HR1_0.out (below_step HB.out hHeld.1.out)) HC1_0.out (Kd.C_below HR1_4.out (below_step HB.out hHeld.1.out)) HC1_4.out H4.out).mono ?_
    rintro e wb ⟨vm, vn, rfl, hm_, hn_, hbb⟩
    have HVM := Aside0.mk hm_
    have HVN := Aside0.mk hn_
    have HBB := Aside0.mk hbb
    obtain ⟨AVM, cVM, rfl⟩ := Kd.R_slice hm_
    obtain ⟨AVN, cVN, rfl⟩ := Kd.R_slice hn_
    have hbox := blk_below (blk_new wa (.cells #[.slice none 0 0, .int .i64 0, .int .i64 0, .int .i64 0, .slice none 0 0] 29 (0, 0))) hbb
    refine ⟨_, rfl, ?_⟩
    refine hK.out _ _ ⟨⟨below_step hHeld.1.out hbb⟩, (pw_cell_below hbb hHeld.2.1), (pw_cell_below hbb hHeld.2.2.1), (pw_cell_below hbb hHeld.2.2.2.1), (pw_cell_below hbb hHeld.2.2.2.2.1), (pw_cell_below hbb hHeld.2.2.2.2.2)⟩ (fun hHeld => ?_)
    clear hK K
    refine norm_ (a' := ?_) ?_ ?_
    rotate_left
    ·show Act.put _ (some 110) _ = _
     simp only [Act.put, lA1, lA2, lA3, i64_w, i32_w]
     rfl
    refine one_ (i := 7) (N := some 114) (lA 14 2303) rfl rfl (by kernel_rfl) (by decide) (fun K hK => ?_)
    have HGB := Aside0.mk (show wa.heap.size < _ from blk_lt hbox)
    refine goes_ Try.func24 (by kernel_rfl) rfl #[.slice AVC cs.length cVC, .agg #[.slice AVM l1_0.length cVM, .int .i64 a1_1, .int .i64 a1_2, .int .i64 a1_3, .slice AVN l1_4.length cVN], .int .i64 a2, .int .i64 a3, .bool a4] (by rfl) rfl rfl z5 ?_
    with_reducible refine (impl_MemMake.calls k AVC cVC cs AVM cVM l1_0 a1_1 a1_2 a1_3 AVN cVN l1_4 a2 a3 a4 r0_0 r0_1 r0_2 r0_3 r0_4 r1 _ (Kd.C_below (Kd.R_reads' (Kd.S_R HVC.out)).2.2 HBB.out) (Kd.R_reads' (Kd.S_R HVC.out)).2.1 (Kd.C_below (Kd.R_reads' HVM.out).2.2 (Below.refl _ _)) (Kd.R_reads' HVM.out).2.1 (Kd.C_below (Kd.R_reads' HVN.out).2.2 (Below.refl _ _)) (Kd.R_reads' HVN.out).2.1 H6.out).mono ?_
    rintro e wc ⟨vw0_0, vw0_4, rfl, hv0_0, hv0_4, hbc⟩
    have HVw0_0 := Aside0.mk hv0_0
    have HVw0_4 := Aside0.mk hv0_4
    obtain ⟨AV0_0, cV0_0, ev0⟩ := Kd.R_slice hv0_0
    subst ev0
    obtain ⟨AV0_4, cV0_4, ev4⟩ := Kd.R_slice hv0_4
    subst ev4
    have HWB := Aside0.mk (below_size (below_step HB.out hHeld.1.out))
    have HWc := Aside0.mk (below_step hHeld.1.out hbc)
    have hbox := blk_below hbox hbc
    refine ⟨_, rfl, ?_⟩
    refine hK.out _ _ ⟨⟨below_step hHeld.1.out hbc⟩, (pw_cell_below hbc hHeld.2.1), (pw_cell_below hbc hHeld.2.2.1), (pw_cell_below hbc hHeld.2.2.2.1), (pw_cell_below hbc hHeld.2.2.2.2.1), (pw_cell_below hbc hHeld.2.2.2.2.2)⟩ (fun hHeld => ?_)
    clear hK K
    refine norm_ (a' := ?_) ?_ ?_
    rotate_left
    ·show Act.put _ (some 114) _ = _
     simp only [Act.put, lA1, lA2, lA3, i64_w, i32_w]
     rfl
    refine pS 8 106 (lA 14 2559) ?_
    refine pS 9 115 (lA 14 3071) ?_
    refine pS 10 116 (lA 14 4095) ?_
    exact norm_ z32 (hCont (.slice AVC cs.length cVC, .agg #[.slice AVM l1_0.length cVM, .int .i64 a1_1, .int .i64 a1_2, .int .i64 a1_3, .slice AVN l1_4.length cVN], AV0_0, cV0_0, AV0_4, cV0_4, wa.heap.size) _ ⟨(Kd.R_lower (Kd.R_mono (Kd.R_bound HVw0_0.out) (fun k_ hk_ => by have h_ := hk_.2.1; have h2_ := HGB.out; show k_ ≠ wa.heap.size; omega)) HWB.out), (Kd.R_lower (Kd.R_mono (Kd.R_bound HVw0_4.out) (fun k_ hk_ => by have h_ := hk_.2.1; have h2_ := HGB.out; show k_ ≠ wa.heap.size; omega)) HWB.out), hbox, hgX, hHeld⟩)
  ·skip
   have hgX := hHeld.1.out.size
   refine value_ (w1 := ?_) (v := ?_) (by rfl) rfl ?_ ?_
   rotate_left 2
   ·go_simp
    constructor
    ·rfl
    ·rfl
   refine hK.out _ _ ⟨⟨below_alloc hHeld.1.out _⟩, (pw_cell_below (below_alloc (Below.refl _ _) _) hHeld.2.1), (pw_cell_below (below_alloc (Below.refl _ _) _) hHeld.2.2.1), (pw_cell_below (below_alloc (Below.refl _ _) _) hHeld.2.2.2.1), (pw_cell_below (below_alloc (Below.refl _ _) _) hHeld.2.2.2.2.1), (pw_cell_below (below_alloc (Below.refl _ _) _) hHeld.2.2.2.2.2)⟩ (fun hHeld => ?_)
   clear hK K
   refine norm_ (a' := ?_) ?_ ?_
   rotate_left
   ·show Act.put _ (some 21) _ = _
    simp only [Act.put, lA1, lA2, lA3, i64_w, i32_w]
    rfl
   refine one_ (i := 1) (N := some 108) (lA 14 2167) rfl rfl (by kernel_rfl) (by decide) (fun K hK => ?_)
   refine goes_ Try.func10 (by kernel_rfl) rfl #[.slice A0 l0.length c0] (by rfl) rfl rfl z5 ?_
   with_reducible refine (laws_toClassS.calls k A0 c0 l0 cs _ (Kd.C_below HR0.out (below_step HB.out hHeld.1.out)) HC0.out H3.out).mono ?_
   rintro e wa ⟨vc, rfl, hc, hba⟩
   have HVC := Aside0.mk hc
   obtain ⟨AVC, cVC, rfl⟩ := Kd.S_slice hc
   have hbox := blk_below (blk_new Wd (.cells #[.slice none 0 0, .int .i64 0, .int .i64 0, .int .i64 0, .slice none 0 0] 29 (0, 0))) hba
   refine ⟨_, rfl, ?_⟩
   refine hK.out _ _ ⟨⟨below_step hHeld.1.out hba⟩, (pw_cell_below hba hHeld.2.1), (pw_cell_below hba hHeld.2.2.1), (pw_cell_below hba hHeld.2.2.2.1), (pw_cell_below hba hHeld.2.2.2.2.1), (pw_cell_below hba hHeld.2.2.2.2.2)⟩ (fun hHeld => ?_)
   clear hK K
   refine norm_ (a' := ?_) ?_ ?_
   rotate_left
   ·show Act.put _ (some 108) _ = _
    simp only [Act.put, lA1, lA2, lA3, i64_w, i32_w]
    rfl
   refine one_ (i := 3) (N := some 110) (lA 14 2175) rfl rfl (by kernel_rfl) (by decide) (fun K hK => ?_)
   refine goes_ Try.func11 (by kernel_rfl) rfl #[.agg #[.slice A1_0 l1_0.length c1_0, .int .i64 a1_1, .int .i64 a1_2, .int .i64 a1_3, .slice A1_4 l1_4.length c1_4]] (by rfl) rfl rfl z5 ?_
   with_reducible refine (laws_toMem.calls k A1_0 c1_0 l1_0 a1_1 a1_2 a1_3 A1_4 c1_4 l1_4 l1_0 a1_1 a1_2 a1_3 l1_4 _ (Kd.C_below HR1_0.out (below_step HB.out hHeld.1.out)) HC1_0.out (Kd.C_below HR1_4.out (below_step HB.out hHeld.1.out)) HC1_4.out H4.out).mono ?_
   rintro e wb ⟨vm, vn, rfl, hm_, hn_, hbb⟩
   have HVM := Aside0.mk hm_
   have HVN := Aside0.mk hn_
   have HBB := Aside0.mk hbb
   obtain ⟨AVM, cVM, rfl⟩ := Kd.R_slice hm_
   obtain ⟨AVN, cVN, rfl⟩ := Kd.R_slice hn_
   have hbox := blk_below hbox hbb
   refine ⟨_, rfl, ?_⟩
   refine hK.out _ _ ⟨⟨below_step hHeld.1.out hbb⟩, (pw_cell_below hbb hHeld.2.1), (pw_cell_below hbb hHeld.2.2.1), (pw_cell_below hbb hHeld.2.2.2.1), (pw_cell_below hbb hHeld.2.2.2.2.1), (pw_cell_below hbb hHeld.2.2.2.2.2)⟩ (fun hHeld => ?_)
   clear hK K
   refine norm_ (a' := ?_) ?_ ?_
   rotate_left
   ·show Act.put _ (some 110) _ = _
    simp only [Act.put, lA1, lA2, lA3, i64_w, i32_w]
    rfl
   refine one_ (i := 7) (N := some 114) (lA 14 2303) rfl rfl (by kernel_rfl) (by decide) (fun K hK => ?_)
   have HGB := Aside0.mk (show Wd.heap.size < _ from blk_lt hbox)
   refine goes_ Try.func24 (by kernel_rfl) rfl #[.slice AVC cs.length cVC, .agg #[.slice AVM l1_0.length cVM, .int .i64 a1_1, .int .i64 a1_2, .int .i64 a1_3, .slice AVN l1_4.length cVN], .int .i64 a2, .int .i64 a3, .bool a4] (by rfl) rfl rfl z5 ?_
   with_reducible refine (impl_MemMake.calls k AVC cVC cs AVM cVM l1_0 a1_1 a1_2 a1_3 AVN cVN l1_4 a2 a3 a4 r0_0 r0_1 r0_2 r0_3 r0_4 r1 _ (Kd.C_below (Kd.R_reads' (Kd.S_R HVC.out)).2.2 HBB.out) (Kd.R_reads' (Kd.S_R HVC.out)).2.1 (Kd.C_below (Kd.R_reads' HVM.out).2.2 (Below.refl _ _)) (Kd.R_reads' HVM.out).2.1 (Kd.C_below (Kd.R_reads' HVN.out).2.2 (Below.refl _ _)) (Kd.R_reads' HVN.out).2.1 H6.out).mono ?_
   rintro e wc ⟨vw0_0, vw0_4, rfl, hv0_0, hv0_4, hbc⟩
   have HVw0_0 := Aside0.mk hv0_0
   have HVw0_4 := Aside0.mk hv0_4
   obtain ⟨AV0_0, cV0_0, ev0⟩ := Kd.R_slice hv0_0
   subst ev0
   obtain ⟨AV0_4, cV0_4, ev4⟩ := Kd.R_slice hv0_4
   subst ev4
   have HWB := Aside0.mk (below_size (below_step HB.out hHeld.1.out))
   have HWc := Aside0.mk (below_step hHeld.1.out hbc)
   have hbox := blk_below hbox hbc
   refine ⟨_, rfl, ?_⟩
   refine hK.out _ _ ⟨⟨below_step hHeld.1.out hbc⟩, (pw_cell_below hbc hHeld.2.1), (pw_cell_below hbc hHeld.2.2.1), (pw_cell_below hbc hHeld.2.2.2.1), (pw_cell_below hbc hHeld.2.2.2.2.1), (pw_cell_below hbc hHeld.2.2.2.2.2)⟩ (fun hHeld => ?_)
   clear hK K
   refine norm_ (a' := ?_) ?_ ?_
   rotate_left
   ·show Act.put _ (some 114) _ = _
    simp only [Act.put, lA1, lA2, lA3, i64_w, i32_w]
    rfl
   refine pS 8 106 (lA 14 2559) ?_
   refine pS 9 115 (lA 14 3071) ?_
   refine pS 10 116 (lA 14 4095) ?_
   exact norm_ z32 (hCont (.slice AVC cs.length cVC, .agg #[.slice AVM l1_0.length cVM, .int .i64 a1_1, .int .i64 a1_2, .int .i64 a1_3, .slice AVN l1_4.length cVN], AV0_0, cV0_0, AV0_4, cV0_4, Wd.heap.size) _ ⟨(Kd.R_lower (Kd.R_mono (Kd.R_bound HVw0_0.out) (fun k_ hk_ => by have h_ := hk_.2.1; have h2_ := HGB.out; show k_ ≠ Wd.heap.size; omega)) HWB.out), (Kd.R_lower (Kd.R_mono (Kd.R_bound HVw0_4.out) (fun k_ hk_ => by have h_ := hk_.2.1; have h2_ := HGB.out; show k_ ≠ Wd.heap.size; omega)) HWB.out), hbox, hgX, hHeld⟩)
 rintro ⟨vq0, vq1, AQ, cQ, AR, cR, gq⟩ w2_ ⟨hq0, hq1, hqz, hqg, hHeld⟩
 have HVw0_0 := Aside0.mk hq0
 have HVw0_4 := Aside0.mk hq1
 have HZ := Aside0.mk hqz
 have HGq := Aside0.mk hqg
 have HWc := hHeld.1
 have z0 := (blk_cell hqz 0).trans rfl; have z1 := (blk_cell hqz 1).trans rfl; have z2 := (blk_cell hqz 2).trans rfl; have z3 := (blk_cell hqz 3).trans rfl; have z4 := (blk_cell hqz 4).trans rfl
 have y0 := blk_frozen hqz 0; have y1 := blk_frozen hqz 1; have y2 := blk_frozen hqz 2; have y3 := blk_frozen hqz 3; have y4 := blk_frozen hqz 4
 clear hq0 hq1 hqz hqg
 refine norm_ (a' := ?_) ?_ ?_
 rotate_left
 ·simp only [putAll, Act.put, List.setIfInBounds_toArray, List.set_cons_zero, List.set_cons_succ]
  rfl
 refine last_ (i := 12) (N := none) (lA 14 8191) rfl rfl (by kernel_rfl) (by decide) (fun K hK => ?_)
 refine skip_ (w1 := ?_) (by rfl) rfl ?_ ?_
 rotate_left
 ·go_simp
  rfl
 refine hK.out _ _ ?_
 clear hK K
 refine pS 13 22 (lA 14 16383) ?_
 refine done_ (by kernel_rfl) ?_
 have BWn0 := Aside0.mk (show (memBox w2_ gq (.slice AQ r0_0.length cQ) (.int .i64 r0_1) (.int .i64 r0_2) (.int .i64 r0_3) (.slice AR r0_4.length cR)).heap[gq]? = some (.cells #[.slice AQ r0_0.length cQ, .int .i64 r0_1, .int .i64 r0_2, .int .i64 r0_3, .slice AR r0_4.length cR] 29 (0, 0)) from blk_box5 HZ.out)
 have HW8 := Aside0.mk (show Below w17.heap.size w17 (memBox w2_ gq (.slice AQ r0_0.length cQ) (.int .i64 r0_1) (.int .i64 r0_2) (.int .i64 r0_3) (.slice AR r0_4.length cR)) from below_box5 HWc.out HGq.out)
 replace HVw0_0 := Aside0.mk (R_box5n (a := .slice AQ r0_0.length cQ) (b := .int .i64 r0_1) (c := .int .i64 r0_2) (d := .int .i64 r0_3) (e := .slice AR r0_4.length cR) HVw0_0.out (fun _ h_ => h_))
 replace HVw0_4 := Aside0.mk (R_box5n (a := .slice AQ r0_0.length cQ) (b := .int .i64 r0_1) (c := .int .i64 r0_2) (d := .int .i64 r0_3) (e := .slice AR r0_4.length cR) HVw0_4.out (fun _ h_ => h_))
 generalize hW8 : memBox w2_ gq (.slice AQ r0_0.length cQ) (.int .i64 r0_1) (.int .i64 r0_2) (.int .i64 r0_3) (.slice AR r0_4.length cR) = W8 at BWn0 HW8 HVw0_0 HVw0_4
 unfold memBox at hW8
 rw [hW8]
 clear hW8
 obtain ⟨gh0, hgh0⟩ : ∃ g, g = gq := ⟨_, rfl⟩
 subst hgh0
 have HWB := Aside0.mk (Nat.le_refl w.heap.size)
 clear HZ HGq HWc z0 z1 z2 z3 z4 y0 y1 y2 y3 y4
 clear mc0 mc1 mc2 mc3 mc4
 replace HB := Aside0.mk (below_step HB.out HW8.out)
 replace BM := Aside0.mk ((HW8.out.block _ (blk_lt BM.out)).trans BM.out)
 replace HW0_0 := Aside0.mk (Kd.R_below HW0_0.out HW8.out)
 replace HW0_4 := Aside0.mk (Kd.R_below HW0_4.out HW8.out)
 replace BW0 := Aside0.mk ((HW8.out.block _ (blk_lt BW0.out)).trans BW0.out)
 replace BG0 := Aside0.mk ((HW8.out.block _ (blk_lt BG0.out)).trans BG0.out)
 replace HG0_0 := Aside0.mk (Kd.R_below HG0_0.out HW8.out)
 replace HG0_4 := Aside0.mk (Kd.R_below HG0_4.out HW8.out)
 have HH0_0 := HVw0_0
 have HH0_4 := HVw0_4
 have BH0 := BWn0
 obtain ⟨AH0_0, cH0_0, eA, eC⟩ : ∃ A c, A = AQ ∧ c = cQ := ⟨_, _, rfl, rfl⟩
 subst eA eC
 obtain ⟨AH0_4, cH0_4, eA, eC⟩ : ∃ A c, A = AR ∧ c = cR := ⟨_, _, rfl, rfl⟩
 subst eA eC
 have n0 := (blk_cell BW0.out 0).trans rfl; have n1 := (blk_cell BW0.out 1).trans rfl; have n2 := (blk_cell BW0.out 2).trans rfl; have n3 := (blk_cell BW0.out 3).trans rfl; have n4 := (blk_cell BW0.out 4).trans rfl
 have mc0 := (blk_cell BH0.out 0).trans rfl; have mc1 := (blk_cell BH0.out 1).trans rfl; have mc2 := (blk_cell BH0.out 2).trans rfl; have mc3 := (blk_cell BH0.out 3).trans rfl; have mc4 := (blk_cell BH0.out 4).trans rfl
 go_wp2_with fail
 go_at_call 13
 refine (laws_eqMem.calls k AH0_0 cH0_0 r0_0 r0_1 r0_2 r0_3 AH0_4 cH0_4 r0_4 AW0_0 cW0_0 r0_0 r0_1 r0_2 r0_3 AW0_4 cW0_4 r0_4 true _ (Kd.R_reads' HH0_0.out).2.2 (Kd.R_reads' HH0_0.out).2.1 (Kd.R_reads' HH0_4.out).2.2 (Kd.R_reads' HH0_4.out).2.1 (Kd.R_reads' HW0_0.out).2.2 (Kd.R_reads' HW0_0.out).2.1 (Kd.R_reads' HW0_4.out).2.2 (Kd.R_reads' HW0_4.out).2.1 He0.out).mono ?_
 rintro e wq ⟨rfl, hb⟩
 try clear mc0 mc1 mc2 mc3 mc4
 clear n0 n1 n2 n3 n4
 replace HB := Aside0.mk (below_step HB.out hb)
 replace BM := Aside0.mk ((hb.block _ (blk_lt BM.out)).trans BM.out)
 replace HW0_0 := Aside0.mk (Kd.R_below HW0_0.out hb)
 replace HW0_4 := Aside0.mk (Kd.R_below HW0_4.out hb)
 replace BW0 := Aside0.mk ((hb.block _ (blk_lt BW0.out)).trans BW0.out)
 replace BG0 := Aside0.mk ((hb.block _ (blk_lt BG0.out)).trans BG0.out)
 replace HG0_0 := Aside0.mk (Kd.R_below HG0_0.out hb)
 replace HG0_4 := Aside0.mk (Kd.R_below HG0_4.out hb)
 replace HH0_0 := Aside0.mk (Kd.R_below HH0_0.out hb)
 replace HH0_4 := Aside0.mk (Kd.R_below HH0_4.out hb)
 replace BH0 := Aside0.mk ((hb.block _ (blk_lt BH0.out)).trans BH0.out)
 clear hb
 have n0 := (blk_cell BG0.out 0).trans rfl; have n1 := (blk_cell BG0.out 1).trans rfl; have n2 := (blk_cell BG0.out 2).trans rfl; have n3 := (blk_cell BG0.out 3).trans rfl; have n4 := (blk_cell BG0.out 4).trans rfl
 go_wp2_with fail
 go_at_call 17
 refine (laws_heldMem.calls k AG0_0 cG0_0 u0_0 r0_1 r0_2 r0_3 AG0_4 cG0_4 u0_4 1 q0 _ (Kd.R_reads' HG0_0.out).2.2 (Kd.R_reads' HG0_0.out).2.1 (Kd.R_reads' HG0_4.out).2.2 (Kd.R_reads' HG0_4.out).2.1 Hq0.out).mono ?_
 rintro e w17 ⟨rfl, hb⟩
 clear n0 n1 n2 n3 n4
 replace HB := Aside0.mk (below_step HB.out hb)
 replace BM := Aside0.mk ((hb.block _ (blk_lt BM.out)).trans BM.out)
 replace HW0_0 := Aside0.mk (Kd.R_below HW0_0.out hb)
 replace HW0_4 := Aside0.mk (Kd.R_below HW0_4.out hb)
 replace BW0 := Aside0.mk ((hb.block _ (blk_lt BW0.out)).trans BW0.out)
 replace BG0 := Aside0.mk ((hb.block _ (blk_lt BG0.out)).trans BG0.out)
 replace HG0_0 := Aside0.mk (Kd.R_below HG0_0.out hb)
 replace HG0_4 := Aside0.mk (Kd.R_below HG0_4.out hb)
 replace HH0_0 := Aside0.mk (Kd.R_below HH0_0.out hb)
 replace HH0_4 := Aside0.mk (Kd.R_below HH0_4.out hb)
 replace BH0 := Aside0.mk ((hb.block _ (blk_lt BH0.out)).trans BH0.out)
 clear hb
 go_wp2
 go_ret
 exact ⟨rfl, HB.out⟩
end Go.Proofs.Ytmniglgahodghaa.K
namespace Go.Proofs.Ytmniglgahodghaa.K
open Go.RowKit Go.Proofs.YtmniglgahodghaaW.PrintWords Go.Proofs.YtmniglgahodghaaW.PrintLast Go.Proofs.YtmniglgahodghaaW.PrintMore
attribute [local go_sem] max2_int min2_int max_two min_two max_three min_three max_four min_four
set_option linter.unusedVariables false
set_option linter.unusedSimpArgs false
section
open Go.ChangeShapes Go.WideShapes Go.ChangeAt Go.Deep
def Opens {H α : Type} (enc : TypeId × Value → H) (P : Program) (w : World) (d : Kd α) (G : α → Prop) (t : TypeId) : Prop :=
  ∀ (fuel : Nat) (cs : List Value) (x : DataW H × List MemPlace), DataW.trod enc P w 0 (fun _ => true) true fuel t cs = some x → ∃ a : α, d.K w a cs ∧ G a
variable {H α : Type} {enc : TypeId × Value → H} {P : Program} {w : World} {d : Kd α} {G : α → Prop} {t e : TypeId}
theorem opens_int {k : IntKind} (ht : P.underlying t = some (.int k)) : Opens enc P w (Kd.int k) (fun n => (Lit.int k n).wf = true) t := by
 intro fuel cs x h
 obtain ⟨n, rfl, _, hw⟩ := DataW.trod_int ht h
 exact ⟨n, rfl, hw⟩
theorem opens_bool (ht : P.underlying t = some .bool) : Opens enc P w Kd.bool (fun _ => True) t := by
 intro fuel cs x h
 obtain ⟨b, rfl, _⟩ := DataW.trod_bool ht h
 exact ⟨b, rfl, trivial⟩
def GL (G : α → Prop) (xs : List α) : Prop := xs.length ≤ 9223372036854775807 ∧ ∀ x ∈ xs, G x
theorem list_of {Q : Nat → α → Prop} : ∀ n : Nat, (∀ i, i < n → ∃ p, Q i p) → ∃ xs : List α, xs.length = n ∧ ∀ i p, xs[i]? = some p → Q i p
  | 0, _ => ⟨[], rfl, fun i p h => by simp at h⟩
  | n + 1, h => by
    obtain ⟨xs, hl, hx⟩ := list_of n (fun i hi => h i (by omega))
    obtain ⟨p, hp⟩ := h n (by omega)
    refine ⟨xs ++ [p], by simp [hl], fun i q hq => ?_⟩
    by_cases hi : i < n
    · rw [List.getElem?_append_left (by omega)] at hq
      exact hx i q hq
    · have : i = n := by
        have := (List.getElem?_eq_some_iff.1 hq).1
        simp at this; omega
      subst this
      rw [List.getElem?_append_right (by omega)] at hq
      simp [hl] at hq
      subst hq
      exact hp
theorem opens_slice (ht : P.underlying t = some (.slice e)) (hs : d.sz = P.cellsOf e) (he : Opens enc P w d G e) : Opens enc P w (Kd.slice e d) (GL G) t := by
 intro fuel cs x h
 rcases open_slice ht h with ⟨rfl, _⟩ | ⟨a, len, cap, m, n, D, Pl, rfl, hb, hl, hm, hmm, hx, hi⟩
 ·exact ⟨[], ⟨none, 0, rfl, Nat.le_refl _, Kd.C_nil _ _⟩, by simp [GL]⟩
 ·have hmc : m = cap := by simpa using hmm
  obtain ⟨xs, hlen, hxs⟩ := list_of (Q := fun i p => ∃ c, c.length = d.sz ∧ d.K w p c ∧ (∀ j u, c[j]? = some u → w.cell? (a.add (i * d.sz + j)) = some u) ∧ G p) len (fun i hil => by
   obtain ⟨cs', hc, ht'⟩ := hi i (by omega)
   obtain ⟨p, hK, hG⟩ := he n cs' _ ht'
   obtain ⟨_, hcl, hat⟩ := World.cells?_some hc
   refine ⟨p, cs', d.K_len hK, hK, fun j u hu => ?_, hG⟩
   have hj : j < P.cellsOf e := by rw [← hcl]; exact (List.getElem?_eq_some_iff.1 hu).1
   have := hat j hj
   rw [Go.Deep.add_add] at this
   rw [hs, this, hu])
  subst hlen
  refine ⟨xs, ⟨some a, cap, rfl, hl, rfl, ?_, fun _ => ⟨a, rfl, fun j p hj => ?_⟩⟩, ?_, fun x hx => ?_⟩
  ·have : maxLen = 9223372036854775807 := rfl
   omega
  ·obtain ⟨c, h1, h2, h3, _⟩ := hxs j p hj
   exact ⟨c, h1, h2, h3⟩
  ·have : maxLen = 9223372036854775807 := rfl
   omega
  ·obtain ⟨i, hi', rfl⟩ := List.getElem_of_mem hx
   obtain ⟨c, _, _, _, hG⟩ := hxs i _ (List.getElem?_eq_getElem hi')
   exact hG
end
end Go.Proofs.Ytmniglgahodghaa.K
namespace Go.Proofs.Ytmniglgahodghaa.K
open Go.RowKit Go.Proofs.YtmniglgahodghaaW.PrintWords Go.Proofs.YtmniglgahodghaaW.PrintLast Go.Proofs.YtmniglgahodghaaW.PrintMore
attribute [local go_sem] max2_int min2_int max_two min_two max_three min_three max_four min_four
set_option linter.unusedVariables false
set_option linter.unusedSimpArgs false
section
open Go.ChangeShapes Go.WideShapes Go.ChangeAt Go.Deep
def G56 (x : S56) : Prop := (fun n : Int => (Lit.int .i64 n).wf = true) x.f0 ∧ (GL (fun n : Int => (Lit.int .i64 n).wf = true)) x.f1
set_option maxRecDepth 100000 in
theorem opens56 {H : Type} {enc : TypeId × Value → H} {w : World} : Opens enc Try.prog w k56 G56 56 := by
  intro fuel cs x h
  obtain ⟨xs, n, rfl, hx, hl, hxs, hg⟩ := DataW.trod_struct Try.underlying56 h
  have hl2 : cs.length = 2 := hl.trans (by kernel_rfl)
  clear hx hl h
  match cs, hl2, hg with
  | [c0, c1], _, hg =>
    have g0 := hg 0 _ rfl
    obtain ⟨y0, e0⟩ : ∃ y, xs[0]? = some y := ⟨xs[0]'(by rw [hxs]; decide), List.getElem?_eq_getElem _⟩
    obtain ⟨a0, K0, G0_⟩ := (opens_int Try.underlying3) n _ _ (g0.trans e0)
    have g1 := hg 1 _ rfl
    obtain ⟨y1, e1⟩ : ∃ y, xs[1]? = some y := ⟨xs[1]'(by rw [hxs]; decide), List.getElem?_eq_getElem _⟩
    obtain ⟨a1, K1, G1_⟩ := (opens_slice Try.underlying23 (by kernel_rfl) (opens_int Try.underlying3)) n _ _ (g1.trans e1)
    exact ⟨⟨a0, a1⟩, ⟨[c0], [c1], rfl, K0, K1⟩, ⟨G0_, G1_⟩⟩
def G26 (x : S26) : Prop := (GL (fun n : Int => (Lit.int .i64 n).wf = true)) x.f0 ∧ (fun n : Int => (Lit.int .i64 n).wf = true) x.f1 ∧ (fun n : Int => (Lit.int .i64 n).wf = true) x.f2 ∧ (fun n : Int => (Lit.int .i64 n).wf = true) x.f3 ∧ (GL (fun _ : Bool => True)) x.f4
set_option maxRecDepth 100000 in
theorem opens26 {H : Type} {enc : TypeId × Value → H} {w : World} : Opens enc Try.prog w k26 G26 26 := by
  intro fuel cs x h
  obtain ⟨xs, n, rfl, hx, hl, hxs, hg⟩ := DataW.trod_struct Try.underlying26 h
  have hl2 : cs.length = 5 := hl.trans (by kernel_rfl)
  clear hx hl h
  match cs, hl2, hg with
  | [c0, c1, c2, c3, c4], _, hg =>
    have g0 := hg 0 _ rfl
    obtain ⟨y0, e0⟩ : ∃ y, xs[0]? = some y := ⟨xs[0]'(by rw [hxs]; decide), List.getElem?_eq_getElem _⟩
    obtain ⟨a0, K0, G0_⟩ := (opens_slice Try.underlying23 (by kernel_rfl) (opens_int Try.underlying3)) n _ _ (g0.trans e0)
    have g1 := hg 1 _ rfl
    obtain ⟨y1, e1⟩ : ∃ y, xs[1]? = some y := ⟨xs[1]'(by rw [hxs]; decide), List.getElem?_eq_getElem _⟩
    obtain ⟨a1, K1, G1_⟩ := (opens_int Try.underlying3) n _ _ (g1.trans e1)
    have g2 := hg 2 _ rfl
    obtain ⟨y2, e2⟩ : ∃ y, xs[2]? = some y := ⟨xs[2]'(by rw [hxs]; decide), List.getElem?_eq_getElem _⟩
    obtain ⟨a2, K2, G2_⟩ := (opens_int Try.underlying3) n _ _ (g2.trans e2)
    have g3 := hg 3 _ rfl
    obtain ⟨y3, e3⟩ : ∃ y, xs[3]? = some y := ⟨xs[3]'(by rw [hxs]; decide), List.getElem?_eq_getElem _⟩
    obtain ⟨a3, K3, G3_⟩ := (opens_int Try.underlying3) n _ _ (g3.trans e3)
    have g4 := hg 4 _ rfl
    obtain ⟨y4, e4⟩ : ∃ y, xs[4]? = some y := ⟨xs[4]'(by rw [hxs]; decide), List.getElem?_eq_getElem _⟩
    obtain ⟨a4, K4, G4_⟩ := (opens_slice Try.underlying24 (by kernel_rfl) (opens_bool Try.underlying4)) n _ _ (g4.trans e4)
    exact ⟨⟨a0, a1, a2, a3, a4⟩, ⟨[c0], [c1, c2, c3, c4], rfl, K0, ⟨[c1], [c2, c3, c4], rfl, K1, ⟨[c2], [c3, c4], rfl, K2, ⟨[c3], [c4], rfl, K3, K4⟩⟩⟩⟩, ⟨G0_, G1_, G2_, G3_, G4_⟩⟩
end
end Go.Proofs.Ytmniglgahodghaa.K
namespace Go.Proofs.Ytmniglgahodghaa.K
open Go.RowKit Go.Proofs.YtmniglgahodghaaW.PrintWords Go.Proofs.YtmniglgahodghaaW.PrintLast Go.Proofs.YtmniglgahodghaaW.PrintMore
attribute [local go_sem] max2_int min2_int max_two min_two max_three min_three max_four min_four
set_option linter.unusedVariables false
set_option linter.unusedSimpArgs false
def laws_FnExactMemMake.Pure : Prop := ∀ (a0 : List (S56)) (a1 : S26) (a2 : Int) (a3 : Int) (a4 : Bool), (GL G56) a0 → G26 a1 → (fun n : Int => (Lit.int .i64 n).wf = true) a2 → (fun n : Int => (Lit.int .i64 n).wf = true) a3 → (fun _ : Bool => True) a4 → ∃ k, laws_FnExactMemMake.f k a0 a1.f0 a1.f1 a1.f2 a1.f3 a1.f4 a2 a3 a4 = some true
end Go.Proofs.Ytmniglgahodghaa.K
namespace Go.Proofs.Ytmniglgahodghaa.Pure
open Go.RowKit Go.Proofs.Ytmniglgahodghaa.K Go.Proofs.YtmniglgahodghaaW.PrintWords Go.Proofs.YtmniglgahodghaaW.PrintLast Go.Proofs.YtmniglgahodghaaW.PrintMore
set_option linter.unusedVariables false
set_option linter.unusedSimpArgs false
theorem evp {α : Type} {c : Prop} [Decidable c] {f g : Nat → Option α} {r : α} (h : c) (k : Ev f r) : Ev (fun n => if c then f n else g n) r := Ev.congr (fun _ => if_pos h) k
theorem evn {α : Type} {c : Prop} [Decidable c] {f g : Nat → Option α} {r : α} (h : ¬ c) (k : Ev g r) : Ev (fun n => if c then f n else g n) r := Ev.congr (fun _ => if_neg h) k
theorem wrap_inc {i n : Int} (h0 : 0 ≤ i) (h : i < n) (hn : n ≤ 4611686018427387904) : wrap64 (i + 1) = i + 1 := by
  unfold wrap64; omega
theorem rd_cast (xs : List Int) (i : Nat) : rd xs (i : Int) = xs.getD i 0 := by simp [rd]
theorem drop_getD {α : Type} (xs : List α) (i : Nat) (d : α) (h : i < xs.length) : xs.drop i = xs.getD i d :: xs.drop (i + 1) := by
  rw [List.drop_eq_getElem_cons h]; simp [List.getD_eq_getElem?_getD, h]
theorem wrap64_of {n : Int} (h : -9223372036854775808 ≤ n) (h' : n ≤ 9223372036854775807) : wrap64 n = n := by unfold wrap64; omega
end Go.Proofs.Ytmniglgahodghaa.Pure
namespace Go.Proofs.Ytmniglgahodghaa.Pure
open Go.RowKit Go.Proofs.Ytmniglgahodghaa.K Go.Proofs.YtmniglgahodghaaW.PrintWords Go.Proofs.YtmniglgahodghaaW.PrintLast Go.Proofs.YtmniglgahodghaaW.PrintMore
set_option linter.unusedVariables false
set_option linter.unusedSimpArgs false
abbrev Cs := List S69
def sup (cs : Cs) (c : Int) : Int := (rd_T69 cs c).f0
def flds (cs : Cs) (c : Int) : List Int := (rd_T69 cs c).f1
def fldOk (n t : Int) : Bool := decide (t = 1 ∨ t = 3 ∨ t = 4 ∨ (8 ≤ t ∧ t < 8 + n))
def clsOk (cs : Cs) (i : Int) : Bool :=
  (flds cs i).all (fldOk cs.length) &&
    (if i = 0 then decide (sup cs 0 = -1 ∧ flds cs 0 = []) else if i = 1 then decide (sup cs 1 = 0 ∧ flds cs 1 = [1]) else decide ((0 ≤ sup cs i ∧ sup cs i < i) ∧ (flds cs i).length ≤ 2))
def csOk (cs : Cs) : Bool := decide (2 ≤ cs.length ∧ cs.length ≤ 5) && (List.range cs.length).all (fun i : Nat => clsOk cs i)
theorem csOk_len {cs : Cs} (h : csOk cs = true) : 2 ≤ cs.length ∧ cs.length ≤ 5 := by
  simp only [csOk, Bool.and_eq_true, decide_eq_true_eq] at h; exact h.1
theorem csOk_at {cs : Cs} (h : csOk cs = true) {i : Int} (h0 : 0 ≤ i) (h1 : i < cs.length) : clsOk cs i = true := by
 simp only [csOk, Bool.and_eq_true, decide_eq_true_eq, List.all_eq_true, List.mem_range] at h
 have := h.2 i.toNat (by omega)
 rwa [Int.toNat_of_nonneg h0] at this
theorem csOk_sup {cs : Cs} (h : csOk cs = true) {i : Int} (h0 : 0 < i) (h1 : i < cs.length) : 0 ≤ sup cs i ∧ sup cs i < i := by
 have := csOk_at h (i := i) (by omega) h1
 simp only [clsOk, Bool.and_eq_true] at this
 have h2 := this.2
 rw [if_neg (by omega)] at h2
 by_cases h3 : i = 1
 ·subst h3
  simp only [if_true, decide_eq_true_eq] at h2
  omega
 ·rw [if_neg h3, decide_eq_true_eq] at h2
  exact h2.1
def upN (cs : Cs) : Nat → Int → Int → Bool
  | 0, a, b => decide (a = b)
  | n + 1, a, b => decide (a = b) || (decide (0 < a) && upN cs n (sup cs a) b)
theorem upN_more {cs : Cs} (h : csOk cs = true) : ∀ (n : Nat) (a b : Int), 0 ≤ a → a < cs.length → a.toNat ≤ n → upN cs (n + 1) a b = upN cs n a b
 | 0, a, b, h0, h1, hn => by
  have : a = 0 := by omega
  subst this
  simp [upN]
 | n + 1, a, b, h0, h1, hn => by
  have e1 : upN cs (n + 1 + 1) a b = (decide (a = b) || (decide (0 < a) && upN cs (n + 1) (sup cs a) b)) := rfl
  have e2 : upN cs (n + 1) a b = (decide (a = b) || (decide (0 < a) && upN cs n (sup cs a) b)) := rfl
  rw [e1, e2]
  by_cases hp : 0 < a
  ·have hs := csOk_sup h hp h1
   rw [upN_more h n (sup cs a) b (by omega) (by omega) (by omega)]
  ·simp [hp]
theorem cls_ind {cs : Cs} (h : csOk cs = true) {P : Int → Prop} (h00 : P 0) (hs : ∀ a : Int, 0 < a → a < cs.length → P (sup cs a) → P a) : ∀ a : Int, 0 ≤ a → a < cs.length → P a := by
  suffices H : ∀ (n : Nat) (a : Int), a.toNat ≤ n → 0 ≤ a → a < cs.length → P a from fun a h0 h1 => H a.toNat a (Nat.le_refl _) h0 h1
  intro n
  induction n with
  | zero => intro a hn h0 h1; have : a = 0 := by omega
            subst this; exact h00
  | succ n ih =>
    intro a hn h0 h1
    by_cases hp : 0 < a
    · have := csOk_sup h hp h1
      exact hs a hp h1 (ih _ (by omega) (by omega) (by omega))
    · have : a = 0 := by omega
      subst this; exact h00
end Go.Proofs.Ytmniglgahodghaa.Pure
namespace Go.Proofs.Ytmniglgahodghaa.Pure
open Go.RowKit Go.Proofs.Ytmniglgahodghaa.K Go.Proofs.YtmniglgahodghaaW.PrintWords Go.Proofs.YtmniglgahodghaaW.PrintLast Go.Proofs.YtmniglgahodghaaW.PrintMore
set_option linter.unusedVariables false
set_option linter.unusedSimpArgs false
theorem spec_l6In_eq (a b c : Int) : spec_l6In.f a b c = some (decide (b ≤ a ∧ a ≤ c)) := by
 unfold spec_l6In.f
 by_cases h : a ≥ b
 ·rw [if_pos h]; simp [show b ≤ a from h]
 ·rw [if_neg h]; simp [show ¬ b ≤ a from h]
end Go.Proofs.Ytmniglgahodghaa.Pure
namespace Go.Proofs.Ytmniglgahodghaa.Pure
open Go.RowKit Go.Proofs.Ytmniglgahodghaa.K Go.Proofs.YtmniglgahodghaaW.PrintWords Go.Proofs.YtmniglgahodghaaW.PrintLast Go.Proofs.YtmniglgahodghaaW.PrintMore
set_option linter.unusedVariables false
set_option linter.unusedSimpArgs false
theorem fields_same (cs : Cs) : ∀ (k : Nat) (a : Int), spec_l2Fields.f k cs a = impl_classFields.f k cs a
  | 0, a => by rw [spec_l2Fields.f, impl_classFields.f]
  | k + 1, a => by rw [spec_l2Fields.f, impl_classFields.f, fields_same cs k]
theorem csOk_two {cs : Cs} (h : csOk cs = true) {i : Int} (h0 : 0 ≤ i) (h1 : i < cs.length) : (flds cs i).length ≤ 2 := by
 have h2 := csOk_at h h0 h1
 unfold clsOk at h2
 simp only [Bool.and_eq_true] at h2
 have h3 := h2.2
 by_cases c0 : i = 0
 ·rw [if_pos c0, decide_eq_true_eq] at h3
  rw [c0, h3.2]; simp
 rw [if_neg c0] at h3
 by_cases c1 : i = 1
 ·rw [if_pos c1, decide_eq_true_eq] at h3
  rw [c1, h3.2]; simp
 rw [if_neg c1, decide_eq_true_eq] at h3
 exact h3.2
theorem classFields_ev {cs : Cs} (h : csOk cs = true) : ∀ a : Int, 0 ≤ a → a < cs.length → ∃ fs, fs.length ≤ 2 * a.toNat ∧ ∀ k, a.toNat + 1 ≤ k → impl_classFields.f k cs a = some fs := by
 refine cls_ind h ⟨[], by simp, fun k hk => ?_⟩ ?_
 ·obtain ⟨k, rfl⟩ : ∃ m, k = m + 1 := ⟨k - 1, by omega⟩
  rw [impl_classFields.f, if_pos rfl]
 ·intro a ha hl ⟨fs, hfs, hk⟩
  have hs := csOk_sup h ha hl
  have h2 := csOk_two h (by omega) hl
  refine ⟨fs ++ flds cs a, by rw [List.length_append]; omega, fun k hk2 => ?_⟩
  obtain ⟨k, rfl⟩ : ∃ m, k = m + 1 := ⟨k - 1, by omega⟩
  have e := hk k (by omega)
  rw [impl_classFields.f, if_neg (by omega), if_pos (by omega), if_pos hl]
  show ((impl_classFields.f k cs (sup cs a)).bind fun t => if t.length + (flds cs a).length < 17592186044416 then some (t ++ flds cs a) else none) = _
  rw [e, Option.bind_some, if_pos (by have := csOk_len h; omega)]
def cfl (cs : Cs) (a : Int) : List Int := (impl_classFields.f 10 cs a).getD []
theorem cfl_eq {cs : Cs} (h : csOk cs = true) {a : Int} (h0 : 0 ≤ a) (h1 : a < cs.length) : (cfl cs a).length ≤ 8 ∧ ∀ k, 10 ≤ k → impl_classFields.f k cs a = some (cfl cs a) := by
 have hl := csOk_len h
 obtain ⟨fs, hf, hk⟩ := classFields_ev h a h0 h1
 have e : cfl cs a = fs := by unfold cfl; rw [hk 10 (by omega)]; rfl
 rw [e]
 exact ⟨by omega, fun k hk2 => hk k (by omega)⟩
def allF (cs : Cs) : List (List Int) := (List.range cs.length).map (fun i : Nat => cfl cs i)
theorem allF_len (cs : Cs) : (allF cs).length = cs.length := by unfold allF; simp
theorem allF_at (cs : Cs) {c : Int} (h0 : 0 ≤ c) (h1 : c < cs.length) : rdL (allF cs) c = cfl cs c := by
 have h2 : c.toNat < cs.length := by omega
 unfold rdL allF
 rw [List.getD_eq_getElem?_getD, List.getElem?_map, List.getElem?_range h2]
 show cfl cs ((c.toNat : Nat) : Int) = _
 rw [Int.toNat_of_nonneg h0]
theorem allF_short {cs : Cs} (h : csOk cs = true) : FShort (allF cs) := by
 intro c h0 h1
 rw [allF_len] at h1
 rw [allF_at cs h0 h1]
 have := (cfl_eq h h0 h1).1
 omega
theorem allF_all {cs : Cs} (h : csOk cs = true) : (allF cs).all (fun r => decide (r.length ≤ 4294967296)) = true := by
 rw [List.all_eq_true]
 intro r hr
 obtain ⟨i, hi, rfl⟩ := List.getElem_of_mem hr
 have h2 := allF_short h (i : Int) (by omega) (by omega)
 unfold rdL at h2
 rw [Int.toNat_natCast, List.getD_eq_getElem?_getD, List.getElem?_eq_getElem hi] at h2
 exact decide_eq_true h2
theorem allFields_l0 {cs : Cs} (h : csOk cs = true) (d : Nat) : ∀ (k i : Nat), i + d = cs.length → d + 11 ≤ k → impl_allFields.l0 k cs ((List.range i).map (fun j : Nat => cfl cs j)) cs.length i = some (allF cs) := by
 have hl := csOk_len h
 induction d with
 | zero =>
  intro k i hi hk
  obtain ⟨k, rfl⟩ : ∃ m, k = m + 1 := ⟨k - 1, by omega⟩
  rw [impl_allFields.l0, if_neg (by omega)]
  unfold allF
  rw [show i = cs.length by omega]
 | succ d ih =>
  intro k i hi hk
  obtain ⟨k, rfl⟩ : ∃ m, k = m + 1 := ⟨k - 1, by omega⟩
  rw [impl_allFields.l0, if_pos (by omega), (cfl_eq h (a := (i : Int)) (by omega) (by omega)).2 k (by omega)]
  simp only [Option.bind_some]
  rw [if_pos (by simp; omega), wrap_inc (n := 1000) (by omega) (by omega) (by omega)]
  have := ih k (i + 1) (by omega) (by omega)
  rw [List.range_succ, List.map_append] at this
  exact this
theorem allFields_eq {cs : Cs} (h : csOk cs = true) (k : Nat) (hk : 20 ≤ k) : impl_allFields.f k cs = some (allF cs) := by
 have hl := csOk_len h
 have := allFields_l0 h cs.length k 0 (by omega) (by omega)
 unfold impl_allFields.f
 exact this
theorem measN_c {cs : Cs} {c : Int} (n : Int) (h0 : 0 ≤ c) (h1 : c < cs.length) : measN (allF cs) c n = 1 + (cfl cs c).length := by
  unfold measN
  rw [if_neg (by omega), allF_len, if_pos ⟨h0, h1⟩, allF_at cs h0 h1]
theorem l21Size_eq {cs : Cs} (h : csOk cs = true) {ws : List Int} (hw : ws.length ≤ 1048576) {i e : Int} (h0 : 0 ≤ i) (he : e ≤ ws.length) (k : Nat) (hk : 20 ≤ k) :
  spec_l21Size.f k cs ws i e = some (if i < e then mstep ws (allF cs) e i else 0) := by
 have hl := csOk_len h
 unfold spec_l21Size.f
 by_cases c0 : i < e
 case neg => rw [if_pos (by omega), if_neg c0]
 case pos =>
 rw [if_neg (by omega), if_pos h0, if_pos (by omega), spec_l6In_eq, if_pos c0, wrap64_of (n := (cs.length : Int) - 1) (by omega) (by omega)]
 simp only [Option.bind_some, decide_eq_true_eq]
 obtain ⟨c, hc⟩ : ∃ c, c = rd ws i := ⟨_, rfl⟩
 unfold mstep
 rw [← hc]
 by_cases c1 : 0 ≤ c ∧ c ≤ (cs.length : Int) - 1
 ·have c1' : c < (cs.length : Int) := by omega
  obtain ⟨f1, f2⟩ := cfl_eq h c1.1 c1'
  rw [if_pos c1, fields_same, f2 k (by omega), if_neg (by omega), measN_c 0 c1.1 c1']
  simp only [Option.bind_some]
  rw [wrap64_of (n := 1 + ((cfl cs c).length : Int)) (by omega) (by omega), wrap64_of (n := i + (1 + ((cfl cs c).length : Int))) (by omega) (by omega)]
  by_cases c2 : i + (1 + ((cfl cs c).length : Int)) > e
  ·rw [if_pos c2, if_neg (by omega)]
  ·rw [if_neg c2, if_pos (by omega)]
 rw [if_neg c1]
 obtain ⟨k, rfl⟩ : ∃ m, k = m + 2 := ⟨k - 2, by omega⟩
 have w1 : wrap64 (i + 1) = i + 1 := wrap64_of (by omega) (by omega)
 have key : ∀ b : Bool, (b = true ↔ (c = -1 ∨ c = -2)) → spec_l21Size.j0 (k + 2) ws i e 0 b = some (if c < 0 then (if i + 1 < e then (if measN (allF cs) c (rd ws (i + 1)) ≤ e - i then measN (allF cs) c (rd ws (i + 1)) else 0) else 0) else (if measN (allF cs) c 0 ≤ e - i then measN (allF cs) c 0 else 0)) := by
  intro b hb
  rw [spec_l21Size.j0]
  by_cases c2 : c = -1 ∨ c = -2
  ·rw [if_pos (hb.mpr c2), w1, if_pos (show c < 0 by omega)]
   by_cases c3 : i + 1 ≥ e
   ·rw [if_pos c3, spec_l21Size.j1, if_pos rfl, if_neg (show ¬ i + 1 < e by omega)]
   rw [if_neg c3, if_pos (show 0 ≤ i + 1 by omega), if_pos (show i + 1 < (ws.length : Int) by omega), spec_l6In_eq, if_pos (show i + 1 < e by omega)]
   simp only [Option.bind_some]
   obtain ⟨n, hn⟩ : ∃ n, n = rd ws (i + 1) := ⟨_, rfl⟩
   rw [← hn]
   have m1 : measN (allF cs) c n = if 0 ≤ n ∧ n ≤ 6 then 2 + n else 0 := by unfold measN; rw [if_pos c2]
   rw [m1, spec_l21Size.j1]
   by_cases c4 : 0 ≤ n ∧ n ≤ 6
   ·rw [decide_eq_true c4, if_neg (by simp), w1, if_pos (show 0 ≤ i + 1 by omega), if_pos (show i + 1 < (ws.length : Int) by omega), if_pos c4, ← hn, wrap64_of (n := 2 + n) (by omega) (by omega), wrap64_of (n := i + (2 + n)) (by omega) (by omega)]
    by_cases c5 : i + (2 + n) > e
    ·rw [if_pos c5, if_neg (by omega)]
    ·rw [if_neg c5, if_pos (by omega)]
   ·rw [decide_eq_false c4, if_pos (by simp), if_neg c4, if_pos (by omega)]
  ·rw [if_neg (fun hh => c2 (hb.mp hh)), wrap64_of (n := i + 0) (by omega) (by omega), if_neg (by omega)]
   have m0 : ∀ n, measN (allF cs) c n = 0 := fun n => by unfold measN; rw [if_neg c2, allF_len, if_neg (by omega)]
   rw [m0, m0]
   by_cases c3 : c < 0
   ·rw [if_pos c3]
    by_cases c4 : i + 1 < e
    ·rw [if_pos c4, if_pos (by omega)]
    ·rw [if_neg c4]
   ·rw [if_neg c3, if_pos (by omega)]
 by_cases c2 : c = -1
 ·rw [if_pos c2, key true (by simp [c2])]
 ·rw [if_neg c2, key _ (by simp [c2])]
end Go.Proofs.Ytmniglgahodghaa.Pure
