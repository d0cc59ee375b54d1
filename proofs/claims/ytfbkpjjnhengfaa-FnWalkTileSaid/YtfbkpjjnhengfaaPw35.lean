import Derived.Test.YtfbkpjjnhengfaaPw24
import Derived.Test.YtfbkpjjnhengfaaPw31
import Derived.Test.YtfbkpjjnhengfaaPw34
import Derived.Test.YtfbkpjjnhengfaaPw32
import Derived.Test.YtfbkpjjnhengfaaPw28
import Derived.Test.YtfbkpjjnhengfaaPw30
import Derived.Test.YtfbkpjjnhengfaaPw26
import Derived.Test.YtfbkpjjnhengfaaPw29
import Derived.Test.YtfbkpjjnhengfaaPw27
namespace Go.Proofs.Ytfbkpjjnhengfaa.K
open Go.RowKit Go.Proofs.YtfbkpjjnhengfaaW.PrintWords Go.Proofs.YtfbkpjjnhengfaaW.PrintLast Go.Proofs.YtfbkpjjnhengfaaW.PrintMore
attribute [local go_sem] max2_int min2_int max_two min_two max_three min_three max_four min_four
set_option linter.unusedVariables false
set_option linter.unusedSimpArgs false
open Go.Proofs.Ytfbkpjjnhengfaa.Pure
set_option maxHeartbeats 64000000 in
set_option maxRecDepth 100000 in
theorem mem_any (M : Int) (g : Nat) (w0 w : World) (hi : Rdr M w0 w g) (hM : M ≤ 100000) :
  Calls Try.prog 37 #[.pointer (some ⟨g, 0, none⟩)] w (MemP M w0 w g) := by
 obtain ⟨b0, hb0⟩ : ∃ b, b = w.heap.size := ⟨_, rfl⟩
 have HG := Aside0.mk (show g < b0 ∧ w0.heap.size ≤ b0 by have h1 := hi.lt; have h2 := hi.ge; rw [hb0]; omega)
 have HBW := Aside0.mk hb0
 have HI := Aside0.mk hi
 have HM := Aside0.mk hM
 have HCh := Aside0.mk (Ch.refl (fun k => k = g) w)
 clear hi hM hb0
 go_enter Try.func37, Try.ntmps37
 go_wp2_with ((with_reducible refine gate_dst (N := 3) rfl ?_); refine Classical.byContradiction (fun hng => ?_))
 refine hng ?_
 clear hng
 refine box_event ?hg (N := 3) ?hd (cs := #[.slice none 0 0, .int .i64 0, .int .i64 0, .int .i64 0, .slice none 0 0]) (t := 27) ?hr ?_
 (case hd => rfl)
 (case hg => rfl)
 (case hr => first | (go_simp; done) | (go_simp; rfl))
 intro gz hg w1 hbox hb
 have BZ1 := Aside0.mk hbox
 have HI1 := Aside0.mk (HI.out.below hb)
 have HCh1 := Aside0.mk (HCh.out.below hb)
 have HGz := Aside0.mk (show b0 ≤ gz by rw [hg, HBW.out]; exact Nat.le_refl _)
 clear hb hbox hg HI HCh
 go_wp2_with (go_at_call 69; refine Classical.byContradiction (fun hng => ?_))
 refine hng ?_
 clear hng
 refine (classes_any M g w0 _ HI1.out z26).mono ?_
 rintro e w2 ⟨v5, cs, rfl, ⟨hok, hfew⟩, hS, hi, hk⟩
 have hst := HI1.out.step hi hk
 have HI2 := Aside0.mk hi
 have HCh2 := Aside0.mk (HCh1.out.then_ hst)
 have BZ2 := Aside0.mk (hst.blk BZ1.out (by have := HG.out; have := HGz.out; omega))
 obtain ⟨s1, hs1⟩ : ∃ z, z = w2.heap.size := ⟨_, rfl⟩
 have HS1 := Aside0.mk (show gz < s1 by rw [hs1]; exact blk_lt BZ2.out)
 have HV2 := Aside0.mk (show Kd.V k99 99 w2 b0 (fun k => gz < k ∧ k < s1) v5 cs from Kd.S_V (Kd.S_mono (Kd.S_bound hS) (fun k hk => ⟨by have := blk_lt BZ1.out; omega, by rw [hs1]; exact hk.2.2.1⟩)))
 have HOk := Aside0.mk hok
 have HFw := Aside0.mk hfew
 have Hs1 := Aside0.mk hs1
 obtain ⟨A, cA, eA⟩ := Kd.V_slice HV2.out
 subst eA
 clear hok hfew hS hi hk hst hs1 HI1 HCh1 BZ1
 go_wp2_with (go_at_call 70; refine Classical.byContradiction (fun hng => ?_))
 refine hng ?_
 clear hng
 refine (fill_any _ g A cA cs w0 _ HI2.out z26 HOk.out (Kd.C_foot_ownV HV2.out (fun k hk => by have := HG.out; have := HGz.out; omega)) (Kd.V_reads' HV2.out).2.1).mono ?_
 rintro e w3 ⟨gw, cW, gc, cC, ws, y, t, o, cards, v7, rt, rfl, hB, hrl, hO, hR, hi, hc⟩
 rw [← Hs1.out] at hO hR
 have HO3 := Aside0.mk hO
 have HR3 := Aside0.mk hR
 have HI3 := Aside0.mk hi
 have HCh3 := Aside0.mk (HCh2.out.then_ hc)
 have BZ3 := Aside0.mk (hc.blk BZ2.out (by have := HG.out; have := HGz.out; omega))
 have HV3 := Aside0.mk (Kd.V_kept HV2.out hc.kept (fun k hk q => by have := HG.out; have := HGz.out; omega))
 have HLs := Aside0.mk (show (14 ≤ ws.length ∧ ws.length ≤ 160) ∧ (4 ≤ cards.length ∧ cards.length ≤ 40) ∧ rt.length ≤ 60 by have := hB.n0; have := hB.n1; have := hB.y0; have := hB.y1; have := hB.cd; omega)
 clear hB hrl hO hR hi hc HI2 HCh2 BZ2 HV2
 obtain ⟨A7, c7, e7⟩ := Kd.R_slice HR3.out
 subst e7
 go_wp2_with ((with_reducible refine gate_dst (N := 6) rfl ?_); refine Classical.byContradiction (fun hng => ?_))
 refine hng ?_
 clear hng
 refine box_event ?hg (N := 6) ?hd (cs := #[.slice none 0 0, .int .i64 0, .int .i64 0, .int .i64 0, .slice none 0 0]) (t := 27) ?hr ?_
 (case hd => rfl)
 (case hg => rfl)
 (case hr => first | (go_simp; done) | (go_simp; rfl))
 intro gm hg w4 hbox hb
 have HO4 := Aside0.mk (HO3.out.ch ((Ch.refl (fun _ => False) _).below hb) (fun h => h) (fun h => h))
 have HR4 := Aside0.mk (Kd.R_mono (Kd.R_bound (Kd.R_below HR3.out hb)) (fun k hk => (show k ≠ gw from hk.1)))
 have HV4 := Aside0.mk (Kd.V_below HV3.out hb)
 have BZ4 := Aside0.mk (blk_below BZ3.out hb)
 have HI4 := Aside0.mk (HI3.out.below hb)
 have HCh4 := Aside0.mk (HCh3.out.below hb)
 have HGm := Aside0.mk (show s1 ≤ gm by rw [hg]; have := HO3.out.bw; omega)
 have BM4 := Aside0.mk hbox
 clear hb hbox hg HO3 HR3 HV3 BZ3 HI3 HCh3
 have c0 := (blk_cell BM4.out 0).trans rfl; have c1 := (blk_cell BM4.out 1).trans rfl; have c2 := (blk_cell BM4.out 2).trans rfl; have c3 := (blk_cell BM4.out 3).trans rfl; have c4 := (blk_cell BM4.out 4).trans rfl
 have f0 := blk_frozen BM4.out 0; have f1 := blk_frozen BM4.out 1; have f2 := blk_frozen BM4.out 2; have f3 := blk_frozen BM4.out 3; have f4 := blk_frozen BM4.out 4
 go_wp2_with ((with_reducible refine gate_store (t := 27) (p := 6) rfl ?_); refine Classical.byContradiction (fun hng => ?_))
 refine hng ?_
 clear hng
 refine store_event (t := 27) (p := 6) (v := ?vm1) (w1 := (memBox w4 gm (.slice (some ⟨gw, 0, none⟩) ws.length cW) (.int .i64 y) (.int .i64 t) (.int .i64 o) (.slice (some ⟨gc, 0, none⟩) cards.length cC))) ?hg ?ho ?hn ?hr ?_
 (case ho => rfl)
 (case hg => rfl)
 (case hn => rfl)
 (case hr => first | (go_simp; done) | (go_simp; rfl))
 intro w5 hw
 have n4 := HO4.out.nbox BM4.out
 have hc4 : Ch (fun k => k = gm) w4 w5 := by rw [hw]; exact (Ch.refl (fun k => k = gm) _).box5 (.inl rfl) _ _ _ _ _
 have HMs5 := Aside0.mk (show Ms b0 s1 gz gm gw cW gc cC w5 (.slice A cs.length cA) (.slice A7 rt.length c7) cs ws y t o cards rt from ⟨HO4.out.ch hc4 n4.1 n4.2, Kd.V_kept HV4.out hc4.kept (fun k hk q => by have := HGm.out; omega), by rw [hw]; exact R_box5t HR4.out BM4.out (by decide), by rw [hw]; exact blk_box5 BM4.out, hc4.blk BZ4.out (by have := HGm.out; have := HS1.out; omega), ⟨HGz.out, HS1.out, HGm.out⟩, ⟨by have := csOk_len HOk.out; omega, by have := csOk_len HOk.out; omega, fun x hx => by have := HFw.out x hx; omega⟩, HLs.out.1, HLs.out.2.1, HLs.out.2.2⟩)
 have HI5 := Aside0.mk (HI4.out.ch hc4 (by have := HG.out; have := HGz.out; have := HGm.out; have := HS1.out; omega) (fun k hk => by have := HG.out; have := HGz.out; have := HGm.out; have := HS1.out; omega))
 have HCh5 := Aside0.mk (HCh4.out.trans hc4 (fun k hk => .inr (by have := HBW.out; have := HGz.out; have := HGm.out; have := HS1.out; omega)))
 clear hw hc4 n4 HO4 HR4 HV4 BM4 BZ4 HI4 HCh4
 clear c0 c1 c2 c3 c4
 clear f0 f1 f2 f3 f4
 go_wp2_with (go_at_call 39; refine Classical.byContradiction (fun hng => ?_))
 refine hng ?_
 clear hng
 refine (pick_any _ g 16 w0 _ HI5.out z26 (by have := HMs5.out.l0; omega) (by have := HMs5.out.l0; omega)).mono ?_
 rintro e w6 ⟨q, rfl, hq, hi, hk⟩
 have hst := HI5.out.step hi hk
 have HI6 := Aside0.mk hi
 have HCh6 := Aside0.mk (HCh5.out.then_ hst)
 have HMs6 := Aside0.mk (HMs5.out.ch hst (fun k hk => by have := HG.out; omega))
 clear hst hi hk HI5 HCh5 HMs5
 by_cases cq : 0 < q
 ·have d0 : decide (0 < q) = true := decide_eq_true cq
  clear cq hq
  have HD := Aside0.mk (HMs6.out.dm.mono (fun k hk => hk.1))
  have BMt := Aside0.mk HMs6.out.bm
  have BZt := Aside0.mk HMs6.out.bz
  have HIt := HI6
  have HCht := HCh6
  clear HMs6 HI6 HCh6
  go_wp2
  replace HD := Aside0.mk (HD.out.ch (Ch.drew (Ch.refl (fun _ => False) _)) (fun _ _ h => h))
  replace BMt := Aside0.mk (blk_drew BMt.out)
  replace BZt := Aside0.mk (blk_drew BZt.out)
  replace HIt := Aside0.mk HIt.out.drew
  replace HCht := Aside0.mk HCht.out.drew
  have z0 := (blk_cell BZt.out 0).trans rfl; have z1 := (blk_cell BZt.out 1).trans rfl; have z2 := (blk_cell BZt.out 2).trans rfl; have z3 := (blk_cell BZt.out 3).trans rfl; have z4 := (blk_cell BZt.out 4).trans rfl
  have y_0 := blk_frozen BZt.out 0; have y_1 := blk_frozen BZt.out 1; have y_2 := blk_frozen BZt.out 2; have y_3 := blk_frozen BZt.out 3; have y_4 := blk_frozen BZt.out 4
  refine start_ (n := 6) (S := fun w' => w'.cell? ⟨gm, 0, none⟩ = some (.slice (some ⟨gw, 0, none⟩) ws.length cW) ∧ w'.cell? ⟨gm, 1, none⟩ = some (.int .i64 y) ∧ w'.cell? ⟨gm, 2, none⟩ = some (.int .i64 t) ∧ w'.cell? ⟨gm, 3, none⟩ = some (.int .i64 o) ∧ w'.cell? ⟨gm, 4, none⟩ = some (.slice (some ⟨gc, 0, none⟩) cards.length cC)) (ds := [4]) #[false, false, false, false, false, false] (by kernel_rfl) rfl rfl ⟨((blk_cell BMt.out 0).trans rfl), ((blk_cell BMt.out 1).trans rfl), ((blk_cell BMt.out 2).trans rfl), ((blk_cell BMt.out 3).trans rfl), ((blk_cell BMt.out 4).trans rfl)⟩ (fun hHeld => ?_)
  generalize w6.drew = wt at HD BMt BZt HIt HCht z0 z1 z2 z3 z4 y_0 y_1 y_2 y_3 y_4 hHeld ⊢
  refine pS 0 20 #[true, false, false, false, false, false] ?_
  refine pS 2 22 #[true, false, true, false, false, false] ?_
  refine pS 3 2 #[true, false, true, true, false, false] ?_
  refine tS 1 21 #[true, true, true, true, false, false] rfl rfl (by kernel_rfl) hHeld z8 ?_
  refine last_ (i := 4) (N := none) #[true, true, true, true, true, false] rfl rfl (by kernel_rfl) (by decide) (fun K hK => ?_)
  refine skip_ (w1 := ?_) (by rfl) rfl ?_ ?_
  rotate_left
  ·go_simp
   rfl
  refine hK.out _ _ ?_
  clear hK K
  refine pS 5 4 #[true, true, true, true, true, true] ?_
  refine done_ (by kernel_rfl) ?_
  clear z0 y_0 z1 y_1 z2 y_2 z3 y_3 z4 y_4
  go_wp2
  refine bodyPost_ret (results_list (rs := [.tmp 2, .cell 3 27, .tmp 4]) rfl (by simp) (.tmp (.cell gz 27 #[.slice (some ⟨gw, 0, none⟩) ws.length cW, .int .i64 y, .int .i64 t, .int .i64 o, .slice (some ⟨gc, 0, none⟩) cards.length cC] (0, 0) _ rfl (blk_box5 BZt.out) Try.underlying27 rfl (by kernel_rfl) (.tmp .nil)))) rfl ?_
  exact (show Dm _ w.heap.size (fun k => w.heap.size ≤ k ∧ k ≠ gz) _ _ _ _ _ _ _ _ by rw [← HBW.out]; exact HD.out).ret HIt.out (by omega) HCht.out z31 z29
 ·have d0 : decide (0 < q) = false := decide_eq_false cq
  clear cq hq
  have k0 := (blk_cell HMs6.out.bm 0).trans rfl
  go_wp2_with fail
  go_at_call 39
  refine (pick_any _ g ws.length w0 _ HI6.out z26 (by have := HMs6.out.l0; omega) (by have := HMs6.out.l0; omega)).mono ?_
  rintro e w7 ⟨at_, rfl, hat, hi, hk⟩
  have hst := HI6.out.step hi hk
  have HI7 := Aside0.mk hi
  have HCh7 := Aside0.mk (HCh6.out.then_ hst)
  have HMs7 := Aside0.mk (HMs6.out.ch hst (fun k hk => by have := HG.out; omega))
  have HAt := Aside0.mk hat
  clear hat k0
  clear hst hi hk HI6 HCh6 HMs6
  go_wp2_with fail
  go_at_call 39
  refine (pick_any _ g 10 w0 _ HI7.out z26 (by have := HMs7.out.l0; omega) (by have := HMs7.out.l0; omega)).mono ?_
  rintro e w8 ⟨s, rfl, hs, hi, hk⟩
  have hst := HI7.out.step hi hk
  have HI8 := Aside0.mk hi
  have HCh8 := Aside0.mk (HCh7.out.then_ hst)
  have HMs8 := Aside0.mk (HMs7.out.ch hst (fun k hk => by have := HG.out; omega))
  clear hst hi hk HI7 HCh7 HMs7
  have hs10 : s = 0 ∨ s = 1 ∨ s = 2 ∨ s = 3 ∨ s = 4 ∨ s = 5 ∨ s = 6 ∨ s = 7 ∨ s = 8 ∨ s = 9 := by omega
  clear hs
  rcases hs10 with rfl | rfl | rfl | rfl | rfl | rfl | rfl | rfl | rfl | rfl
  ·have k0 := (blk_cell HMs8.out.bm 0).trans rfl
   go_wp2
   replace HMs8 := Aside0.mk (HMs8.out.ch (Ch.drew (Ch.refl (fun _ => False) _)) (fun _ h => h.elim))
   replace HI8 := Aside0.mk HI8.out.drew
   replace HCh8 := Aside0.mk HCh8.out.drew
   have p1 := eq_true HAt.out.1
   have p2 := eq_true HAt.out.2
   clear k0
   refine start_ (n := 8) (S := fun w' => w'.cell? ⟨gm, 0, none⟩ = some (.slice (some ⟨gw, 0, none⟩) ws.length cW)) (ds := [7]) #[false, false, false, false, false, false, false, false] (by kernel_rfl) rfl rfl (((blk_cell HMs8.out.bm 0).trans rfl)) (fun hHeld => ?_)
   generalize w8.drew = w8a at HMs8 HI8 HCh8 hHeld ⊢
   refine pS 0 36 #[true, false, false, false, false, false, false, false] ?_
   refine pS 2 38 #[true, false, true, false, false, false, false, false] ?_
   refine pS 3 39 #[true, false, true, true, false, false, false, false] ?_
   refine tS 1 37 #[true, true, true, true, false, false, false, false] rfl rfl (by kernel_rfl) hHeld (by intro w' s0; go_simp; with_reducible rfl) ?_
   refine one_ (i := 4) (N := some 40) #[true, true, true, true, true, false, false, false] rfl rfl (by kernel_rfl) (by decide) (fun K hK => ?_)
   refine goes_ Try.func39 (by kernel_rfl) rfl #[.pointer (some ⟨g, 0, none⟩), .int .i64 9] (by rfl) rfl rfl z5 ?_
   with_reducible refine (pick_any _ g 9 w0 _ HI8.out z26 (by omega) (by omega)).mono ?_
   rintro e w8b ⟨y9, rfl, hy9, hi, hk⟩
   refine ⟨_, rfl, ?_⟩
   have hst := HI8.out.step hi hk
   have HI9 := Aside0.mk hi
   have HCh9 := Aside0.mk (HCh8.out.then_ hst)
   have HMs9 := Aside0.mk (HMs8.out.ch hst (fun k hk => by have := HG.out; omega))
   clear hst hi hk hy9 HI8 HCh8 HMs8
   obtain ⟨x0, fx0⟩ := HMs9.out.om.wcell at_ HAt.out.1 HAt.out.2
   refine hK.out _ _ (((blk_cell HMs9.out.bm 0).trans rfl)) (fun hHeld => ?_)
   clear hK K
   refine norm_ (a' := ?_) ?_ ?_
   rotate_left
   ·show Act.put _ (some 40) _ = _
    simp only [Act.put, lA1, lA2, lA3, i64_w, i32_w]
    rfl
   refine pS 5 41 #[true, true, true, true, true, true, false, false] ?_
   refine pS 6 42 #[true, true, true, true, true, true, true, false] ?_
   refine last_ (i := 7) (N := none) #[true, true, true, true, true, true, true, true] rfl rfl (by kernel_rfl) (by decide) (fun K hK => ?_)
   refine skip_ (w1 := ?_) (by rfl) rfl ?_ ?_
   rotate_left
   ·go_simp
    rfl
   refine hK.out _ _ ?_
   clear hK K
   refine done_ (by kernel_rfl) ?_
   obtain ⟨w9, hw⟩ : ∃ z, z = w8b.setCell ⟨gw, at_.toNat, none⟩ (.int .i64 (wrap64 (y9 - 3))) := ⟨_, rfl⟩
   rw [← hw]
   have hO9 : OM s1 gw cW gc cC w9 (ws.set at_.toNat (wrap64 (y9 - 3))) cards := by rw [hw]; exact HMs9.out.om.setw at_ (wrap64 (y9 - 3))
   have hc9 : Ch (fun z => z = gw) w8b w9 := by rw [hw]; exact (Ch.refl (fun z => z = gw) _).set (.inl rfl) _
   have HMa := Aside0.mk (HMs9.out.word hc9 hO9 (List.length_set))
   have HD := Aside0.mk (HMa.out.dm.mono (fun k hk => hk.1))
   have BMt := Aside0.mk HMa.out.bm
   have BZt := Aside0.mk HMa.out.bz
   have HIt := Aside0.mk (HI9.out.ch hc9 (by have := HMs9.out.om.bw; have := HMs9.out.ge; have := HG.out; omega) (fun z hz => by have := HMs9.out.om.bw; have := HMs9.out.ge; have := HG.out; omega))
   have HCht := Aside0.mk (HCh9.out.trans hc9 (fun z hz => .inr (by have := HMs9.out.om.bw; have := HMs9.out.ge; have := HBW.out; omega)))
   clear hO9 hc9 hw x0 fx0 HMs9 HI9 HCh9
   simp only [List.length_set] at HD BMt
   go_wp2
   replace HD := Aside0.mk (HD.out.ch (Ch.drew (Ch.refl (fun _ => False) _)) (fun _ _ h => h))
   replace BMt := Aside0.mk (blk_drew BMt.out)
   replace BZt := Aside0.mk (blk_drew BZt.out)
   replace HIt := Aside0.mk HIt.out.drew
   replace HCht := Aside0.mk HCht.out.drew
   have z0 := (blk_cell BZt.out 0).trans rfl; have z1 := (blk_cell BZt.out 1).trans rfl; have z2 := (blk_cell BZt.out 2).trans rfl; have z3 := (blk_cell BZt.out 3).trans rfl; have z4 := (blk_cell BZt.out 4).trans rfl
   have y_0 := blk_frozen BZt.out 0; have y_1 := blk_frozen BZt.out 1; have y_2 := blk_frozen BZt.out 2; have y_3 := blk_frozen BZt.out 3; have y_4 := blk_frozen BZt.out 4
   refine start_ (n := 6) (S := fun w' => w'.cell? ⟨gm, 0, none⟩ = some (.slice (some ⟨gw, 0, none⟩) ws.length cW) ∧ w'.cell? ⟨gm, 1, none⟩ = some (.int .i64 y) ∧ w'.cell? ⟨gm, 2, none⟩ = some (.int .i64 t) ∧ w'.cell? ⟨gm, 3, none⟩ = some (.int .i64 o) ∧ w'.cell? ⟨gm, 4, none⟩ = some (.slice (some ⟨gc, 0, none⟩) cards.length cC)) (ds := [4]) #[false, false, false, false, false, false] (by kernel_rfl) rfl rfl ⟨((blk_cell BMt.out 0).trans rfl), ((blk_cell BMt.out 1).trans rfl), ((blk_cell BMt.out 2).trans rfl), ((blk_cell BMt.out 3).trans rfl), ((blk_cell BMt.out 4).trans rfl)⟩ (fun hHeld => ?_)
   generalize w9.drew = wt at HD BMt BZt HIt HCht z0 z1 z2 z3 z4 y_0 y_1 y_2 y_3 y_4 hHeld ⊢
   refine pS 0 103 #[true, false, false, false, false, false] ?_
   refine pS 2 105 #[true, false, true, false, false, false] ?_
   refine pS 3 2 #[true, false, true, true, false, false] ?_
   refine tS 1 104 #[true, true, true, true, false, false] rfl rfl (by kernel_rfl) hHeld z8 ?_
   refine last_ (i := 4) (N := none) #[true, true, true, true, true, false] rfl rfl (by kernel_rfl) (by decide) (fun K hK => ?_)
   refine skip_ (w1 := ?_) (by rfl) rfl ?_ ?_
   rotate_left
   ·go_simp
    rfl
   refine hK.out _ _ ?_
   clear hK K
   refine pS 5 4 #[true, true, true, true, true, true] ?_
   refine done_ (by kernel_rfl) ?_
   clear z0 y_0 z1 y_1 z2 y_2 z3 y_3 z4 y_4
   go_wp2
   refine bodyPost_ret (results_list (rs := [.tmp 2, .cell 3 27, .tmp 4]) rfl (by simp) (.tmp (.cell gz 27 #[.slice (some ⟨gw, 0, none⟩) ws.length cW, .int .i64 y, .int .i64 t, .int .i64 o, .slice (some ⟨gc, 0, none⟩) cards.length cC] (0, 0) _ rfl (blk_box5 BZt.out) Try.underlying27 rfl (by kernel_rfl) (.tmp .nil)))) rfl ?_
   exact (show Dm _ w.heap.size (fun k => w.heap.size ≤ k ∧ k ≠ gz) _ _ _ _ _ _ _ _ by rw [← HBW.out]; exact HD.out).ret HIt.out (by omega) HCht.out z31 z29
  ·go_wp2_with fail
   go_at_call 39
   refine (pick_any _ g 12 w0 _ HI8.out z26 (by have := HMs8.out.l0; omega) (by have := HMs8.out.l0; omega)).mono ?_
   rintro e w9 ⟨p9, rfl, hp9, hi, hk⟩
   have hst := HI8.out.step hi hk
   have HI9 := Aside0.mk hi
   have HCh9 := Aside0.mk (HCh8.out.then_ hst)
   have HMs9 := Aside0.mk (HMs8.out.ch hst (fun k hk => by have := HG.out; omega))
   have k2 := (blk_cell HMs9.out.bm 2).trans rfl; have fk2 := blk_frozen HMs9.out.bm 2
   clear hp9
   clear hst hi hk HI8 HCh8 HMs8
   go_wp2_with ((with_reducible refine gate_store (t := 3) (p := 47) rfl ?_); refine Classical.byContradiction (fun hng => ?_))
   refine hng ?_
   clear hng
   refine store_event (t := 3) (p := 47) (v := ?vs1) (w1 := (w9.setCell ⟨gm, 2, none⟩ (.int .i64 p9))) ?hg ?ho ?hn ?hr ?_
   (case ho => rfl)
   (case hg => rfl)
   (case hn => rfl)
   (case hr => first | (go_simp; done) | (go_simp; rfl))
   intro wa hw
   clear k2 fk2
   have hc9 : Ch (fun z => z = gm) w9 wa := by rw [hw]; exact (Ch.refl (fun z => z = gm) _).set (.inl rfl) _
   have HD := Aside0.mk ((HMs9.out.dm.ch hc9 (fun z hz => hz.2)).mono (fun z hz => hz.1))
   have BMt := Aside0.mk (show wa.heap[gm]? = some (.cells #[.slice (some ⟨gw, 0, none⟩) ws.length cW, .int .i64 y, .int .i64 p9, .int .i64 o, .slice (some ⟨gc, 0, none⟩) cards.length cC] 27 (0, 0)) by rw [hw]; exact blk_put HMs9.out.bm 2 _ rfl)
   have BZt := Aside0.mk (hc9.blk HMs9.out.bz (by have := HMs9.out.ge; omega))
   have HIt := Aside0.mk (HI9.out.ch hc9 (by have := HMs9.out.ge; have := HG.out; omega) (fun z hz => by have := HMs9.out.ge; have := HG.out; omega))
   have HCht := Aside0.mk (HCh9.out.trans hc9 (fun z hz => .inr (by have := HMs9.out.ge; have := HBW.out; omega)))
   clear hc9 hw HMs9 HI9 HCh9
   go_wp2
   replace HD := Aside0.mk (HD.out.ch (Ch.drew (Ch.refl (fun _ => False) _)) (fun _ _ h => h))
   replace BMt := Aside0.mk (blk_drew BMt.out)
   replace BZt := Aside0.mk (blk_drew BZt.out)
   replace HIt := Aside0.mk HIt.out.drew
   replace HCht := Aside0.mk HCht.out.drew
   have z0 := (blk_cell BZt.out 0).trans rfl; have z1 := (blk_cell BZt.out 1).trans rfl; have z2 := (blk_cell BZt.out 2).trans rfl; have z3 := (blk_cell BZt.out 3).trans rfl; have z4 := (blk_cell BZt.out 4).trans rfl
   have y_0 := blk_frozen BZt.out 0; have y_1 := blk_frozen BZt.out 1; have y_2 := blk_frozen BZt.out 2; have y_3 := blk_frozen BZt.out 3; have y_4 := blk_frozen BZt.out 4
   refine start_ (n := 6) (S := fun w' => w'.cell? ⟨gm, 0, none⟩ = some (.slice (some ⟨gw, 0, none⟩) ws.length cW) ∧ w'.cell? ⟨gm, 1, none⟩ = some (.int .i64 y) ∧ w'.cell? ⟨gm, 2, none⟩ = some (.int .i64 p9) ∧ w'.cell? ⟨gm, 3, none⟩ = some (.int .i64 o) ∧ w'.cell? ⟨gm, 4, none⟩ = some (.slice (some ⟨gc, 0, none⟩) cards.length cC)) (ds := [4]) #[false, false, false, false, false, false] (by kernel_rfl) rfl rfl ⟨((blk_cell BMt.out 0).trans rfl), ((blk_cell BMt.out 1).trans rfl), ((blk_cell BMt.out 2).trans rfl), ((blk_cell BMt.out 3).trans rfl), ((blk_cell BMt.out 4).trans rfl)⟩ (fun hHeld => ?_)
   generalize wa.drew = wt at HD BMt BZt HIt HCht z0 z1 z2 z3 z4 y_0 y_1 y_2 y_3 y_4 hHeld ⊢
   refine pS 0 103 #[true, false, false, false, false, false] ?_
   refine pS 2 105 #[true, false, true, false, false, false] ?_
   refine pS 3 2 #[true, false, true, true, false, false] ?_
   refine tS 1 104 #[true, true, true, true, false, false] rfl rfl (by kernel_rfl) hHeld z8 ?_
   refine last_ (i := 4) (N := none) #[true, true, true, true, true, false] rfl rfl (by kernel_rfl) (by decide) (fun K hK => ?_)
   refine skip_ (w1 := ?_) (by rfl) rfl ?_ ?_
   rotate_left
   ·go_simp
    rfl
   refine hK.out _ _ ?_
   clear hK K
   refine pS 5 4 #[true, true, true, true, true, true] ?_
   refine done_ (by kernel_rfl) ?_
   clear z0 y_0 z1 y_1 z2 y_2 z3 y_3 z4 y_4
   go_wp2
   refine bodyPost_ret (results_list (rs := [.tmp 2, .cell 3 27, .tmp 4]) rfl (by simp) (.tmp (.cell gz 27 #[.slice (some ⟨gw, 0, none⟩) ws.length cW, .int .i64 y, .int .i64 p9, .int .i64 o, .slice (some ⟨gc, 0, none⟩) cards.length cC] (0, 0) _ rfl (blk_box5 BZt.out) Try.underlying27 rfl (by kernel_rfl) (.tmp .nil)))) rfl ?_
   exact (show Dm _ w.heap.size (fun k => w.heap.size ≤ k ∧ k ≠ gz) _ _ _ _ _ _ _ _ by rw [← HBW.out]; exact HD.out).ret HIt.out (by omega) HCht.out z31 z29
  ·have k3 := (blk_cell HMs8.out.bm 3).trans rfl
   go_wp2
   replace HMs8 := Aside0.mk (HMs8.out.ch (Ch.drew (Ch.refl (fun _ => False) _)) (fun _ h => h.elim))
   replace HI8 := Aside0.mk HI8.out.drew
   replace HCh8 := Aside0.mk HCh8.out.drew
   clear k3
   refine start_ (n := 8) (S := fun w' => w'.cell? ⟨gm, 3, none⟩ = some (.int .i64 o)) (ds := [7]) #[false, false, false, false, false, false, false, false] (by kernel_rfl) rfl rfl (((blk_cell HMs8.out.bm 3).trans rfl)) (fun hHeld => ?_)
   generalize w8.drew = w8a at HMs8 HI8 HCh8 hHeld ⊢
   refine pS 0 50 #[true, false, false, false, false, false, false, false] ?_
   refine pS 2 52 #[true, false, true, false, false, false, false, false] ?_
   refine tS 1 51 #[true, true, true, false, false, false, false, false] rfl rfl (by kernel_rfl) hHeld (by intro w' s0; go_simp; with_reducible rfl) ?_
   refine one_ (i := 3) (N := some 53) #[true, true, true, true, false, false, false, false] rfl rfl (by kernel_rfl) (by decide) (fun K hK => ?_)
   refine goes_ Try.func39 (by kernel_rfl) rfl #[.pointer (some ⟨g, 0, none⟩), .int .i64 4] (by rfl) rfl rfl z5 ?_
   with_reducible refine (pick_any _ g 4 w0 _ HI8.out z26 (by omega) (by omega)).mono ?_
   rintro e w8b ⟨p9, rfl, hp9, hi, hk⟩
   refine ⟨_, rfl, ?_⟩
   have hst := HI8.out.step hi hk
   have HI9 := Aside0.mk hi
   have HCh9 := Aside0.mk (HCh8.out.then_ hst)
   have HMs9 := Aside0.mk (HMs8.out.ch hst (fun k hk => by have := HG.out; omega))
   clear hst hi hk hp9 HI8 HCh8 HMs8
   have k3 := (blk_cell HMs9.out.bm 3).trans rfl
   have fk3 := blk_frozen HMs9.out.bm 3
   refine hK.out _ _ (k3) (fun hHeld => ?_)
   clear hK K
   refine norm_ (a' := ?_) ?_ ?_
   rotate_left
   ·show Act.put _ (some 53) _ = _
    simp only [Act.put, lA1, lA2, lA3, i64_w, i32_w]
    rfl
   refine pS 4 54 #[true, true, true, true, true, false, false, false] ?_
   refine pS 5 55 #[true, true, true, true, true, true, false, false] ?_
   refine pS 6 56 #[true, true, true, true, true, true, true, false] ?_
   refine last_ (i := 7) (N := none) #[true, true, true, true, true, true, true, true] rfl rfl (by kernel_rfl) (by decide) (fun K hK => ?_)
   refine skip_ (w1 := ?_) (by rfl) rfl ?_ ?_
   rotate_left
   ·go_simp
    rfl
   refine hK.out _ _ ?_
   clear hK K
   refine done_ (by kernel_rfl) ?_
   obtain ⟨w9, hw⟩ : ∃ z, z = w8b.setCell ⟨gm, 3, none⟩ (.int .i64 (wrap64 (wrap64 (o + p9) - 1))) := ⟨_, rfl⟩
   rw [← hw]
   have hc9 : Ch (fun z => z = gm) w8b w9 := by rw [hw]; exact (Ch.refl (fun z => z = gm) _).set (.inl rfl) _
   have HD := Aside0.mk ((HMs9.out.dm.ch hc9 (fun z hz => hz.2)).mono (fun z hz => hz.1))
   have BMt := Aside0.mk (show w9.heap[gm]? = some (.cells #[.slice (some ⟨gw, 0, none⟩) ws.length cW, .int .i64 y, .int .i64 t, .int .i64 (wrap64 (wrap64 (o + p9) - 1)), .slice (some ⟨gc, 0, none⟩) cards.length cC] 27 (0, 0)) by rw [hw]; exact blk_put HMs9.out.bm 3 _ rfl)
   have BZt := Aside0.mk (hc9.blk HMs9.out.bz (by have := HMs9.out.ge; omega))
   have HIt := Aside0.mk (HI9.out.ch hc9 (by have := HMs9.out.ge; have := HG.out; omega) (fun z hz => by have := HMs9.out.ge; have := HG.out; omega))
   have HCht := Aside0.mk (HCh9.out.trans hc9 (fun z hz => .inr (by have := HMs9.out.ge; have := HBW.out; omega)))
   clear hc9 hw k3 fk3 HMs9 HI9 HCh9
   go_wp2
   replace HD := Aside0.mk (HD.out.ch (Ch.drew (Ch.refl (fun _ => False) _)) (fun _ _ h => h))
   replace BMt := Aside0.mk (blk_drew BMt.out)
   replace BZt := Aside0.mk (blk_drew BZt.out)
   replace HIt := Aside0.mk HIt.out.drew
   replace HCht := Aside0.mk HCht.out.drew
   have z0 := (blk_cell BZt.out 0).trans rfl; have z1 := (blk_cell BZt.out 1).trans rfl; have z2 := (blk_cell BZt.out 2).trans rfl; have z3 := (blk_cell BZt.out 3).trans rfl; have z4 := (blk_cell BZt.out 4).trans rfl
   have y_0 := blk_frozen BZt.out 0; have y_1 := blk_frozen BZt.out 1; have y_2 := blk_frozen BZt.out 2; have y_3 := blk_frozen BZt.out 3; have y_4 := blk_frozen BZt.out 4
   refine start_ (n := 6) (S := fun w' => w'.cell? ⟨gm, 0, none⟩ = some (.slice (some ⟨gw, 0, none⟩) ws.length cW) ∧ w'.cell? ⟨gm, 1, none⟩ = some (.int .i64 y) ∧ w'.cell? ⟨gm, 2, none⟩ = some (.int .i64 t) ∧ w'.cell? ⟨gm, 3, none⟩ = some (.int .i64 (wrap64 (wrap64 (o + p9) - 1))) ∧ w'.cell? ⟨gm, 4, none⟩ = some (.slice (some ⟨gc, 0, none⟩) cards.length cC)) (ds := [4]) #[false, false, false, false, false, false] (by kernel_rfl) rfl rfl ⟨((blk_cell BMt.out 0).trans rfl), ((blk_cell BMt.out 1).trans rfl), ((blk_cell BMt.out 2).trans rfl), ((blk_cell BMt.out 3).trans rfl), ((blk_cell BMt.out 4).trans rfl)⟩ (fun hHeld => ?_)
   generalize w9.drew = wt at HD BMt BZt HIt HCht z0 z1 z2 z3 z4 y_0 y_1 y_2 y_3 y_4 hHeld ⊢
   refine pS 0 103 #[true, false, false, false, false, false] ?_
   refine pS 2 105 #[true, false, true, false, false, false] ?_
   refine pS 3 2 #[true, false, true, true, false, false] ?_
   refine tS 1 104 #[true, true, true, true, false, false] rfl rfl (by kernel_rfl) hHeld z8 ?_
   refine last_ (i := 4) (N := none) #[true, true, true, true, true, false] rfl rfl (by kernel_rfl) (by decide) (fun K hK => ?_)
   refine skip_ (w1 := ?_) (by rfl) rfl ?_ ?_
   rotate_left
   ·go_simp
    rfl
   refine hK.out _ _ ?_
   clear hK K
   refine pS 5 4 #[true, true, true, true, true, true] ?_
   refine done_ (by kernel_rfl) ?_
   clear z0 y_0 z1 y_1 z2 y_2 z3 y_3 z4 y_4
   go_wp2
   refine bodyPost_ret (results_list (rs := [.tmp 2, .cell 3 27, .tmp 4]) rfl (by simp) (.tmp (.cell gz 27 #[.slice (some ⟨gw, 0, none⟩) ws.length cW, .int .i64 y, .int .i64 t, .int .i64 (wrap64 (wrap64 (o + p9) - 1)), .slice (some ⟨gc, 0, none⟩) cards.length cC] (0, 0) _ rfl (blk_box5 BZt.out) Try.underlying27 rfl (by kernel_rfl) (.tmp .nil)))) rfl ?_
   exact (show Dm _ w.heap.size (fun k => w.heap.size ≤ k ∧ k ≠ gz) _ _ _ _ _ _ _ _ by rw [← HBW.out]; exact HD.out).ret HIt.out (by omega) HCht.out z31 z29
  ·have k4 := (blk_cell HMs8.out.bm 4).trans rfl; have fk4 := blk_frozen HMs8.out.bm 4
   go_wp2_with ((with_reducible refine gate_dst (N := 62) rfl ?_); refine Classical.byContradiction (fun hng => ?_))
   refine hng ?_
   clear hng
   refine Kd.R_make Kd.bool _ 4 rfl (N := 62) rfl 25 _ _ rfl (cards.length : Int) rfl rfl Try.underlying25 (.bool false) 1 info4 rfl (by decide) (by omega) false (ok := fun _ => True) (okp := fun _ => True) rfl (fun _ hk => hk) trivial (by omega) (by have := HMs8.out.l4; omega) (Below.refl _ _) (Nat.le_refl _) ?_
   intro v9 w9 ho hb hg_ hnew_
   have HM9 := Aside0.mk (HMs8.out.below hb)
   have HR9 := Aside0.mk (Kd.R_mono (Kd.R_bound ho) (fun k hk => show w8.heap.size ≤ k from hk.2.1))
   have HI9 := Aside0.mk (HI8.out.below hb)
   have HCh9 := Aside0.mk (HCh8.out.below hb)
   have HZ8 := Aside0.mk (show gm < w8.heap.size from blk_lt HMs8.out.bm)
   clear ho hb hg_ hnew_ HI8 HCh8 HMs8 k4 fk4
   obtain ⟨A9, c9, e9⟩ := Kd.R_slice HR9.out
   subst e9
   have k4 := (blk_cell HM9.out.bm 4).trans rfl; have fk4 := blk_frozen HM9.out.bm 4
   go_wp2_with ((with_reducible refine gate_store (t := 25) (p := 63) rfl ?_); refine Classical.byContradiction (fun hng => ?_))
   refine hng ?_
   clear hng
   refine store_event (t := 25) (p := 63) (v := ?vs3) (w1 := (w9.setCell ⟨gm, 4, none⟩ (.slice A9 (List.replicate (cards.length : Int).toNat false).length c9))) ?hg ?ho ?hn ?hr ?_
   (case ho => rfl)
   (case hg => rfl)
   (case hn => rfl)
   (case hr => first | (go_simp; done) | (go_simp; rfl))
   intro wa hw
   clear k4 fk4
   have hd := HM9.out.dm
   have hc9 : Ch (fun z => z = gm) w9 wa := by rw [hw]; exact (Ch.refl (fun z => z = gm) _).set (.inl rfl) _
   have HD := Aside0.mk (((Dm.mk hd.h5 hd.h0 (Kd.R_V (Kd.R_mono HR9.out (fun k hk => (show (b0 ≤ k ∧ k ≠ gz) ∧ k ≠ gm by have := HZ8.out; have := HM9.out.ge; omega)))) hd.h7 hd.l5 hd.l0 (by have := HM9.out.l4; rw [List.length_replicate]; omega) hd.l7).ch hc9 (fun z hz => hz.2)).mono (fun z hz => hz.1))
   have BMt := Aside0.mk (show wa.heap[gm]? = some (.cells #[.slice (some ⟨gw, 0, none⟩) ws.length cW, .int .i64 y, .int .i64 t, .int .i64 o, .slice A9 (List.replicate (cards.length : Int).toNat false).length c9] 27 (0, 0)) by rw [hw]; exact blk_put HM9.out.bm 4 _ rfl)
   have BZt := Aside0.mk (hc9.blk HM9.out.bz (by have := HM9.out.ge; omega))
   have HIt := Aside0.mk (HI9.out.ch hc9 (by have := HM9.out.ge; have := HG.out; omega) (fun z hz => by have := HM9.out.ge; have := HG.out; omega))
   have HCht := Aside0.mk (HCh9.out.trans hc9 (fun z hz => .inr (by have := HM9.out.ge; have := HBW.out; omega)))
   clear hd hc9 hw HM9 HI9 HCh9 HR9
   simp only [List.length_replicate, Int.toNat_natCast] at HD BMt
   go_wp2
   replace HD := Aside0.mk (HD.out.ch (Ch.drew (Ch.refl (fun _ => False) _)) (fun _ _ h => h))
   replace BMt := Aside0.mk (blk_drew BMt.out)
   replace BZt := Aside0.mk (blk_drew BZt.out)
   replace HIt := Aside0.mk HIt.out.drew
   replace HCht := Aside0.mk HCht.out.drew
   have z0 := (blk_cell BZt.out 0).trans rfl; have z1 := (blk_cell BZt.out 1).trans rfl; have z2 := (blk_cell BZt.out 2).trans rfl; have z3 := (blk_cell BZt.out 3).trans rfl; have z4 := (blk_cell BZt.out 4).trans rfl
   have y_0 := blk_frozen BZt.out 0; have y_1 := blk_frozen BZt.out 1; have y_2 := blk_frozen BZt.out 2; have y_3 := blk_frozen BZt.out 3; have y_4 := blk_frozen BZt.out 4
   refine start_ (n := 6) (S := fun w' => w'.cell? ⟨gm, 0, none⟩ = some (.slice (some ⟨gw, 0, none⟩) ws.length cW) ∧ w'.cell? ⟨gm, 1, none⟩ = some (.int .i64 y) ∧ w'.cell? ⟨gm, 2, none⟩ = some (.int .i64 t) ∧ w'.cell? ⟨gm, 3, none⟩ = some (.int .i64 o) ∧ w'.cell? ⟨gm, 4, none⟩ = some (.slice A9 cards.length c9)) (ds := [4]) #[false, false, false, false, false, false] (by kernel_rfl) rfl rfl ⟨((blk_cell BMt.out 0).trans rfl), ((blk_cell BMt.out 1).trans rfl), ((blk_cell BMt.out 2).trans rfl), ((blk_cell BMt.out 3).trans rfl), ((blk_cell BMt.out 4).trans rfl)⟩ (fun hHeld => ?_)
   generalize wa.drew = wt at HD BMt BZt HIt HCht z0 z1 z2 z3 z4 y_0 y_1 y_2 y_3 y_4 hHeld ⊢
   refine pS 0 103 #[true, false, false, false, false, false] ?_
   refine pS 2 105 #[true, false, true, false, false, false] ?_
   refine pS 3 2 #[true, false, true, true, false, false] ?_
   refine tS 1 104 #[true, true, true, true, false, false] rfl rfl (by kernel_rfl) hHeld z8 ?_
   refine last_ (i := 4) (N := none) #[true, true, true, true, true, false] rfl rfl (by kernel_rfl) (by decide) (fun K hK => ?_)
   refine skip_ (w1 := ?_) (by rfl) rfl ?_ ?_
   rotate_left
   ·go_simp
    rfl
   refine hK.out _ _ ?_
   clear hK K
   refine pS 5 4 #[true, true, true, true, true, true] ?_
   refine done_ (by kernel_rfl) ?_
   clear z0 y_0 z1 y_1 z2 y_2 z3 y_3 z4 y_4
   go_wp2
   refine bodyPost_ret (results_list (rs := [.tmp 2, .cell 3 27, .tmp 4]) rfl (by simp) (.tmp (.cell gz 27 #[.slice (some ⟨gw, 0, none⟩) ws.length cW, .int .i64 y, .int .i64 t, .int .i64 o, .slice A9 cards.length c9] (0, 0) _ rfl (blk_box5 BZt.out) Try.underlying27 rfl (by kernel_rfl) (.tmp .nil)))) rfl ?_
   exact (show Dm _ w.heap.size (fun k => w.heap.size ≤ k ∧ k ≠ gz) _ _ _ _ _ _ _ _ by rw [← HBW.out]; exact HD.out).ret HIt.out (by omega) HCht.out z31 z29
  ·have k4 := (blk_cell HMs8.out.bm 4).trans rfl; have fk4 := blk_frozen HMs8.out.bm 4
   have hcc := (Kd.R_reads' HMs8.out.om.hc).2.1
   have h4_ := HMs8.out.l4
   have p1 := eq_true (show 1 ≤ cards.length by omega)
   have p2 := eq_true (show (1 : Int) ≤ (cards.length : Int) by omega)
   have p3 := eq_false (show ¬ cC = 1 by omega)
   have p4 := eq_true (show 1 ≤ cC by omega)
   have p5 := eq_true (show (1 : Int) ≤ (cC : Int) by omega)
   clear hcc h4_
   go_wp2_with ((with_reducible refine gate_store (t := 25) (p := 69) rfl ?_); refine Classical.byContradiction (fun hng => ?_))
   refine hng ?_
   clear hng
   refine store_event (t := 25) (p := 69) (v := ?vs4) (w1 := (w8.setCell ⟨gm, 4, none⟩ (.slice (some ⟨gc, 1, none⟩) (cards.length - 1) (cC - 1)))) ?hg ?ho ?hn ?hr ?_
   (case ho => rfl)
   (case hg => rfl)
   (case hn => rfl)
   (case hr => first | (go_simp; done) | (go_simp; rfl))
   intro wa hw
   clear p1 p2 p3 p4 p5
   clear k4 fk4
   have hc9 : Ch (fun z => z = gm) w8 wa := by rw [hw]; exact (Ch.refl (fun z => z = gm) _).set (.inl rfl) _
   have HD := Aside0.mk ((HMs8.out.cut.ch hc9 (fun z hz => hz.2)).mono (fun z hz => hz.1))
   have BMt := Aside0.mk (show wa.heap[gm]? = some (.cells #[.slice (some ⟨gw, 0, none⟩) ws.length cW, .int .i64 y, .int .i64 t, .int .i64 o, .slice (some ⟨gc, 1, none⟩) (cards.length - 1) (cC - 1)] 27 (0, 0)) by rw [hw]; exact blk_put HMs8.out.bm 4 _ rfl)
   have BZt := Aside0.mk (hc9.blk HMs8.out.bz (by have := HMs8.out.ge; omega))
   have HIt := Aside0.mk (HI8.out.ch hc9 (by have := HMs8.out.ge; have := HG.out; omega) (fun z hz => by have := HMs8.out.ge; have := HG.out; omega))
   have HCht := Aside0.mk (HCh8.out.trans hc9 (fun z hz => .inr (by have := HMs8.out.ge; have := HBW.out; omega)))
   clear hc9 hw HMs8 HI8 HCh8
   go_wp2
   replace HD := Aside0.mk (HD.out.ch (Ch.drew (Ch.refl (fun _ => False) _)) (fun _ _ h => h))
   replace BMt := Aside0.mk (blk_drew BMt.out)
   replace BZt := Aside0.mk (blk_drew BZt.out)
   replace HIt := Aside0.mk HIt.out.drew
   replace HCht := Aside0.mk HCht.out.drew
   have z0 := (blk_cell BZt.out 0).trans rfl; have z1 := (blk_cell BZt.out 1).trans rfl; have z2 := (blk_cell BZt.out 2).trans rfl; have z3 := (blk_cell BZt.out 3).trans rfl; have z4 := (blk_cell BZt.out 4).trans rfl
   have y_0 := blk_frozen BZt.out 0; have y_1 := blk_frozen BZt.out 1; have y_2 := blk_frozen BZt.out 2; have y_3 := blk_frozen BZt.out 3; have y_4 := blk_frozen BZt.out 4
   refine start_ (n := 6) (S := fun w' => w'.cell? ⟨gm, 0, none⟩ = some (.slice (some ⟨gw, 0, none⟩) ws.length cW) ∧ w'.cell? ⟨gm, 1, none⟩ = some (.int .i64 y) ∧ w'.cell? ⟨gm, 2, none⟩ = some (.int .i64 t) ∧ w'.cell? ⟨gm, 3, none⟩ = some (.int .i64 o) ∧ w'.cell? ⟨gm, 4, none⟩ = some (.slice (some ⟨gc, 1, none⟩) (cards.length - 1) (cC - 1))) (ds := [4]) #[false, false, false, false, false, false] (by kernel_rfl) rfl rfl ⟨((blk_cell BMt.out 0).trans rfl), ((blk_cell BMt.out 1).trans rfl), ((blk_cell BMt.out 2).trans rfl), ((blk_cell BMt.out 3).trans rfl), ((blk_cell BMt.out 4).trans rfl)⟩ (fun hHeld => ?_)
   generalize wa.drew = wt at HD BMt BZt HIt HCht z0 z1 z2 z3 z4 y_0 y_1 y_2 y_3 y_4 hHeld ⊢
   refine pS 0 103 #[true, false, false, false, false, false] ?_
   refine pS 2 105 #[true, false, true, false, false, false] ?_
   refine pS 3 2 #[true, false, true, true, false, false] ?_
   refine tS 1 104 #[true, true, true, true, false, false] rfl rfl (by kernel_rfl) hHeld z8 ?_
   refine last_ (i := 4) (N := none) #[true, true, true, true, true, false] rfl rfl (by kernel_rfl) (by decide) (fun K hK => ?_)
   refine skip_ (w1 := ?_) (by rfl) rfl ?_ ?_
   rotate_left
   ·go_simp
    rfl
   refine hK.out _ _ ?_
   clear hK K
   refine pS 5 4 #[true, true, true, true, true, true] ?_
   refine done_ (by kernel_rfl) ?_
   clear z0 y_0 z1 y_1 z2 y_2 z3 y_3 z4 y_4
   go_wp2
   refine bodyPost_ret (results_list (rs := [.tmp 2, .cell 3 27, .tmp 4]) rfl (by simp) (.tmp (.cell gz 27 #[.slice (some ⟨gw, 0, none⟩) ws.length cW, .int .i64 y, .int .i64 t, .int .i64 o, .slice (some ⟨gc, 1, none⟩) (cards.length - 1) (cC - 1)] (0, 0) _ rfl (blk_box5 BZt.out) Try.underlying27 rfl (by kernel_rfl) (.tmp .nil)))) rfl ?_
   exact (show Dm _ w.heap.size (fun k => w.heap.size ≤ k ∧ k ≠ gz) _ _ _ _ _ _ _ _ by rw [← HBW.out]; exact HD.out).ret HIt.out (by omega) HCht.out z31 z29
  ·have k1 := (blk_cell HMs8.out.bm 1).trans rfl; have fk1 := blk_frozen HMs8.out.bm 1
   go_wp2_with ((with_reducible refine gate_store (t := 3) (p := 75) rfl ?_); refine Classical.byContradiction (fun hng => ?_))
   refine hng ?_
   clear hng
   refine store_event (t := 3) (p := 75) (v := ?vs5) (w1 := (w8.setCell ⟨gm, 1, none⟩ (.int .i64 (wrap64 (y + 1))))) ?hg ?ho ?hn ?hr ?_
   (case ho => rfl)
   (case hg => rfl)
   (case hn => rfl)
   (case hr => first | (go_simp; done) | (go_simp; rfl))
   intro wa hw
   clear k1 fk1
   have hc9 : Ch (fun z => z = gm) w8 wa := by rw [hw]; exact (Ch.refl (fun z => z = gm) _).set (.inl rfl) _
   have HD := Aside0.mk ((HMs8.out.dm.ch hc9 (fun z hz => hz.2)).mono (fun z hz => hz.1))
   have BMt := Aside0.mk (show wa.heap[gm]? = some (.cells #[.slice (some ⟨gw, 0, none⟩) ws.length cW, .int .i64 (wrap64 (y + 1)), .int .i64 t, .int .i64 o, .slice (some ⟨gc, 0, none⟩) cards.length cC] 27 (0, 0)) by rw [hw]; exact blk_put HMs8.out.bm 1 _ rfl)
   have BZt := Aside0.mk (hc9.blk HMs8.out.bz (by have := HMs8.out.ge; omega))
   have HIt := Aside0.mk (HI8.out.ch hc9 (by have := HMs8.out.ge; have := HG.out; omega) (fun z hz => by have := HMs8.out.ge; have := HG.out; omega))
   have HCht := Aside0.mk (HCh8.out.trans hc9 (fun z hz => .inr (by have := HMs8.out.ge; have := HBW.out; omega)))
   clear hc9 hw HMs8 HI8 HCh8
   go_wp2
   replace HD := Aside0.mk (HD.out.ch (Ch.drew (Ch.refl (fun _ => False) _)) (fun _ _ h => h))
   replace BMt := Aside0.mk (blk_drew BMt.out)
   replace BZt := Aside0.mk (blk_drew BZt.out)
   replace HIt := Aside0.mk HIt.out.drew
   replace HCht := Aside0.mk HCht.out.drew
   have z0 := (blk_cell BZt.out 0).trans rfl; have z1 := (blk_cell BZt.out 1).trans rfl; have z2 := (blk_cell BZt.out 2).trans rfl; have z3 := (blk_cell BZt.out 3).trans rfl; have z4 := (blk_cell BZt.out 4).trans rfl
   have y_0 := blk_frozen BZt.out 0; have y_1 := blk_frozen BZt.out 1; have y_2 := blk_frozen BZt.out 2; have y_3 := blk_frozen BZt.out 3; have y_4 := blk_frozen BZt.out 4
   refine start_ (n := 6) (S := fun w' => w'.cell? ⟨gm, 0, none⟩ = some (.slice (some ⟨gw, 0, none⟩) ws.length cW) ∧ w'.cell? ⟨gm, 1, none⟩ = some (.int .i64 (wrap64 (y + 1))) ∧ w'.cell? ⟨gm, 2, none⟩ = some (.int .i64 t) ∧ w'.cell? ⟨gm, 3, none⟩ = some (.int .i64 o) ∧ w'.cell? ⟨gm, 4, none⟩ = some (.slice (some ⟨gc, 0, none⟩) cards.length cC)) (ds := [4]) #[false, false, false, false, false, false] (by kernel_rfl) rfl rfl ⟨((blk_cell BMt.out 0).trans rfl), ((blk_cell BMt.out 1).trans rfl), ((blk_cell BMt.out 2).trans rfl), ((blk_cell BMt.out 3).trans rfl), ((blk_cell BMt.out 4).trans rfl)⟩ (fun hHeld => ?_)
   generalize wa.drew = wt at HD BMt BZt HIt HCht z0 z1 z2 z3 z4 y_0 y_1 y_2 y_3 y_4 hHeld ⊢
   refine pS 0 103 #[true, false, false, false, false, false] ?_
   refine pS 2 105 #[true, false, true, false, false, false] ?_
   refine pS 3 2 #[true, false, true, true, false, false] ?_
   refine tS 1 104 #[true, true, true, true, false, false] rfl rfl (by kernel_rfl) hHeld z8 ?_
   refine last_ (i := 4) (N := none) #[true, true, true, true, true, false] rfl rfl (by kernel_rfl) (by decide) (fun K hK => ?_)
   refine skip_ (w1 := ?_) (by rfl) rfl ?_ ?_
   rotate_left
   ·go_simp
    rfl
   refine hK.out _ _ ?_
   clear hK K
   refine pS 5 4 #[true, true, true, true, true, true] ?_
   refine done_ (by kernel_rfl) ?_
   clear z0 y_0 z1 y_1 z2 y_2 z3 y_3 z4 y_4
   go_wp2
   refine bodyPost_ret (results_list (rs := [.tmp 2, .cell 3 27, .tmp 4]) rfl (by simp) (.tmp (.cell gz 27 #[.slice (some ⟨gw, 0, none⟩) ws.length cW, .int .i64 (wrap64 (y + 1)), .int .i64 t, .int .i64 o, .slice (some ⟨gc, 0, none⟩) cards.length cC] (0, 0) _ rfl (blk_box5 BZt.out) Try.underlying27 rfl (by kernel_rfl) (.tmp .nil)))) rfl ?_
   exact (show Dm _ w.heap.size (fun k => w.heap.size ≤ k ∧ k ≠ gz) _ _ _ _ _ _ _ _ by rw [← HBW.out]; exact HD.out).ret HIt.out (by omega) HCht.out z31 z29
  ·have k0 := (blk_cell HMs8.out.bm 0).trans rfl; have fk0 := blk_frozen HMs8.out.bm 0
   go_wp2_with ((with_reducible refine gate_builtin (b := .append) (xs := #[.tmp 79, .tmp 80]) rfl ?_); refine Classical.byContradiction (fun hng => ?_))
   refine hng ?_
   clear hng
   at_builtin
   refine Kd.R_append (Kd.int .i64) (w0 := w8) s1 rfl (.tmp 79) (.tmp 80) 24 3 (.int .i64 0) 8 rfl Try.underlying24 info3 rfl (by decide) (by omega) (.slice (some ⟨gw, 0, none⟩) ws.length cW) ws 0 [.int .i64 0] (fun k => k = gw ∨ w8.heap.size ≤ k) (fun _ => False) rfl (by first | rfl | (go_simp; done) | (go_simp; rfl)) ?aP (fun _ hk => hk.elim) ?aF ?aO ?aB ?aS ?aL ?_
   (case aP => exact rfl)
   (case aB => exact Below.refl _ _)
   (case aF => exact fun k hk => .inr hk)
   (case aO => exact Kd.R_mono HMs8.out.om.hw (fun k hk => .inl hk))
   (case aS => have := HMs8.out.om.bw; omega)
   (case aL => have := HMs8.out.l0; omega)
   intro v9 w9 ho hbn hgr hat
   have hc9 : Ch (fun z => z = gw) w8 w9 := (Ch.refl _ w8).grown hgr (fun k e => .inl (Option.some.inj e).symm)
   obtain ⟨A9, c9, e9⟩ := Kd.R_slice ho
   subst e9
   obtain ⟨hd, hbm, hbz⟩ := HMs8.out.grow hc9 ho (fun k hk => hk) (by have := HMs8.out.l0; simp; omega)
   simp only [List.length_append, List.length_cons, List.length_nil, Nat.zero_add] at hd
   have HD9 := Aside0.mk hd
   have BM9 := Aside0.mk hbm
   have BZ9 := Aside0.mk hbz
   have HGE := Aside0.mk HMs8.out.ge
   have HI9 := Aside0.mk (HI8.out.ch hc9 (by have := HMs8.out.om.bw; have := HMs8.out.ge; have := HG.out; omega) (fun z hz => by have := HMs8.out.om.bw; have := HMs8.out.ge; have := HG.out; omega))
   have HCh9 := Aside0.mk (HCh8.out.trans hc9 (fun z hz => .inr (by have := HMs8.out.om.bw; have := HMs8.out.ge; have := HBW.out; omega)))
   clear ho hbn hgr hat hd hbm hbz hc9 HMs8 HI8 HCh8 k0 fk0
   have k0 := (blk_cell BM9.out 0).trans rfl
   have fk0 := blk_frozen BM9.out 0
   go_wp2_with ((with_reducible refine gate_store (t := 24) (p := 82) rfl ?_); refine Classical.byContradiction (fun hng => ?_))
   refine hng ?_
   clear hng
   refine store_event (t := 24) (p := 82) (v := ?vs6) (w1 := (w9.setCell ⟨gm, 0, none⟩ (.slice A9 (ws.length + 1) c9))) ?hg ?ho ?hn ?hr ?_
   (case ho => rfl)
   (case hg => rfl)
   (case hn => rfl)
   (case hr => first | (go_simp; done) | (go_simp; rfl))
   intro wa hw
   clear k0 fk0
   have hc9 : Ch (fun z => z = gm) w9 wa := by rw [hw]; exact (Ch.refl (fun z => z = gm) _).set (.inl rfl) _
   have HD := Aside0.mk ((HD9.out.ch hc9 (fun z hz => hz.2)).mono (fun z hz => hz.1))
   have BMt := Aside0.mk (show wa.heap[gm]? = some (.cells #[.slice A9 (ws.length + 1) c9, .int .i64 y, .int .i64 t, .int .i64 o, .slice (some ⟨gc, 0, none⟩) cards.length cC] 27 (0, 0)) by rw [hw]; exact blk_put BM9.out 0 _ rfl)
   have BZt := Aside0.mk (hc9.blk BZ9.out (by have := HGE.out; omega))
   have HIt := Aside0.mk (HI9.out.ch hc9 (by have := HGE.out; have := HG.out; omega) (fun z hz => by have := HGE.out; have := HG.out; omega))
   have HCht := Aside0.mk (HCh9.out.trans hc9 (fun z hz => .inr (by have := HGE.out; have := HBW.out; omega)))
   clear hc9 hw HD9 BM9 BZ9 HI9 HCh9
   go_wp2
   replace HD := Aside0.mk (HD.out.ch (Ch.drew (Ch.refl (fun _ => False) _)) (fun _ _ h => h))
   replace BMt := Aside0.mk (blk_drew BMt.out)
   replace BZt := Aside0.mk (blk_drew BZt.out)
   replace HIt := Aside0.mk HIt.out.drew
   replace HCht := Aside0.mk HCht.out.drew
   have z0 := (blk_cell BZt.out 0).trans rfl; have z1 := (blk_cell BZt.out 1).trans rfl; have z2 := (blk_cell BZt.out 2).trans rfl; have z3 := (blk_cell BZt.out 3).trans rfl; have z4 := (blk_cell BZt.out 4).trans rfl
   have y_0 := blk_frozen BZt.out 0; have y_1 := blk_frozen BZt.out 1; have y_2 := blk_frozen BZt.out 2; have y_3 := blk_frozen BZt.out 3; have y_4 := blk_frozen BZt.out 4
   refine start_ (n := 6) (S := fun w' => w'.cell? ⟨gm, 0, none⟩ = some (.slice A9 (ws.length + 1) c9) ∧ w'.cell? ⟨gm, 1, none⟩ = some (.int .i64 y) ∧ w'.cell? ⟨gm, 2, none⟩ = some (.int .i64 t) ∧ w'.cell? ⟨gm, 3, none⟩ = some (.int .i64 o) ∧ w'.cell? ⟨gm, 4, none⟩ = some (.slice (some ⟨gc, 0, none⟩) cards.length cC)) (ds := [4]) #[false, false, false, false, false, false] (by kernel_rfl) rfl rfl ⟨((blk_cell BMt.out 0).trans rfl), ((blk_cell BMt.out 1).trans rfl), ((blk_cell BMt.out 2).trans rfl), ((blk_cell BMt.out 3).trans rfl), ((blk_cell BMt.out 4).trans rfl)⟩ (fun hHeld => ?_)
   generalize wa.drew = wt at HD BMt BZt HIt HCht z0 z1 z2 z3 z4 y_0 y_1 y_2 y_3 y_4 hHeld ⊢
   refine pS 0 103 #[true, false, false, false, false, false] ?_
   refine pS 2 105 #[true, false, true, false, false, false] ?_
   refine pS 3 2 #[true, false, true, true, false, false] ?_
   refine tS 1 104 #[true, true, true, true, false, false] rfl rfl (by kernel_rfl) hHeld z8 ?_
   refine last_ (i := 4) (N := none) #[true, true, true, true, true, false] rfl rfl (by kernel_rfl) (by decide) (fun K hK => ?_)
   refine skip_ (w1 := ?_) (by rfl) rfl ?_ ?_
   rotate_left
   ·go_simp
    rfl
   refine hK.out _ _ ?_
   clear hK K
   refine pS 5 4 #[true, true, true, true, true, true] ?_
   refine done_ (by kernel_rfl) ?_
   clear z0 y_0 z1 y_1 z2 y_2 z3 y_3 z4 y_4
   go_wp2
   refine bodyPost_ret (results_list (rs := [.tmp 2, .cell 3 27, .tmp 4]) rfl (by simp) (.tmp (.cell gz 27 #[.slice A9 (ws.length + 1) c9, .int .i64 y, .int .i64 t, .int .i64 o, .slice (some ⟨gc, 0, none⟩) cards.length cC] (0, 0) _ rfl (blk_box5 BZt.out) Try.underlying27 rfl (by kernel_rfl) (.tmp .nil)))) rfl ?_
   exact (show Dm _ w.heap.size (fun k => w.heap.size ≤ k ∧ k ≠ gz) _ _ _ _ _ _ _ _ by rw [← HBW.out]; exact HD.out).ret HIt.out (by omega) HCht.out z31 z29
  ·go_wp2
   replace HMs8 := Aside0.mk (HMs8.out.ch (Ch.drew (Ch.refl (fun _ => False) _)) (fun _ h => h.elim))
   replace HI8 := Aside0.mk (HI8.out.drew.le (L := M + 5990) (by omega))
   replace HCh8 := Aside0.mk HCh8.out.drew
   refine start_ (n := 15) (S := fun w' => w'.cell? ⟨gm, 0, none⟩ = some (.slice (some ⟨gw, 0, none⟩) ws.length cW)) (ds := [13]) #[false, false, false, false, false, false, false, false, false, false, false, false, false, false, false] (by kernel_rfl) rfl rfl (((blk_cell HMs8.out.bm 0).trans rfl)) (fun hHeld => ?_)
   generalize w8.drew = w8a at HMs8 HI8 HCh8 hHeld ⊢
   refine pS 0 85 (lA 15 1) ?_
   refine pS 1 86 (lA 15 3) ?_
   refine pS 2 87 (lA 15 7) ?_
   refine pS 3 88 (lA 15 15) ?_
   refine pS 8 93 (lA 15 271) ?_
   refine tS 4 89 (lA 15 287) rfl rfl (by kernel_rfl) hHeld (by intro w' s0; go_simp; with_reducible rfl) ?_
   refine pS 5 90 (lA 15 319) ?_
   refine pS 6 91 (lA 15 383) ?_
   refine join_ (σ := Nat × Int) 5 (lA 15 1023) (fun s => [(92, .slice (some ⟨s.1, 0, none⟩) 3 3), (94, .int .i64 s.2)]) (fun s w' => (0 ≤ s.2 ∧ s.2 < 3) ∧ w'.heap[s.1]? = some (.cells #[.int .i64 (-1), .int .i64 (wrap64 (at_ + 1)), .int .i64 (wrap64 ((ws.length : Int) + 1))] 3 (0, 0)) ∧ Rdr (M + 5990 + 1) w0 w' g ∧ Ch (fun k => k = g) w w' ∧ Ms b0 s1 gz gm gw cW gc cC w' (.slice A cs.length cA) (.slice A7 rt.length c7) cs ws y t o cards rt ∧ (w'.cell? ⟨gm, 0, none⟩ = some (.slice (some ⟨gw, 0, none⟩) ws.length cW))) ?_ ?_
   rotate_left
   ·intro hCont
    refine two_ (i := 7) (j := 9) (Ni := some 92) (Nj := some 94) (lA 15 511) (lA 15 895) rfl rfl rfl rfl (by kernel_rfl) (by decide) (by decide) (fun K hK => ?_) (fun K hK => ?_)
    ·skip
     refine value_ (w1 := ?_) (v := ?_) (by rfl) rfl ?_ ?_
     rotate_left 2
     ·go_simp
      constructor
      ·rfl
      ·rfl
     refine hK.out _ _ ((pw_cell_below (below_alloc (Below.refl _ _) _) hHeld)) (fun hHeld => ?_)
     clear hK K
     refine norm_ (a' := ?_) ?_ ?_
     rotate_left
     ·show Act.put _ (some 92) _ = _
      simp only [Act.put, lA1, lA2, lA3, i64_w, i32_w]
      rfl
     refine one_ (i := 9) (N := some 94) (lA 15 1023) rfl rfl (by kernel_rfl) (by decide) (fun K hK => ?_)
     refine goes_ Try.func39 (by kernel_rfl) rfl #[.pointer (some ⟨g, 0, none⟩), .int .i64 3] (by rfl) rfl rfl z5 ?_
     with_reducible refine (pick_any _ g 3 w0 _ (HI8.out.alloc (.cells #[.int .i64 (-1), .int .i64 (wrap64 (at_ + 1)), .int .i64 (wrap64 ((ws.length : Int) + 1))] 3 (0, 0))) z26 (by omega) (by omega)).mono ?_
     rintro e w9 ⟨y9, rfl, hy9, hi, hk⟩
     refine ⟨_, rfl, ?_⟩
     have hst := (HI8.out.alloc (.cells #[.int .i64 (-1), .int .i64 (wrap64 (at_ + 1)), .int .i64 (wrap64 ((ws.length : Int) + 1))] 3 (0, 0))).step hi hk
     have HL9 := Aside0.mk (hst.blk (blk_new w8a (.cells #[.int .i64 (-1), .int .i64 (wrap64 (at_ + 1)), .int .i64 (wrap64 ((ws.length : Int) + 1))] 3 (0, 0))) (by have := HG.out; have := HMs8.out.ge; have := blk_lt HMs8.out.bm; omega))
     have HI9 := Aside0.mk hi
     have HCh9 := Aside0.mk ((HCh8.out.alloc (.cells #[.int .i64 (-1), .int .i64 (wrap64 (at_ + 1)), .int .i64 (wrap64 ((ws.length : Int) + 1))] 3 (0, 0))).then_ hst)
     have HMs9 := Aside0.mk ((HMs8.out.below (below_alloc (Below.refl _ _) (.cells #[.int .i64 (-1), .int .i64 (wrap64 (at_ + 1)), .int .i64 (wrap64 ((ws.length : Int) + 1))] 3 (0, 0)))).ch hst (fun k hk => by have := HG.out; omega))
     have hy9_ := Aside0.mk hy9
     clear hst hi hk hy9
     refine hK.out _ _ (((blk_cell HMs9.out.bm 0).trans rfl)) (fun hHeld => ?_)
     clear hK K
     refine norm_ (a' := ?_) ?_ ?_
     rotate_left
     ·show Act.put _ (some 94) _ = _
      simp only [Act.put, lA1, lA2, lA3, i64_w, i32_w]
      rfl
     exact norm_ z16 (hCont (w8a.heap.size, y9) _ ⟨hy9_.out, HL9.out, HI9.out, HCh9.out, HMs9.out, hHeld⟩)
    ·skip
     refine goes_ Try.func39 (by kernel_rfl) rfl #[.pointer (some ⟨g, 0, none⟩), .int .i64 3] (by rfl) rfl rfl z5 ?_
     with_reducible refine (pick_any _ g 3 w0 _ HI8.out z26 (by omega) (by omega)).mono ?_
     rintro e w9 ⟨y9, rfl, hy9, hi, hk⟩
     refine ⟨_, rfl, ?_⟩
     have hst := HI8.out.step hi hk
     have HI9 := Aside0.mk hi
     have HCh9 := Aside0.mk (HCh8.out.then_ hst)
     have HMs9 := Aside0.mk (HMs8.out.ch hst (fun k hk => by have := HG.out; omega))
     have hy9_ := Aside0.mk hy9
     clear hst hi hk hy9
     refine hK.out _ _ (((blk_cell HMs9.out.bm 0).trans rfl)) (fun hHeld => ?_)
     clear hK K
     refine norm_ (a' := ?_) ?_ ?_
     rotate_left
     ·show Act.put _ (some 94) _ = _
      simp only [Act.put, lA1, lA2, lA3, i64_w, i32_w]
      rfl
     refine one_ (i := 7) (N := some 92) (lA 15 1023) rfl rfl (by kernel_rfl) (by decide) (fun K hK => ?_)
     refine value_ (w1 := ?_) (v := ?_) (by rfl) rfl ?_ ?_
     rotate_left 2
     ·go_simp
      constructor
      ·rfl
      ·rfl
     refine hK.out _ _ ((pw_cell_below (below_alloc (Below.refl _ _) _) hHeld)) (fun hHeld => ?_)
     clear hK K
     refine norm_ (a' := ?_) ?_ ?_
     rotate_left
     ·show Act.put _ (some 92) _ = _
      simp only [Act.put, lA1, lA2, lA3, i64_w, i32_w]
      rfl
     exact norm_ z16 (hCont (w9.heap.size, y9) _ ⟨hy9_.out, blk_new w9 _, HI9.out.alloc _, HCh9.out.alloc _, HMs9.out.below (below_alloc (Below.refl _ _) _), hHeld⟩)
   rintro ⟨gl, y9⟩ w9 ⟨hy, hl, hi, hch, hm, hHeld⟩
   have HI9 := Aside0.mk hi
   have HCh9 := Aside0.mk hch
   have HMs9 := Aside0.mk hm
   have q5 := eq_true hy.1
   have q6 := eq_true hy.2
   obtain ⟨z, hz⟩ : ∃ z, w9.cell? ⟨gl, y9.toNat, none⟩ = some (.int .i64 z) := by
    have h4 : y9.toNat = 0 ∨ y9.toNat = 1 ∨ y9.toNat = 2 := by omega
    rcases h4 with h4 | h4 | h4 <;> rw [h4]
    ·exact ⟨_, (blk_cell hl 0).trans rfl⟩
    ·exact ⟨_, (blk_cell hl 1).trans rfl⟩
    ·exact ⟨_, (blk_cell hl 2).trans rfl⟩
   clear hi hch hm hl hy HMs8 HCh8 HI8
   refine norm_ (a' := ?_) ?_ ?_
   rotate_left
   ·simp only [putAll, Act.put, List.setIfInBounds_toArray, List.set_cons_zero, List.set_cons_succ]
    rfl
   refine pS 10 95 (lA 15 2047) ?_
   refine one_ (i := 11) (N := some 96) (lA 15 4095) rfl rfl (by kernel_rfl) (by decide) (fun K hK => ?_)
   refine value_ (w1 := ?_) (v := ?_) (by rfl) rfl ?_ ?_
   rotate_left 2
   ·go_simp
    constructor
    ·rfl
    ·rfl
   refine hK.out _ _ (hHeld) (fun hHeld => ?_)
   clear hK K
   refine norm_ (a' := ?_) ?_ ?_
   rotate_left
   ·show Act.put _ (some 96) _ = _
    simp only [Act.put, lA1, lA2, lA3, i64_w, i32_w]
    rfl
   refine one_ (i := 12) (N := some 97) (lA 15 8191) rfl rfl (by kernel_rfl) (by decide) (fun K hK => ?_)
   refine value_ (w1 := ?_) (v := ?_) (by rfl) rfl ?_ ?_
   rotate_left 2
   ·go_simp
    constructor
    ·rfl
    ·rfl
   refine hK.out _ _ ((pw_cell_below (below_alloc (Below.refl _ _) _) hHeld)) (fun hHeld => ?_)
   clear hK K
   refine norm_ (a' := ?_) ?_ ?_
   rotate_left
   ·show Act.put _ (some 97) _ = _
    simp only [Act.put, lA1, lA2, lA3, i64_w, i32_w]
    rfl
   refine last_ (i := 13) (N := some 98) (lA 15 16383) rfl rfl (by kernel_rfl) (by decide) (fun K hK => ?_)
   refine Kd.R_append_step (Kd.int .i64) s1 (by rfl) (.tmp 85) (.tmp 97) 24 3 (.int .i64 0) 8 rfl Try.underlying24 info3 rfl (by decide) (by omega) (.slice A7 rt.length c7) rt z [.int .i64 z] (fun k => k ≠ gw ∧ k ≠ gc) (fun _ => False) rfl rfl ?aP (fun _ hk => hk.elim) ?aF ?aO (Below.refl _ _) ?aS ?aL ?_
   (case aP => exact rfl)
   (case aF => exact fun k hk => by have := HMs9.out.om.bw; have := HMs9.out.om.bc; omega)
   (case aO => exact HMs9.out.r7)
   (case aS => have := HMs9.out.om.bw; omega)
   (case aL => have := HMs9.out.l7; omega)
   intro v8 wb ho hbn hgr hat
   obtain ⟨hd, hbm, hbz⟩ := HMs9.out.roots hgr ho (by have := HMs9.out.l7; simp; omega)
   obtain ⟨AN, cN, eN⟩ := Kd.R_slice ho
   subst eN
   simp only [List.length_append, List.length_cons, List.length_nil, Nat.zero_add] at hd
   have HD := Aside0.mk hd
   have BMt := Aside0.mk hbm
   have BZt := Aside0.mk hbz
   have hbs : ∀ k, (Value.slice A7 rt.length c7).ownBlock = some k → s1 ≤ k := fun k e => Kd.R_base HMs9.out.h7 k e
   have HIt := Aside0.mk (HI9.out.grown hgr (fun e => by have := hbs g e.symm; have := HG.out; have := HMs9.out.ge; omega) (fun k e => by have := hbs k e; have := HG.out; have := HMs9.out.ge; omega))
   have HCht := Aside0.mk (HCh9.out.grown hgr (fun k e => .inr (by have := hbs k e; have := HBW.out; have := HMs9.out.ge; omega)))
   clear ho hbn hgr hat hd hbm hbz hbs HMs9 HI9 HCh9
   refine hK.out _ _ ?_
   clear hK K
   refine norm_ (a' := ?_) ?_ ?_
   rotate_left
   ·show Act.put _ (some 98) _ = _
    simp only [Act.put, lA1, lA2, lA3, i64_w, i32_w]
    rfl
   refine pS 14 7 (lA 15 32767) ?_
   refine done_ (by kernel_rfl) ?_
   go_wp2
   replace HD := Aside0.mk (HD.out.ch (Ch.drew (Ch.refl (fun _ => False) _)) (fun _ _ h => h))
   replace BMt := Aside0.mk (blk_drew BMt.out)
   replace BZt := Aside0.mk (blk_drew BZt.out)
   replace HIt := Aside0.mk HIt.out.drew
   replace HCht := Aside0.mk HCht.out.drew
   have z0 := (blk_cell BZt.out 0).trans rfl; have z1 := (blk_cell BZt.out 1).trans rfl; have z2 := (blk_cell BZt.out 2).trans rfl; have z3 := (blk_cell BZt.out 3).trans rfl; have z4 := (blk_cell BZt.out 4).trans rfl
   have y_0 := blk_frozen BZt.out 0; have y_1 := blk_frozen BZt.out 1; have y_2 := blk_frozen BZt.out 2; have y_3 := blk_frozen BZt.out 3; have y_4 := blk_frozen BZt.out 4
   refine start_ (n := 6) (S := fun w' => w'.cell? ⟨gm, 0, none⟩ = some (.slice (some ⟨gw, 0, none⟩) ws.length cW) ∧ w'.cell? ⟨gm, 1, none⟩ = some (.int .i64 y) ∧ w'.cell? ⟨gm, 2, none⟩ = some (.int .i64 t) ∧ w'.cell? ⟨gm, 3, none⟩ = some (.int .i64 o) ∧ w'.cell? ⟨gm, 4, none⟩ = some (.slice (some ⟨gc, 0, none⟩) cards.length cC)) (ds := [4]) #[false, false, false, false, false, false] (by kernel_rfl) rfl rfl ⟨((blk_cell BMt.out 0).trans rfl), ((blk_cell BMt.out 1).trans rfl), ((blk_cell BMt.out 2).trans rfl), ((blk_cell BMt.out 3).trans rfl), ((blk_cell BMt.out 4).trans rfl)⟩ (fun hHeld => ?_)
   generalize wb.drew = wt at HD BMt BZt HIt HCht z0 z1 z2 z3 z4 y_0 y_1 y_2 y_3 y_4 hHeld ⊢
   refine pS 0 103 #[true, false, false, false, false, false] ?_
   refine pS 2 105 #[true, false, true, false, false, false] ?_
   refine pS 3 2 #[true, false, true, true, false, false] ?_
   refine tS 1 104 #[true, true, true, true, false, false] rfl rfl (by kernel_rfl) hHeld z8 ?_
   refine last_ (i := 4) (N := none) #[true, true, true, true, true, false] rfl rfl (by kernel_rfl) (by decide) (fun K hK => ?_)
   refine skip_ (w1 := ?_) (by rfl) rfl ?_ ?_
   rotate_left
   ·go_simp
    rfl
   refine hK.out _ _ ?_
   clear hK K
   refine pS 5 4 #[true, true, true, true, true, true] ?_
   refine done_ (by kernel_rfl) ?_
   clear z0 y_0 z1 y_1 z2 y_2 z3 y_3 z4 y_4
   go_wp2
   refine bodyPost_ret (results_list (rs := [.tmp 2, .cell 3 27, .tmp 4]) rfl (by simp) (.tmp (.cell gz 27 #[.slice (some ⟨gw, 0, none⟩) ws.length cW, .int .i64 y, .int .i64 t, .int .i64 o, .slice (some ⟨gc, 0, none⟩) cards.length cC] (0, 0) _ rfl (blk_box5 BZt.out) Try.underlying27 rfl (by kernel_rfl) (.tmp .nil)))) rfl ?_
   exact (show Dm _ w.heap.size (fun k => w.heap.size ≤ k ∧ k ≠ gz) _ _ _ _ _ _ _ _ by rw [← HBW.out]; exact HD.out).ret HIt.out (by omega) HCht.out z31 z29
  ·go_wp2_with (go_at_call 71; refine Classical.byContradiction (fun hng => ?_))
   refine hng ?_
   clear hng
   refine (off_any _ g w0 _ HI8.out z26).mono ?_
   rintro e w9 ⟨A9, c9, cs9, rfl, hl, hf, hV, hi, hk⟩
   have hst := HI8.out.step hi hk
   have HIt := Aside0.mk hi
   have HCht := Aside0.mk (HCh8.out.then_ hst)
   have HM9 := Aside0.mk (HMs8.out.ch hst (fun k hk => by have := HG.out; omega))
   have HZ8 := Aside0.mk (show gm < w8.heap.size from blk_lt HMs8.out.bm)
   have HD := Aside0.mk (show Dm w9 b0 (fun k => b0 ≤ k ∧ k ≠ gz) (.slice A9 cs9.length c9) (.slice (some ⟨gw, 0, none⟩) ws.length cW) (.slice (some ⟨gc, 0, none⟩) cards.length cC) (.slice A7 rt.length c7) cs9 ws cards rt from (by have hd := HM9.out.dm.mono (fun k hk => hk.1); exact Dm.mk (Kd.V_mono hV (fun k hk => (show b0 ≤ k ∧ k ≠ gz by have := HZ8.out; have := HM9.out.ge; omega))) hd.h0 hd.h4 hd.h7 ⟨hl.1, hl.2.1, hf⟩ hd.l0 hd.l4 hd.l7))
   have BMt := Aside0.mk HM9.out.bm
   have BZt := Aside0.mk HM9.out.bz
   clear hl hf hV hi hk hst HI8 HCh8 HMs8
   go_wp2
   replace HD := Aside0.mk (HD.out.ch (Ch.drew (Ch.refl (fun _ => False) _)) (fun _ _ h => h))
   replace BMt := Aside0.mk (blk_drew BMt.out)
   replace BZt := Aside0.mk (blk_drew BZt.out)
   replace HIt := Aside0.mk HIt.out.drew
   replace HCht := Aside0.mk HCht.out.drew
   have z0 := (blk_cell BZt.out 0).trans rfl; have z1 := (blk_cell BZt.out 1).trans rfl; have z2 := (blk_cell BZt.out 2).trans rfl; have z3 := (blk_cell BZt.out 3).trans rfl; have z4 := (blk_cell BZt.out 4).trans rfl
   have y_0 := blk_frozen BZt.out 0; have y_1 := blk_frozen BZt.out 1; have y_2 := blk_frozen BZt.out 2; have y_3 := blk_frozen BZt.out 3; have y_4 := blk_frozen BZt.out 4
   refine start_ (n := 6) (S := fun w' => w'.cell? ⟨gm, 0, none⟩ = some (.slice (some ⟨gw, 0, none⟩) ws.length cW) ∧ w'.cell? ⟨gm, 1, none⟩ = some (.int .i64 y) ∧ w'.cell? ⟨gm, 2, none⟩ = some (.int .i64 t) ∧ w'.cell? ⟨gm, 3, none⟩ = some (.int .i64 o) ∧ w'.cell? ⟨gm, 4, none⟩ = some (.slice (some ⟨gc, 0, none⟩) cards.length cC)) (ds := [4]) #[false, false, false, false, false, false] (by kernel_rfl) rfl rfl ⟨((blk_cell BMt.out 0).trans rfl), ((blk_cell BMt.out 1).trans rfl), ((blk_cell BMt.out 2).trans rfl), ((blk_cell BMt.out 3).trans rfl), ((blk_cell BMt.out 4).trans rfl)⟩ (fun hHeld => ?_)
   generalize w9.drew = wt at HD BMt BZt HIt HCht z0 z1 z2 z3 z4 y_0 y_1 y_2 y_3 y_4 hHeld ⊢
   refine pS 0 103 #[true, false, false, false, false, false] ?_
   refine pS 2 105 #[true, false, true, false, false, false] ?_
   refine pS 3 2 #[true, false, true, true, false, false] ?_
   refine tS 1 104 #[true, true, true, true, false, false] rfl rfl (by kernel_rfl) hHeld z8 ?_
   refine last_ (i := 4) (N := none) #[true, true, true, true, true, false] rfl rfl (by kernel_rfl) (by decide) (fun K hK => ?_)
   refine skip_ (w1 := ?_) (by rfl) rfl ?_ ?_
   rotate_left
   ·go_simp
    rfl
   refine hK.out _ _ ?_
   clear hK K
   refine pS 5 4 #[true, true, true, true, true, true] ?_
   refine done_ (by kernel_rfl) ?_
   clear z0 y_0 z1 y_1 z2 y_2 z3 y_3 z4 y_4
   go_wp2
   refine bodyPost_ret (results_list (rs := [.tmp 2, .cell 3 27, .tmp 4]) rfl (by simp) (.tmp (.cell gz 27 #[.slice (some ⟨gw, 0, none⟩) ws.length cW, .int .i64 y, .int .i64 t, .int .i64 o, .slice (some ⟨gc, 0, none⟩) cards.length cC] (0, 0) _ rfl (blk_box5 BZt.out) Try.underlying27 rfl (by kernel_rfl) (.tmp .nil)))) rfl ?_
   exact (show Dm _ w.heap.size (fun k => w.heap.size ≤ k ∧ k ≠ gz) _ _ _ _ _ _ _ _ by rw [← HBW.out]; exact HD.out).ret HIt.out (by omega) HCht.out z31 z29
  ·have k0 := (blk_cell HMs8.out.bm 0).trans rfl
   have p1 := eq_true HAt.out.1
   have p2 := eq_true HAt.out.2
   obtain ⟨x0, fx0⟩ := HMs8.out.om.wcell at_ HAt.out.1 HAt.out.2
   go_wp2_with ((with_reducible refine gate_store (t := 3) (p := 33) rfl ?_); refine Classical.byContradiction (fun hng => ?_))
   refine hng ?_
   clear hng
   refine store_event (t := 3) (p := 33) (v := ?vs9) (w1 := (w8.setCell ⟨gw, at_.toNat, none⟩ (.int .i64 300))) ?hg ?ho ?hn ?hr ?_
   (case ho => rfl)
   (case hg => rfl)
   (case hn => rfl)
   (case hr => first | (go_simp; done) | (go_simp; rfl))
   intro wa hw
   clear k0 x0 fx0
   have hO9 : OM s1 gw cW gc cC wa (ws.set at_.toNat 300) cards := by rw [hw]; exact HMs8.out.om.setw at_ 300
   have hc9 : Ch (fun z => z = gw) w8 wa := by rw [hw]; exact (Ch.refl (fun z => z = gw) _).set (.inl rfl) _
   have HMa := Aside0.mk (HMs8.out.word hc9 hO9 (List.length_set))
   have HD := Aside0.mk (HMa.out.dm.mono (fun k hk => hk.1))
   have BMt := Aside0.mk HMa.out.bm
   have BZt := Aside0.mk HMa.out.bz
   have HIt := Aside0.mk (HI8.out.ch hc9 (by have := HMs8.out.om.bw; have := HMs8.out.ge; have := HG.out; omega) (fun z hz => by have := HMs8.out.om.bw; have := HMs8.out.ge; have := HG.out; omega))
   have HCht := Aside0.mk (HCh8.out.trans hc9 (fun z hz => .inr (by have := HMs8.out.om.bw; have := HMs8.out.ge; have := HBW.out; omega)))
   clear hO9 hc9 hw HMs8 HI8 HCh8
   simp only [List.length_set] at HD BMt
   go_wp2
   replace HD := Aside0.mk (HD.out.ch (Ch.drew (Ch.refl (fun _ => False) _)) (fun _ _ h => h))
   replace BMt := Aside0.mk (blk_drew BMt.out)
   replace BZt := Aside0.mk (blk_drew BZt.out)
   replace HIt := Aside0.mk HIt.out.drew
   replace HCht := Aside0.mk HCht.out.drew
   have z0 := (blk_cell BZt.out 0).trans rfl; have z1 := (blk_cell BZt.out 1).trans rfl; have z2 := (blk_cell BZt.out 2).trans rfl; have z3 := (blk_cell BZt.out 3).trans rfl; have z4 := (blk_cell BZt.out 4).trans rfl
   have y_0 := blk_frozen BZt.out 0; have y_1 := blk_frozen BZt.out 1; have y_2 := blk_frozen BZt.out 2; have y_3 := blk_frozen BZt.out 3; have y_4 := blk_frozen BZt.out 4
   refine start_ (n := 6) (S := fun w' => w'.cell? ⟨gm, 0, none⟩ = some (.slice (some ⟨gw, 0, none⟩) ws.length cW) ∧ w'.cell? ⟨gm, 1, none⟩ = some (.int .i64 y) ∧ w'.cell? ⟨gm, 2, none⟩ = some (.int .i64 t) ∧ w'.cell? ⟨gm, 3, none⟩ = some (.int .i64 o) ∧ w'.cell? ⟨gm, 4, none⟩ = some (.slice (some ⟨gc, 0, none⟩) cards.length cC)) (ds := [4]) #[false, false, false, false, false, false] (by kernel_rfl) rfl rfl ⟨((blk_cell BMt.out 0).trans rfl), ((blk_cell BMt.out 1).trans rfl), ((blk_cell BMt.out 2).trans rfl), ((blk_cell BMt.out 3).trans rfl), ((blk_cell BMt.out 4).trans rfl)⟩ (fun hHeld => ?_)
   generalize wa.drew = wt at HD BMt BZt HIt HCht z0 z1 z2 z3 z4 y_0 y_1 y_2 y_3 y_4 hHeld ⊢
   refine pS 0 103 #[true, false, false, false, false, false] ?_
   refine pS 2 105 #[true, false, true, false, false, false] ?_
   refine pS 3 2 #[true, false, true, true, false, false] ?_
   refine tS 1 104 #[true, true, true, true, false, false] rfl rfl (by kernel_rfl) hHeld z8 ?_
   refine last_ (i := 4) (N := none) #[true, true, true, true, true, false] rfl rfl (by kernel_rfl) (by decide) (fun K hK => ?_)
   refine skip_ (w1 := ?_) (by rfl) rfl ?_ ?_
   rotate_left
   ·go_simp
    rfl
   refine hK.out _ _ ?_
   clear hK K
   refine pS 5 4 #[true, true, true, true, true, true] ?_
   refine done_ (by kernel_rfl) ?_
   clear z0 y_0 z1 y_1 z2 y_2 z3 y_3 z4 y_4
   go_wp2
   refine bodyPost_ret (results_list (rs := [.tmp 2, .cell 3 27, .tmp 4]) rfl (by simp) (.tmp (.cell gz 27 #[.slice (some ⟨gw, 0, none⟩) ws.length cW, .int .i64 y, .int .i64 t, .int .i64 o, .slice (some ⟨gc, 0, none⟩) cards.length cC] (0, 0) _ rfl (blk_box5 BZt.out) Try.underlying27 rfl (by kernel_rfl) (.tmp .nil)))) rfl ?_
   exact (show Dm _ w.heap.size (fun k => w.heap.size ≤ k ∧ k ≠ gz) _ _ _ _ _ _ _ _ by rw [← HBW.out]; exact HD.out).ret HIt.out (by omega) HCht.out z31 z29
end Go.Proofs.Ytfbkpjjnhengfaa.K
namespace Go.Proofs.Ytfbkpjjnhengfaa.K
open Go.RowKit Go.Proofs.YtfbkpjjnhengfaaW.PrintWords Go.Proofs.YtfbkpjjnhengfaaW.PrintLast Go.Proofs.YtfbkpjjnhengfaaW.PrintMore
attribute [local go_sem] max2_int min2_int max_two min_two max_three min_three max_four min_four
set_option linter.unusedVariables false
set_option linter.unusedSimpArgs false
open Go.Proofs.Ytfbkpjjnhengfaa.Pure
structure Dr (W : World) (ok : Nat → Prop) (A5 : Option Addr) (c5 : Nat) (A0 : Option Addr) (c0 : Nat) (A4 : Option Addr) (c4 : Nat) (cs : Cs) (ws : List Int) (cards : List Bool) : Prop where
 h5 : Kd.V k99 99 W 0 ok (.slice A5 cs.length c5) cs
 h0 : Kd.V (Kd.int .i64) 3 W 0 ok (.slice A0 ws.length c0) ws
 h4 : Kd.V Kd.bool 4 W 0 ok (.slice A4 cards.length c4) cards
 l5 : 1 ≤ cs.length ∧ cs.length ≤ 9 ∧ ∀ x ∈ cs, x.f1.length ≤ 3
 l0 : 1 ≤ ws.length ∧ ws.length ≤ 1000
 l4 : cards.length ≤ 1000
def DrawP (w : World) (e : Ending) (w' : World) : Prop := ∃ (A5 : Option Addr) (c5 : Nat) (A0 : Option Addr) (c0 : Nat) (A4 : Option Addr) (c4 : Nat) (cs : Cs) (ws : List Int) (y t o : Int) (cards : List Bool), e = .returned (.tuple #[.slice A5 cs.length c5, .agg #[.slice A0 ws.length c0, .int .i64 y, .int .i64 t, .int .i64 o, .slice A4 cards.length c4]]) ∧ Dr w' (fun k => w.heap.size ≤ k) A5 c5 A0 c0 A4 c4 cs ws cards ∧ Below w.heap.size w w'
section
variable {b0 : Nat} {W w1 : World} {A5 A0 A4 : Option Addr} {c5 c0 c4 : Nat} {v7 : Value} {cs : Cs} {ws : List Int} {cards : List Bool} {rt : List Int} {ok ok' S : Nat → Prop}
theorem Dr.of (h : Dm W b0 ok (.slice A5 cs.length c5) (.slice A0 ws.length c0) (.slice A4 cards.length c4) v7 cs ws cards rt) : Dr W ok A5 c5 A0 c0 A4 c4 cs ws cards := ⟨h.h5, h.h0, h.h4, h.l5, h.l0, h.l4⟩
theorem Dr.ch (h : Dr W ok A5 c5 A0 c0 A4 c4 cs ws cards) (hc : Ch S W w1) (hS : ∀ k, ok k → ¬ S k) : Dr w1 ok A5 c5 A0 c0 A4 c4 cs ws cards := ⟨Kd.V_kept h.h5 hc.kept hS, Kd.V_kept h.h0 hc.kept hS, Kd.V_kept h.h4 hc.kept hS, h.l5, h.l0, h.l4⟩
theorem Dr.below (h : Dr W ok A5 c5 A0 c0 A4 c4 cs ws cards) (hb : Below W.heap.size W w1) : Dr w1 ok A5 c5 A0 c0 A4 c4 cs ws cards := ⟨Kd.V_below h.h5 hb, Kd.V_below h.h0 hb, Kd.V_below h.h4 hb, h.l5, h.l0, h.l4⟩
theorem Dr.mono (h : Dr W ok A5 c5 A0 c0 A4 c4 cs ws cards) (hS : ∀ k, ok k → ok' k) : Dr W ok' A5 c5 A0 c0 A4 c4 cs ws cards := ⟨Kd.V_mono h.h5 hS, Kd.V_mono h.h0 hS, Kd.V_mono h.h4 hS, h.l5, h.l0, h.l4⟩
theorem Dr.bound (h : Dr W ok A5 c5 A0 c0 A4 c4 cs ws cards) : Dr W (fun k => ok k ∧ k < W.heap.size) A5 c5 A0 c0 A4 c4 cs ws cards := ⟨Kd.V_bound h.h5, Kd.V_bound h.h0, Kd.V_bound h.h4, h.l5, h.l0, h.l4⟩
theorem Dr.C5 (h : Dr W ok A5 c5 A0 c0 A4 c4 cs ws cards) : k99.C W A5 cs.length cs := (Kd.V_reads' h.h5).2.2
theorem Dr.n5 (h : Dr W ok A5 c5 A0 c0 A4 c4 cs ws cards) : cs.length ≤ c5 := (Kd.V_reads' h.h5).2.1
theorem Dr.C0 (h : Dr W ok A5 c5 A0 c0 A4 c4 cs ws cards) : (Kd.int .i64).C W A0 ws.length ws := (Kd.V_reads' h.h0).2.2
theorem Dr.n0 (h : Dr W ok A5 c5 A0 c0 A4 c4 cs ws cards) : ws.length ≤ c0 := (Kd.V_reads' h.h0).2.1
theorem Dr.C4 (h : Dr W ok A5 c5 A0 c0 A4 c4 cs ws cards) : Kd.bool.C W A4 cards.length cards := (Kd.V_reads' h.h4).2.2
theorem Dr.n4 (h : Dr W ok A5 c5 A0 c0 A4 c4 cs ws cards) : cards.length ≤ c4 := (Kd.V_reads' h.h4).2.1
end
end Go.Proofs.Ytfbkpjjnhengfaa.K
namespace Go.Proofs.Ytfbkpjjnhengfaa.K
open Go.RowKit Go.Proofs.YtfbkpjjnhengfaaW.PrintWords Go.Proofs.YtfbkpjjnhengfaaW.PrintLast Go.Proofs.YtfbkpjjnhengfaaW.PrintMore
attribute [local go_sem] max2_int min2_int max_two min_two max_three min_three max_four min_four
set_option linter.unusedVariables false
set_option linter.unusedSimpArgs false
open Go.Proofs.Ytfbkpjjnhengfaa.Pure
set_option maxHeartbeats 16000000 in
set_option maxRecDepth 100000 in
theorem memok_any (AC : Option Addr) (cC : Nat) (lC : List Int) (w : World) (hr0 : Kd.C (Kd.int .u8) w AC lC.length lC) (hc0 : lC.length ≤ cC) (hl : ∀ x ∈ lC, (Lit.int .u8 x).wf = true) :
  Calls Try.prog 27 #[.slice AC lC.length cC] w (DrawP w) := by
 have HR0 := Aside0.mk hr0
 have HC0 := Aside0.mk hc0
 have HL := Aside0.mk hl
 clear hr0 hc0 hl
 go_enter Try.func27, Try.ntmps27
 go_wp2_with ((with_reducible refine gate_dst (N := 3) rfl ?_); refine Classical.byContradiction (fun hng => ?_))
 refine hng ?_
 clear hng
 refine box_event ?hg (N := 3) ?hd (cs := #[.slice none 0 0, .int .i64 0, .int .i64 0, .int .i64 0, .slice none 0 0]) (t := 27) ?hr ?_
 (case hd => rfl)
 (case hg => rfl)
 (case hr => first | (go_simp; done) | (go_simp; rfl))
 intro gz hg w1 hbox hb
 have BZ1 := Aside0.mk hbox
 have HB1 := Aside0.mk hb
 have HGz := Aside0.mk (show w.heap.size ≤ gz by rw [hg]; exact Nat.le_refl _)
 clear hb hbox hg
 go_wp2_with (go_at_call 36; refine Classical.byContradiction (fun hng => ?_))
 refine hng ?_
 clear hng
 refine (open_any AC cC lC _ (Kd.C_below HR0.out HB1.out) HC0.out HL.out).mono ?_
 rintro e w2 ⟨g, rfl, hi, hge, hb⟩
 have HI2 := Aside0.mk hi
 have HG := Aside0.mk (show gz < g from Nat.lt_of_lt_of_le (blk_lt BZ1.out) hge)
 have HB2 := Aside0.mk (below_step HB1.out hb)
 have BZ2 := Aside0.mk (blk_below BZ1.out hb)
 clear hi hge hb HB1 BZ1 HR0 HC0 HL
 go_wp2_with (go_at_call 37; refine Classical.byContradiction (fun hng => ?_))
 refine hng ?_
 clear hng
 refine (mem_any 0 g _ _ HI2.out (by omega)).mono ?_
 rintro e w3 ⟨v5, v0, v4, v7, cs, ws, y, t, o, cards, rt, rfl, hd, hi, hc⟩
 obtain ⟨A5, c5, rfl⟩ := Kd.V_slice hd.h5
 obtain ⟨A0, c0, rfl⟩ := Kd.V_slice hd.h0
 obtain ⟨A4, c4, rfl⟩ := Kd.V_slice hd.h4
 have HD3 := Aside0.mk ((Dr.of hd).bound.mono (ok' := fun k => gz < k ∧ k < w3.heap.size) (fun k hk => ⟨by have := hk.1; have := blk_lt BZ2.out; omega, hk.2⟩))
 have HB3 := Aside0.mk (HB2.out.trans (hc.toBelow (B := w.heap.size) (below_size HB2.out) (fun k hk => by have := HG.out; have := HGz.out; omega)))
 have BZ3 := Aside0.mk (hc.blk BZ2.out (by have := HG.out; omega))
 clear hd hi hc HB2 BZ2 HI2 HG
 go_wp2_with ((with_reducible refine gate_dst (N := 5) rfl ?_); refine Classical.byContradiction (fun hng => ?_))
 refine hng ?_
 clear hng
 refine box_event ?hg (N := 5) ?hd (cs := #[.slice none 0 0, .int .i64 0, .int .i64 0, .int .i64 0, .slice none 0 0]) (t := 27) ?hr ?_
 (case hd => rfl)
 (case hg => rfl)
 (case hr => first | (go_simp; done) | (go_simp; rfl))
 intro gm hg w4 hbox hb
 have BM4 := Aside0.mk hbox
 have HD4 := Aside0.mk ((HD3.out.below hb).mono (ok' := fun k => gz < k ∧ k ≠ gm) (fun k hk => ⟨hk.1, by rw [hg]; omega⟩))
 have HB4 := Aside0.mk (below_step HB3.out hb)
 have BZ4 := Aside0.mk (blk_below BZ3.out hb)
 have HGm := Aside0.mk (show gz < gm by rw [hg]; exact blk_lt BZ3.out)
 clear hb hbox hg HD3 HB3 BZ3
 have qc0 := (blk_cell BM4.out 0).trans rfl; have qc1 := (blk_cell BM4.out 1).trans rfl; have qc2 := (blk_cell BM4.out 2).trans rfl; have qc3 := (blk_cell BM4.out 3).trans rfl; have qc4 := (blk_cell BM4.out 4).trans rfl
 have qf0 := blk_frozen BM4.out 0; have qf1 := blk_frozen BM4.out 1; have qf2 := blk_frozen BM4.out 2; have qf3 := blk_frozen BM4.out 3; have qf4 := blk_frozen BM4.out 4
 go_wp2_with ((with_reducible refine gate_store (t := 27) (p := 5) rfl ?_); refine Classical.byContradiction (fun hng => ?_))
 refine hng ?_
 clear hng
 refine store_event (t := 27) (p := 5) (v := ?vm1) (w1 := (memBox w4 gm (.slice A0 ws.length c0) (.int .i64 y) (.int .i64 t) (.int .i64 o) (.slice A4 cards.length c4))) ?hg ?ho ?hn ?hr ?_
 (case ho => rfl)
 (case hg => rfl)
 (case hn => rfl)
 (case hr => first | (go_simp; done) | (go_simp; rfl))
 intro w5 hw
 have hc4 : Ch (fun k => k = gm) w4 w5 := by rw [hw]; exact (Ch.refl (fun k => k = gm) _).box5 (.inl rfl) _ _ _ _ _
 have HD5 := Aside0.mk ((HD4.out.ch hc4 (fun k hk => hk.2)).mono (ok' := fun k => gz < k) (fun k hk => hk.1))
 have BM5 := Aside0.mk (show w5.heap[gm]? = some (.cells #[.slice A0 ws.length c0, .int .i64 y, .int .i64 t, .int .i64 o, .slice A4 cards.length c4] 27 (0, 0)) by rw [hw]; exact blk_box5 BM4.out)
 have BZ5 := Aside0.mk (hc4.blk BZ4.out (by have := HGm.out; omega))
 have HB5 := Aside0.mk (HB4.out.trans (hc4.toBelow (B := w.heap.size) (below_size HB4.out) (fun k hk => by have := HGm.out; have := HGz.out; omega)))
 clear hw hc4 HD4 HB4 BZ4 BM4
 clear qc0 qc1 qc2 qc3 qc4
 clear qf0 qf1 qf2 qf3 qf4
 go_wp2
 replace HD5 := Aside0.mk (HD5.out.ch (Ch.drew (Ch.refl (fun _ => False) _)) (fun _ _ h => h))
 replace BM5 := Aside0.mk (blk_drew BM5.out)
 replace BZ5 := Aside0.mk (blk_drew BZ5.out)
 replace HB5 := Aside0.mk (below_drew1 HB5.out)
 have z0 := (blk_cell BZ5.out 0).trans rfl; have z1 := (blk_cell BZ5.out 1).trans rfl; have z2 := (blk_cell BZ5.out 2).trans rfl; have z3 := (blk_cell BZ5.out 3).trans rfl; have z4 := (blk_cell BZ5.out 4).trans rfl
 have y_0 := blk_frozen BZ5.out 0; have y_1 := blk_frozen BZ5.out 1; have y_2 := blk_frozen BZ5.out 2; have y_3 := blk_frozen BZ5.out 3; have y_4 := blk_frozen BZ5.out 4
 refine start_ (n := 4) (S := fun w' => w'.cell? ⟨gm, 0, none⟩ = some (.slice A0 ws.length c0) ∧ w'.cell? ⟨gm, 1, none⟩ = some (.int .i64 y) ∧ w'.cell? ⟨gm, 2, none⟩ = some (.int .i64 t) ∧ w'.cell? ⟨gm, 3, none⟩ = some (.int .i64 o) ∧ w'.cell? ⟨gm, 4, none⟩ = some (.slice A4 cards.length c4)) (ds := [3]) #[false, false, false, false] (by kernel_rfl) rfl rfl ⟨((blk_cell BM5.out 0).trans rfl), ((blk_cell BM5.out 1).trans rfl), ((blk_cell BM5.out 2).trans rfl), ((blk_cell BM5.out 3).trans rfl), ((blk_cell BM5.out 4).trans rfl)⟩ (fun hHeld => ?_)
 generalize w5.drew = wt at HD5 BM5 BZ5 HB5 z0 z1 z2 z3 z4 y_0 y_1 y_2 y_3 y_4 hHeld ⊢
 refine pS 0 14 #[true, false, false, false] ?_
 refine pS 2 2 #[true, false, true, false] ?_
 refine tS 1 15 #[true, true, true, false] rfl rfl (by kernel_rfl) hHeld z8 ?_
 refine last_ (i := 3) (N := none) #[true, true, true, true] rfl rfl (by kernel_rfl) (by decide) (fun K hK => ?_)
 refine skip_ (w1 := ?_) (by rfl) rfl ?_ ?_
 rotate_left
 ·go_simp
  rfl
 refine hK.out _ _ ?_
 clear hK K
 refine done_ (by kernel_rfl) ?_
 clear z0 y_0 z1 y_1 z2 y_2 z3 y_3 z4 y_4
 go_wp2
 refine bodyPost_ret (results_list (rs := [.tmp 2, .cell 3 27]) rfl (by simp) (.tmp (.cell gz 27 #[.slice A0 ws.length c0, .int .i64 y, .int .i64 t, .int .i64 o, .slice A4 cards.length c4] (0, 0) _ rfl (blk_box5 BZ5.out) Try.underlying27 rfl (by kernel_rfl) .nil))) rfl ?_
 exact ⟨A5, c5, A0, c0, A4, c4, cs, ws, y, t, o, cards, rfl, (HD5.out.ch (Ch.box5 (Ch.refl (fun k => k = gz) _) (.inl rfl) _ _ _ _ _) (fun k hk => by omega)).mono (fun k hk => by have := HGz.out; omega), HB5.out.trans ((Ch.box5 (Ch.refl (fun k => k = gz) _) (.inl rfl) _ _ _ _ _).toBelow (below_size HB5.out) (fun k hk => by have := HGz.out; omega))⟩
end Go.Proofs.Ytfbkpjjnhengfaa.K
namespace Go.Proofs.Ytfbkpjjnhengfaa.K
open Go.RowKit Go.Proofs.YtfbkpjjnhengfaaW.PrintWords Go.Proofs.YtfbkpjjnhengfaaW.PrintLast Go.Proofs.YtfbkpjjnhengfaaW.PrintMore
attribute [local go_sem] max2_int min2_int max_two min_two max_three min_three max_four min_four
set_option linter.unusedVariables false
set_option linter.unusedSimpArgs false
open Go.Proofs.Ytfbkpjjnhengfaa.Pure
set_option maxHeartbeats 16000000 in
set_option maxRecDepth 100000 in
theorem memwalk_any (AC : Option Addr) (cC : Nat) (lC : List Int) (w : World) (hr0 : Kd.C (Kd.int .u8) w AC lC.length lC) (hc0 : lC.length ≤ cC) (hl : ∀ x ∈ lC, (Lit.int .u8 x).wf = true) :
  Calls Try.prog 9 #[.slice AC lC.length cC] w (DrawP w) := by
 have HR0 := Aside0.mk hr0
 have HC0 := Aside0.mk hc0
 have HL := Aside0.mk hl
 clear hr0 hc0 hl
 go_enter Try.func9, Try.ntmps9
 go_wp2_with ((with_reducible refine gate_dst (N := 3) rfl ?_); refine Classical.byContradiction (fun hng => ?_))
 refine hng ?_
 clear hng
 refine box_event ?hg (N := 3) ?hd (cs := #[.slice none 0 0, .int .i64 0, .int .i64 0, .int .i64 0, .slice none 0 0]) (t := 27) ?hr ?_
 (case hd => rfl)
 (case hg => rfl)
 (case hr => first | (go_simp; done) | (go_simp; rfl))
 intro gz hg w1 hbox hb
 have BZ1 := Aside0.mk hbox
 have HB1 := Aside0.mk hb
 have HGz := Aside0.mk (show w.heap.size ≤ gz by rw [hg]; exact Nat.le_refl _)
 clear hb hbox hg
 go_wp2_with (go_at_call 27; refine Classical.byContradiction (fun hng => ?_))
 refine hng ?_
 clear hng
 refine (memok_any AC cC lC _ (Kd.C_below HR0.out HB1.out) HC0.out HL.out).mono ?_
 rintro e w3 ⟨A5, c5, A0, c0, A4, c4, cs, ws, y, t, o, cards, rfl, hd, hb⟩
 have HD3 := Aside0.mk (hd.mono (ok' := fun k => gz < k) (fun k hk => by have := blk_lt BZ1.out; omega))
 have HB3 := Aside0.mk (below_step HB1.out hb)
 have BZ3 := Aside0.mk (blk_below BZ1.out hb)
 clear hd hb HB1 BZ1 HR0 HC0 HL
 have z0 := (blk_cell BZ3.out 0).trans rfl; have z1 := (blk_cell BZ3.out 1).trans rfl; have z2 := (blk_cell BZ3.out 2).trans rfl; have z3 := (blk_cell BZ3.out 3).trans rfl; have z4 := (blk_cell BZ3.out 4).trans rfl
 have y_0 := blk_frozen BZ3.out 0; have y_1 := blk_frozen BZ3.out 1; have y_2 := blk_frozen BZ3.out 2; have y_3 := blk_frozen BZ3.out 3; have y_4 := blk_frozen BZ3.out 4
 go_wp2
 refine bodyPost_ret (results_list (rs := [.tmp 2, .cell 3 27]) rfl (by simp) (.tmp (.cell gz 27 #[.slice A0 ws.length c0, .int .i64 y, .int .i64 t, .int .i64 o, .slice A4 cards.length c4] (0, 0) _ rfl (blk_box5 BZ3.out) Try.underlying27 rfl (by kernel_rfl) .nil))) rfl ?_
 exact ⟨A5, c5, A0, c0, A4, c4, cs, ws, y, t, o, cards, rfl, (HD3.out.ch (Ch.box5 (Ch.refl (fun k => k = gz) _) (.inl rfl) _ _ _ _ _) (fun k hk => by omega)).mono (fun k hk => by have := HGz.out; omega), HB3.out.trans ((Ch.box5 (Ch.refl (fun k => k = gz) _) (.inl rfl) _ _ _ _ _).toBelow (below_size HB3.out) (fun k hk => by have := HGz.out; omega))⟩
end Go.Proofs.Ytfbkpjjnhengfaa.K
namespace Go.Proofs.Ytfbkpjjnhengfaa.Pure
open Go.RowKit Go.Proofs.Ytfbkpjjnhengfaa.K Go.Proofs.YtfbkpjjnhengfaaW.PrintWords Go.Proofs.YtfbkpjjnhengfaaW.PrintLast Go.Proofs.YtfbkpjjnhengfaaW.PrintMore
set_option linter.unusedVariables false
set_option linter.unusedSimpArgs false
theorem all_drop (fs : List Int) (P : Int → Bool) (i : Nat) (h : i < fs.length) : (fs.drop i).all P = (P (fs.getD i 0) && (fs.drop (i + 1)).all P) := by
  rw [drop_getD fs i 0 h, List.all_cons]
theorem spec_l2Field_eq (cs : Cs) (t : Int) (hl : cs.length ≤ 1000) : spec_l2Field.f cs t = some (fldOk cs.length t) := by
 unfold spec_l2Field.f fldOk
 by_cases c1 : t = 1
 ·rw [if_pos c1]; simp [c1]
 rw [if_neg c1]
 by_cases c2 : t = 3
 ·rw [if_pos c2]; simp [c2]
 rw [if_neg c2]
 by_cases c3 : t = 4
 ·rw [if_pos c3]; simp [c3]
 rw [if_neg c3, wrap64_of (n := 8 + (cs.length : Int)) (by omega) (by omega), wrap64_of (by omega) (by omega), spec_l6In_eq]
 simp only [Option.bind_some, Option.some.injEq]
 rw [Bool.eq_iff_iff]; simp only [decide_eq_true_eq]; omega
def clsTail (cs : Cs) (i su : Int) (fs : List Int) : Bool :=
  if i = 0 then decide (su = -1 ∧ fs = []) else if i = 1 then decide (su = 0 ∧ fs = [1]) else decide ((0 ≤ su ∧ su < i) ∧ fs.length ≤ 2)
theorem len_nil (fs : List Int) : ((fs.length : Int) == 0) = decide (fs = []) := by cases fs <;> simp; omega
theorem spec_l2Class_l0 (cs : Cs) (c su : Int) (fs : List Int) (hl : cs.length ≤ 1000) (hf : fs.length ≤ 140737488355328) (hc : 0 ≤ c ∧ c < 1000) (d : Nat) : ∀ (k i : Nat), i ≤ fs.length → fs.length - i = d → d < k →
  spec_l2Class.l0 k cs c i su fs = some ((fs.drop i).all (fldOk cs.length) && clsTail cs c su fs) := by
 induction d with
 | zero =>
  intro k i hi hd hk
  obtain ⟨k, rfl⟩ : ∃ m, k = m + 1 := ⟨k - 1, by omega⟩
  have : i = fs.length := by omega
  subst this
  simp only [spec_l2Class.l0]
  rw [if_neg (by omega), List.drop_length]
  simp only [List.all_nil, Bool.true_and]
  unfold clsTail
  by_cases c0 : c = 0
  ·rw [if_pos c0, if_pos c0]
   by_cases s0 : su = -1
   ·rw [if_pos s0, len_nil]; simp [s0]
   ·rw [if_neg s0]; simp [s0]
  rw [if_neg c0, if_neg c0]
  by_cases c1 : c = 1
  ·rw [if_pos c1, if_pos c1]
   by_cases s0 : su = 0
   ·rw [if_pos s0]
    by_cases l1 : (fs.length : Int) = 1
    ·rw [if_pos l1, if_pos (by omega)]
     obtain ⟨x, rfl⟩ := List.length_eq_one_iff.1 (show fs.length = 1 by omega)
     by_cases e : x = 1
     ·simp [rd, s0, e]
     ·simp [rd, s0, e]
    ·rw [if_neg l1]
     have : fs ≠ [1] := fun e => l1 (by rw [e]; rfl)
     simp [this]
   ·rw [if_neg s0]; simp [s0]
  rw [if_neg c1, if_neg c1, wrap64_of (by omega) (by omega), spec_l6In_eq]
  simp only [Option.bind_some, decide_eq_true_eq]
  by_cases z : 0 ≤ su ∧ su ≤ c - 1
  ·rw [if_pos z]
   congr 1
   rw [Bool.eq_iff_iff]; simp only [decide_eq_true_eq]; omega
  ·rw [if_neg z]
   congr 1
   rw [Bool.eq_iff_iff]; simp only [decide_eq_true_eq, Bool.false_eq_true, false_iff]; omega
 | succ d ih =>
  intro k i hi hd hk
  obtain ⟨k, rfl⟩ : ∃ m, k = m + 1 := ⟨k - 1, by omega⟩
  simp only [spec_l2Class.l0]
  rw [if_pos (by omega), if_pos (by omega), spec_l2Field_eq cs _ hl, rd_cast, all_drop fs _ i (by omega)]
  simp only [Option.bind_some]
  cases hq : fldOk cs.length (fs.getD i 0) with
  | false => simp
  | true =>
   simp only [if_true, Bool.true_and]
   rw [wrap_inc (n := fs.length) (by omega) (by omega) (by omega), show ((i : Int) + 1) = ((i + 1 : Nat) : Int) from by omega]
   exact ih k (i + 1) (by omega) (by omega) (by omega)
def fewF (cs : Cs) : Prop := ∀ i : Int, (flds cs i).length ≤ 1048576
theorem spec_l2Class_eq {cs : Cs} (hl : cs.length ≤ 1000) (hf : fewF cs) {i : Int} (h0 : 0 ≤ i) (h1 : i < cs.length) (k : Nat) (hk : 1048577 ≤ k) : spec_l2Class.f k cs i = some (clsOk cs i) := by
 unfold spec_l2Class.f
 rw [if_pos h0, if_pos h1]
 have := hf i
 have e := spec_l2Class_l0 cs i (sup cs i) (flds cs i) hl (by omega) ⟨h0, by omega⟩ (flds cs i).length k 0 (by omega) (by omega) (by omega)
 have e2 : spec_l2Class.l0 k cs i 0 (sup cs i) (flds cs i) = some (clsOk cs i) := by
  rw [show ((0 : Nat) : Int) = 0 from rfl] at e
  rw [e, List.drop_zero]
  unfold clsOk clsTail
  by_cases c0 : i = 0
  ·subst c0; rfl
  by_cases c1 : i = 1
  ·subst c1; rfl
  rw [if_neg c0, if_neg c1, if_neg c0, if_neg c1]
 exact e2
theorem range_all_drop (n i : Nat) (P : Nat → Bool) (h : i < n) : ((List.range n).drop i).all P = (P i && ((List.range n).drop (i + 1)).all P) := by
  rw [List.drop_eq_getElem_cons (by simpa using h), List.all_cons]; simp
theorem spec_ClassesOk_l0 {cs : Cs} (hl : cs.length ≤ 1000) (hf : fewF cs) (d : Nat) : ∀ (k i : Nat), i ≤ cs.length → cs.length - i = d → d + 1048577 ≤ k →
  spec_ClassesOk.l0 k cs i = some (((List.range cs.length).drop i).all (fun j : Nat => clsOk cs j)) := by
 induction d with
 | zero =>
  intro k i hi hd hk
  obtain ⟨k, rfl⟩ : ∃ m, k = m + 1 := ⟨k - 1, by omega⟩
  have : i = cs.length := by omega
  subst this
  simp only [spec_ClassesOk.l0]
  rw [if_neg (by omega), List.drop_of_length_le (by simp)]
  rfl
 | succ d ih =>
  intro k i hi hd hk
  obtain ⟨k, rfl⟩ : ∃ m, k = m + 1 := ⟨k - 1, by omega⟩
  simp only [spec_ClassesOk.l0]
  rw [if_pos (by omega), spec_l2Class_eq hl hf (by omega) (by omega) k (by omega), range_all_drop _ _ _ (by omega)]
  simp only [Option.bind_some]
  cases hq : clsOk cs i with
  | false => simp
  | true =>
   simp only [if_true, Bool.true_and]
   rw [wrap_inc (n := cs.length) (by omega) (by omega) (by omega), show ((i : Int) + 1) = ((i + 1 : Nat) : Int) from by omega]
   exact ih k (i + 1) (by omega) (by omega) (by omega)
theorem spec_ClassesOk_eq {cs : Cs} (hf : fewF cs) (k : Nat) (hk : 2000000 ≤ k) : spec_ClassesOk.f k cs = some (csOk cs) := by
 unfold spec_ClassesOk.f csOk
 rw [spec_l6In_eq]
 simp only [Option.bind_some, decide_eq_true_eq]
 by_cases hl : (2 : Int) ≤ cs.length ∧ (cs.length : Int) ≤ 5
 ·rw [if_pos hl, show decide (2 ≤ cs.length ∧ cs.length ≤ 5) = true from decide_eq_true (by omega)]
  have := spec_ClassesOk_l0 (cs := cs) (by omega) hf cs.length k 0 (by omega) (by omega) (by omega)
  rw [show ((0 : Nat) : Int) = 0 from rfl] at this
  rw [this, List.drop_zero, Bool.true_and]
 ·rw [if_neg hl, show decide (2 ≤ cs.length ∧ cs.length ≤ 5) = false from decide_eq_false (by omega), Bool.false_and]
theorem impl_fieldType_eq (cs : Cs) (t : Int) (hl : cs.length ≤ 1000) : impl_fieldType.f cs.length t = some (fldOk cs.length t) := by
 unfold impl_fieldType.f kOk fldOk
 rw [if_pos (by omega)]
 congr 1
 rw [Bool.eq_iff_iff]; simp only [Bool.and_eq_true, decide_eq_true_eq]; omega
def clsQ (cs : Cs) (i : Int) : Bool := (decide (i ≤ 1) || decide (0 ≤ sup cs i ∧ sup cs i < i)) && (decide ((flds cs i).length ≤ 2) && (flds cs i).all (fldOk cs.length))
theorem impl_ClassesOk_l1 (cs : Cs) (hl : cs.length ≤ 1000) (i : Nat) (hi : i < 1000) (fs : List Int) (hf : fs.length ≤ 2) (R : Bool) (K : Nat) (hR : ∀ k, K ≤ k → impl_ClassesOk.l0 k cs cs cs.length ((i + 1 : Nat) : Int) = some R) (d : Nat) : ∀ (k j : Nat), j ≤ fs.length → fs.length - j = d → K + d + 1 ≤ k →
  impl_ClassesOk.l1 k cs cs cs.length i fs fs.length j = some ((fs.drop j).all (fldOk cs.length) && R) := by
 induction d with
 | zero =>
  intro k j hj hd hk
  obtain ⟨k, rfl⟩ : ∃ m, k = m + 1 := ⟨k - 1, by omega⟩
  have : j = fs.length := by omega
  subst this
  simp only [impl_ClassesOk.l1]
  rw [if_neg (by omega), List.drop_length, wrap_inc (n := 1000) (by omega) (by omega) (by omega), show ((i : Int) + 1) = ((i + 1 : Nat) : Int) from by omega, hR k (by omega)]
  simp
 | succ d ih =>
  intro k j hj hd hk
  obtain ⟨k, rfl⟩ : ∃ m, k = m + 1 := ⟨k - 1, by omega⟩
  simp only [impl_ClassesOk.l1]
  rw [if_pos (by omega), if_pos (by omega), if_pos (by omega), rd_cast, impl_fieldType_eq cs _ hl, all_drop fs _ j (by omega)]
  simp only [Option.bind_some]
  cases hq : fldOk cs.length (fs.getD j 0) with
  | false => simp
  | true =>
   simp only [if_true, Bool.true_and]
   rw [wrap_inc (n := fs.length) (by omega) (by omega) (by omega), show ((j : Int) + 1) = ((j + 1 : Nat) : Int) from by omega]
   exact ih k (j + 1) (by omega) (by omega) (by omega)
theorem impl_ClassesOk_l0 (cs : Cs) (hl : cs.length ≤ 5) (d : Nat) : ∀ (i : Nat), i ≤ cs.length → cs.length - i = d → ∀ k, 10 * d + 10 ≤ k →
  impl_ClassesOk.l0 k cs cs cs.length i = some (((List.range cs.length).drop i).all (fun j : Nat => clsQ cs j)) := by
 induction d with
 | zero =>
  intro i hi hd k hk
  obtain ⟨k, rfl⟩ : ∃ m, k = m + 1 := ⟨k - 1, by omega⟩
  have : i = cs.length := by omega
  subst this
  simp only [impl_ClassesOk.l0]
  rw [if_neg (by omega), List.drop_of_length_le (by simp)]
  rfl
 | succ d ih =>
  intro i hi hd k hk
  obtain ⟨k, rfl⟩ : ∃ m, k = m + 1 := ⟨k - 1, by omega⟩
  obtain ⟨k, rfl⟩ : ∃ m, k = m + 1 := ⟨k - 1, by omega⟩
  rw [range_all_drop _ _ _ (by omega)]
  have hj : impl_ClassesOk.j4 (k + 1) cs cs cs.length i false (sup cs i) (flds cs i) = some (decide ((flds cs i).length ≤ 2) && ((flds cs i).all (fldOk cs.length) && ((List.range cs.length).drop (i + 1)).all (fun j : Nat => clsQ cs j))) := by
   simp only [impl_ClassesOk.j4]
   rw [if_neg (by simp)]
   by_cases h2 : ((flds cs i).length : Int) > 2
   ·rw [if_pos h2, decide_eq_false (by omega)]; rfl
   ·rw [if_neg h2, decide_eq_true (show (flds cs i).length ≤ 2 by omega), Bool.true_and]
    have := impl_ClassesOk_l1 cs (by omega) i (by omega) (flds cs i) (by omega) _ (10 * d + 10) (fun k hk => ih (i + 1) (by omega) (by omega) k hk) (flds cs i).length k 0 (by omega) (by omega) (by omega)
    rw [show ((0 : Nat) : Int) = 0 from rfl, List.drop_zero] at this
    exact this
  have hjt : impl_ClassesOk.j4 (k + 1) cs cs cs.length i true (sup cs i) (flds cs i) = some false := by simp [impl_ClassesOk.j4]
  simp only [impl_ClassesOk.l0]
  rw [if_pos (by omega), if_pos (by omega), if_pos (by omega)]
  rw [show (rd_T99 cs (i : Int)).f0 = sup cs i from rfl, show (rd_T99 cs (i : Int)).f1 = flds cs i from rfl]
  have hQ : clsQ cs i = ((decide ((i : Int) ≤ 1) || decide (0 ≤ sup cs i ∧ sup cs i < i)) && (decide ((flds cs i).length ≤ 2) && (flds cs i).all (fldOk cs.length))) := rfl
  rw [hQ]
  generalize ((List.range cs.length).drop (i + 1)).all (fun j : Nat => clsQ cs j) = T at *
  by_cases h1 : (i : Int) > 1
  ·rw [if_pos h1]
   by_cases hs : sup cs i < 0
   ·rw [if_pos hs, hjt, decide_eq_false (show ¬ (i : Int) ≤ 1 by omega), decide_eq_false (show ¬ (0 ≤ sup cs i ∧ sup cs i < i) by omega)]; rfl
   ·rw [if_neg hs]
    by_cases hs2 : sup cs i ≥ i
    ·rw [decide_eq_true hs2, hjt, decide_eq_false (show ¬ (i : Int) ≤ 1 by omega), decide_eq_false (show ¬ (0 ≤ sup cs i ∧ sup cs i < i) by omega)]; rfl
    ·rw [decide_eq_false hs2, hj, decide_eq_true (show (0 ≤ sup cs i ∧ sup cs i < i) by omega)]
     simp [Bool.and_assoc]
  ·rw [if_neg h1, hj, decide_eq_true (show (i : Int) ≤ 1 by omega)]
   simp [Bool.and_assoc]
theorem impl_ClassesOk_eq (cs : Cs) (k : Nat) (hk : 1000 ≤ k) : impl_ClassesOk.f k cs = some (csOk cs) := by
 obtain ⟨k, rfl⟩ : ∃ m, k = m + 1 := ⟨k - 1, by omega⟩
 obtain ⟨k, rfl⟩ : ∃ m, k = m + 1 := ⟨k - 1, by omega⟩
 obtain ⟨k, rfl⟩ : ∃ m, k = m + 1 := ⟨k - 1, by omega⟩
 unfold impl_ClassesOk.f
 by_cases h2 : (cs.length : Int) < 2
 ·rw [if_pos h2]
  simp only [impl_ClassesOk.j0, if_true]
  unfold csOk
  rw [decide_eq_false (by omega), Bool.false_and]
 rw [if_neg h2]
 by_cases h5 : (cs.length : Int) > 5
 ·rw [decide_eq_true h5]
  simp only [impl_ClassesOk.j0, if_true]
  unfold csOk
  rw [decide_eq_false (by omega), Bool.false_and]
 rw [decide_eq_false h5]
 have no : ∀ i : Int, 0 ≤ i → i < cs.length → clsOk cs i = false → csOk cs = false := by
  intro i h0 h1 hc
  cases hq : csOk cs with
  | false => rfl
  | true => rw [csOk_at hq h0 h1] at hc; cases hc
 simp only [impl_ClassesOk.j0, Bool.false_eq_true, if_false]
 rw [if_pos (by omega)]
 rw [show (rd_T99 cs 0).f0 = sup cs 0 from rfl, show (rd_T99 cs 0).f1 = flds cs 0 from rfl]
 by_cases r0 : sup cs 0 = -1
 case neg =>
  rw [if_neg r0]
  simp only [impl_ClassesOk.j1, if_true]
  rw [no 0 (by omega) (by omega) (by unfold clsOk; simp [r0])]
 rw [if_pos r0]
 by_cases f0 : flds cs 0 = []
 case neg =>
  have : (((flds cs 0).length : Int) != 0) = true := by
   cases hq : flds cs 0 with
   | nil => exact absurd hq f0
   | cons x t => simp; omega
  rw [this]
  simp only [impl_ClassesOk.j1, if_true]
  rw [no 0 (by omega) (by omega) (by unfold clsOk; simp [f0])]
 rw [show (((flds cs 0).length : Int) != 0) = false by rw [f0]; rfl]
 simp only [impl_ClassesOk.j1, Bool.false_eq_true, if_false]
 rw [if_pos (by omega)]
 rw [show (rd_T99 cs 1).f0 = sup cs 1 from rfl, show (rd_T99 cs 1).f1 = flds cs 1 from rfl]
 have n1 : ¬ (sup cs 1 = 0 ∧ flds cs 1 = [1]) → csOk cs = false := fun z => no 1 (by omega) (by omega) (by unfold clsOk; rw [if_neg (by omega), if_pos rfl, decide_eq_false z, Bool.and_false])
 by_cases r1 : sup cs 1 = 0
 case neg =>
  rw [if_neg r1]
  simp only [impl_ClassesOk.j2, if_true]
  rw [n1 (fun z => r1 z.1)]
 rw [if_pos r1]
 by_cases l1 : ((flds cs 1).length : Int) = 1
 case neg =>
  rw [if_neg l1]
  simp only [impl_ClassesOk.j2, if_true]
  rw [n1 (fun z => l1 (by rw [z.2]; rfl))]
 rw [if_pos l1, if_pos (by omega)]
 obtain ⟨x, hx⟩ := List.length_eq_one_iff.1 (show (flds cs 1).length = 1 by omega)
 by_cases e1 : x = 1
 case neg =>
  rw [show (rd (flds cs 1) 0 != 1) = true by rw [hx]; simp [rd, e1]]
  simp only [impl_ClassesOk.j2, if_true]
  rw [n1 (fun z => e1 (by rw [hx] at z; simpa using z.2))]
 rw [show (rd (flds cs 1) 0 != 1) = false by rw [hx]; simp [rd, e1]]
 simp only [impl_ClassesOk.j2, Bool.false_eq_true, if_false]
 have := impl_ClassesOk_l0 cs (by omega) cs.length 0 (by omega) (by omega) k (by omega)
 rw [show ((0 : Nat) : Int) = 0 from rfl, List.drop_zero] at this
 rw [this]
 congr 1
 unfold csOk
 rw [decide_eq_true (show 2 ≤ cs.length ∧ cs.length ≤ 5 by omega), Bool.true_and, Bool.eq_iff_iff]
 simp only [List.all_eq_true, List.mem_range]
 refine forall_congr' fun i => forall_congr' fun hi => ?_
 unfold clsQ clsOk
 simp only [Bool.and_eq_true, Bool.or_eq_true, decide_eq_true_eq]
 by_cases i0 : (i : Int) = 0
 ·rw [i0, if_pos rfl, decide_eq_true_eq, r0, f0]; simp
 by_cases i1 : (i : Int) = 1
 ·rw [i1, if_neg (by omega), if_pos rfl, decide_eq_true_eq, r1, hx, e1]; simp
 rw [if_neg i0, if_neg i1, decide_eq_true_eq]
 constructor
 ·rintro ⟨h1 | h1, h3, h4⟩
  ·omega
  ·exact ⟨h4, h1, h3⟩
 ·rintro ⟨h4, h1, h3⟩
  exact ⟨Or.inr h1, h3, h4⟩
end Go.Proofs.Ytfbkpjjnhengfaa.Pure
namespace Go.Proofs.Ytfbkpjjnhengfaa.Pure
open Go.RowKit Go.Proofs.Ytfbkpjjnhengfaa.K Go.Proofs.YtfbkpjjnhengfaaW.PrintWords Go.Proofs.YtfbkpjjnhengfaaW.PrintLast Go.Proofs.YtfbkpjjnhengfaaW.PrintMore
set_option linter.unusedVariables false
set_option linter.unusedSimpArgs false
theorem mem_map1 (W : List Int) (v : Int) : v ∈ W.map (· + 1) ↔ v - 1 ∈ W := by
 rw [List.mem_map]
 constructor
 ·rintro ⟨a, ha, rfl⟩; rw [show a + 1 - 1 = a by omega]; exact ha
 ·intro h; exact ⟨v - 1, h, by omega⟩
theorem map1_sorted {W : List Int} (h : W.Pairwise (· < ·)) : (W.map (· + 1)).Pairwise (· < ·) := by
  rw [List.pairwise_map]; exact h.imp (fun hab => by omega)
theorem has_eq {cs : Cs} {ws W : List Int} (hw : Wlk cs ws W) (m : Mm) (hm : m.begins = W.map (· + 1)) (v : Int) : ∀ q, 300 ≤ q → memory_has.f q m v = some (decide (v - 1 ∈ W)) := by
 intro q hq
 have hl := hw.len
 obtain ⟨p, _, h, _, _⟩ := search_eq (map1_sorted hw.srt) (by rw [List.length_map]; omega) v
 unfold memory_has.f
 rw [hm, h q (by rw [List.length_map]; omega), Option.bind_some]
 simp only [mem_map1]
theorem wlk_range {cs : Cs} {ws W : List Int} (hw : Wlk cs ws W) {x : Int} (hx : x ∈ W) : 0 ≤ x ∧ x < ws.length := by
  obtain ⟨e, h1, h2, h3, _⟩ := hw.mem x hx
  omega
theorem lead_eq {cs : Cs} {ws W : List Int} (hw : Wlk cs ws W) (hn : ws.length ≤ 1048576) (v : Int) : spec_l21Lead.f (startsL W ws.length) v = some (decide (v = 0) || decide (v - 1 ∈ W)) := by
 unfold spec_l21Lead.f
 by_cases c0 : v = 0
 ·rw [if_pos c0, decide_eq_true c0]; rfl
 rw [if_neg c0, spec_l6In_eq, startsL_len, decide_eq_false c0, Bool.false_or]
 simp only [Option.bind_some, decide_eq_true_eq]
 by_cases c1 : 1 ≤ v ∧ v ≤ (ws.length : Int)
 ·rw [if_pos c1, wrap64_of (n := v - 1) (by omega) (by omega), if_pos (by omega), if_pos (by omega), startsL_at W ws.length (by omega) (by omega)]
 ·rw [if_neg c1, decide_eq_false (fun hv => c1 (by have := wlk_range hw hv; omega))]
theorem word_eq {cs : Cs} {ws : List Int} {y t o : Int} {cards : List Bool} (hb : Bnd cs ws y t o cards) {W : List Int} (hw : Wlk cs ws W) (m : Mm) (hm : m = ⟨ws, y, t, o, cards, allF cs, W.map (· + 1)⟩)
  {x hd cnt c : Int} (h0 : 0 ≤ x) (hhd : hd = 1 ∨ hd = 2) (hcn : 0 ≤ cnt) (hsz : x + hd + cnt ≤ ws.length) (hfi : thing_first.f m (x + 1) = some (x + hd)) (hle : ∀ k, 0 ≤ k → k < cnt → thing_leads.f m (x + 1) k = some (ldB cs c k))
  (R : List Bool) (hR : R = refsL cs c hd (hd + cnt)) {k : Int} (k0 : 0 ≤ k) (k1 : k < cnt) :
  ∃ b, (∀ q, 300 ≤ q → wordAt q m (x + 1) k = some b) ∧ ∀ κ : Nat, spec_l21Thing.l0 (κ + 2) (startsL W ws.length) x R (hd + k) ws y t o cards = if b = true then spec_l21Thing.l0 κ (startsL W ws.length) x R (hd + k + 1) ws y t o cards else some false := by
 have n0 := hb.n0; have n1 := hb.n1; have y0 := hb.y0; have y1 := hb.y1; have cd := hb.cd
 have hRl : (R.length : Int) = hd + cnt := by rw [hR]; unfold refsL; rw [List.length_map, List.length_range]; omega
 have hRk : rdOf false R (hd + k) = ldB cs c k := by rw [hR, refsL_at cs c hd (hd + cnt) (by omega) (by omega) (by omega), show hd + k - hd = k by omega]
 obtain ⟨v, hv⟩ : ∃ v, v = rd ws (x + (hd + k)) := ⟨_, rfl⟩
 have hmw : m.words = ws := by rw [hm]
 have hA : ∀ q, wordAt q m (x + 1) k = if ldB cs c k = true then (if v = 0 then some true else (memory_has.f q m v).bind fun h => if h = true then cardOk m (x + 1) v (x + (hd + k)) else some false) else impl_isWord.f v := fun q => by
  unfold wordAt
  rw [hfi, Option.bind_some, hmw, if_pos (by omega), hle k k0 k1, Option.bind_some, show x + hd + k = x + (hd + k) by omega, ← hv]
 have w1 : wrap64 (x + (hd + k)) = x + (hd + k) := wrap64_of (by omega) (by omega)
 have w2 : wrap64 (hd + k + 1) = hd + k + 1 := wrap64_of (by omega) (by omega)
 have hB : ∀ κ : Nat, spec_l21Thing.l0 (κ + 2) (startsL W ws.length) x R (hd + k) ws y t o cards = if ldB cs c k = true then spec_l21Thing.j1 (κ + 1) (startsL W ws.length) x R (hd + k) v (!(decide (v = 0) || decide (v - 1 ∈ W))) ws y t o cards else spec_l21Thing.j1 (κ + 1) (startsL W ws.length) x R (hd + k) v (!(decide (-128 ≤ v ∧ v ≤ 127))) ws y t o cards := fun κ => by
  rw [spec_l21Thing.l0, if_pos (by omega), w1, if_pos (by omega), if_pos (by omega), if_pos (by omega), hRk, ← hv, lead_eq hw (by omega)]
  simp only [Option.bind_some]
  by_cases c0 : ldB cs c k = true
  ·rw [if_pos c0, if_pos c0]
   cases (decide (v = 0) || decide (v - 1 ∈ W)) <;> rfl
  ·rw [if_neg c0, if_neg c0]
   unfold spec_l1Word.f
   rw [spec_l6In_eq]
   rfl
 have hJ : ∀ (κ : Nat) (bad : Bool), spec_l21Thing.j1 (κ + 1) (startsL W ws.length) x R (hd + k) v bad ws y t o cards = if bad = true then some false else (if ldB cs c k = true then (if x ≥ y then (if 1 ≤ v ∧ v ≤ y then (if rdOf false cards ((x + (hd + k) - y) / 4) = true then spec_l21Thing.l0 κ (startsL W ws.length) x R (hd + k + 1) ws y t o cards else some false) else spec_l21Thing.l0 κ (startsL W ws.length) x R (hd + k + 1) ws y t o cards) else spec_l21Thing.l0 κ (startsL W ws.length) x R (hd + k + 1) ws y t o cards) else spec_l21Thing.l0 κ (startsL W ws.length) x R (hd + k + 1) ws y t o cards) := fun κ bad => by
  rw [spec_l21Thing.j1, w2, w1]
  cases bad with
  | true => rw [if_pos rfl, if_pos rfl]
  | false =>
   simp only [Bool.false_eq_true, if_false]
   rw [if_pos (show 0 ≤ hd + k by omega), if_pos (show hd + k < (R.length : Int) by omega), hRk]
   by_cases c0 : ldB cs c k = true
   ·rw [if_pos c0, if_pos c0]
    by_cases c1 : x ≥ y
    ·rw [if_pos c1, if_pos c1, spec_l6In_eq]
     simp only [Option.bind_some, decide_eq_true_eq]
     by_cases c2 : 1 ≤ v ∧ v ≤ y
     ·rw [if_pos c2, if_pos c2, wrap64_of (n := x + (hd + k) - y) (by omega) (by omega), Int.tdiv_eq_ediv_of_nonneg (by omega), wrap64_of (n := (x + (hd + k) - y) / 4) (by omega) (by omega), if_pos (by omega), if_pos (by omega)]
     ·rw [if_neg c2, if_neg c2]
    ·rw [if_neg c1, if_neg c1]
   ·rw [if_neg c0, if_neg c0]
 by_cases c0 : ldB cs c k = true
 case neg =>
  refine ⟨decide (-128 ≤ v ∧ v ≤ 127), fun q hq => ?_, fun κ => ?_⟩
  ·rw [hA, if_neg c0]
   unfold impl_isWord.f
   by_cases z : v ≥ -128
   ·rw [if_pos z]; simp [show -128 ≤ v from z]
   ·rw [if_neg z]; simp [show ¬ -128 ≤ v from z]
  ·rw [hB, if_neg c0, hJ, if_neg c0]
   cases decide (-128 ≤ v ∧ v ≤ 127) <;> rfl
 case pos =>
 by_cases c1 : v = 0
 ·refine ⟨true, fun q hq => by rw [hA, if_pos c0, if_pos c1], fun κ => ?_⟩
  rw [hB, if_pos c0, hJ, decide_eq_true c1, if_pos c0]
  rw [if_neg (by simp), if_pos rfl]
  by_cases c2 : x ≥ y
  ·rw [if_pos c2, if_neg (by omega)]
  ·rw [if_neg c2]
 have hq0 := has_eq hw m (by rw [hm]) v
 by_cases c2 : v - 1 ∈ W
 case neg =>
  refine ⟨false, fun q hq => by rw [hA, if_pos c0, if_neg c1, hq0 q hq, decide_eq_false c2]; rfl, fun κ => ?_⟩
  rw [hB, if_pos c0, hJ, decide_eq_false c1, decide_eq_false c2]
  rfl
 case pos =>
 have hvr := wlk_range hw c2
 have hA2 : ∀ q, 300 ≤ q → wordAt q m (x + 1) k = cardOk m (x + 1) v (x + (hd + k)) := fun q hq => by
  rw [hA, if_pos c0, if_neg c1, hq0 q hq, decide_eq_true c2]; rfl
 have hB2 : ∀ κ : Nat, spec_l21Thing.l0 (κ + 2) (startsL W ws.length) x R (hd + k) ws y t o cards = (if x ≥ y then (if 1 ≤ v ∧ v ≤ y then (if rdOf false cards ((x + (hd + k) - y) / 4) = true then spec_l21Thing.l0 κ (startsL W ws.length) x R (hd + k + 1) ws y t o cards else some false) else spec_l21Thing.l0 κ (startsL W ws.length) x R (hd + k + 1) ws y t o cards) else spec_l21Thing.l0 κ (startsL W ws.length) x R (hd + k + 1) ws y t o cards) := fun κ => by
  rw [hB, if_pos c0, hJ, decide_eq_true c2, if_pos c0]
  rw [if_neg (by simp)]
 have hC : cardOk m (x + 1) v (x + (hd + k)) = if x ≥ y then (if 1 ≤ v ∧ v ≤ y then some (rdOf false cards ((x + (hd + k) - y) / 4)) else some true) else some true := by
  unfold cardOk
  rw [hm]
  show (if x + 1 > y then (if v > y then some true else (if 0 ≤ wrap64 (Int.tdiv (wrap64 (x + (hd + k) - y)) 4) ∧ wrap64 (Int.tdiv (wrap64 (x + (hd + k) - y)) 4) < (cards.length : Int) then some (rdOf false cards (wrap64 (Int.tdiv (wrap64 (x + (hd + k) - y)) 4))) else none)) else some true) = _
  by_cases z1 : x ≥ y
  ·rw [if_pos (show x + 1 > y by omega), if_pos z1]
   by_cases z2 : v > y
   ·rw [if_pos z2, if_neg (by omega)]
   ·rw [if_neg z2, if_pos (show 1 ≤ v ∧ v ≤ y by omega), wrap64_of (n := x + (hd + k) - y) (by omega) (by omega), Int.tdiv_eq_ediv_of_nonneg (by omega), wrap64_of (n := (x + (hd + k) - y) / 4) (by omega) (by omega), if_pos (by omega)]
  ·rw [if_neg (show ¬ x + 1 > y by omega), if_neg z1]
 by_cases z1 : x ≥ y
 ·by_cases z2 : 1 ≤ v ∧ v ≤ y
  ·refine ⟨rdOf false cards ((x + (hd + k) - y) / 4), fun q hq => by rw [hA2 q hq, hC, if_pos z1, if_pos z2], fun κ => by rw [hB2, if_pos z1, if_pos z2]⟩
  ·exact ⟨true, fun q hq => by rw [hA2 q hq, hC, if_pos z1, if_neg z2], fun κ => by rw [hB2, if_pos z1, if_neg z2, if_pos rfl]⟩
 ·exact ⟨true, fun q hq => by rw [hA2 q hq, hC, if_neg z1], fun κ => by rw [hB2, if_neg z1, if_pos rfl]⟩
theorem thing_eq {cs : Cs} {ws : List Int} {y t o : Int} {cards : List Bool} (hb : Bnd cs ws y t o cards) {W : List Int} (hw : Wlk cs ws W) (m : Mm) (hm : m = ⟨ws, y, t, o, cards, allF cs, W.map (· + 1)⟩) {x : Int} (hx : x ∈ W) :
  ∃ b, (∀ q, 300 ≤ q → wordsOk.f q m (x + 1) = some b) ∧ ∀ k, 200 ≤ k → spec_l21Thing.f k cs ws y t o cards (startsL W ws.length) x = some b := by
 obtain ⟨c, hd, cnt, hc, h0, hhd, hcn, hcn8, hsz, hco, hfi, hhe, hl21, hle, hcc⟩ := thing_facts hb hw m hm hx
 have n0 := hb.n0; have n1 := hb.n1; have y0 := hb.y0; have y1 := hb.y1
 have key : ∀ d : Nat, ∀ k : Int, 0 ≤ k → k + d = cnt → ∃ b, (∀ q, 300 ≤ q → ∀ j : Nat, d + 1 ≤ j → wordsOk.l q m (x + 1) cnt j k = some b) ∧ ∀ κ : Nat, 2 * d + 1 ≤ κ → spec_l21Thing.l0 κ (startsL W ws.length) x (refsL cs c hd (hd + cnt)) (hd + k) ws y t o cards = some b := by
  intro d
  induction d with
  | zero =>
   intro k k0 kd
   refine ⟨true, fun q hq j hj => ?_, fun κ hκ => ?_⟩
   ·obtain ⟨j, rfl⟩ : ∃ i, j = i + 1 := ⟨j - 1, by omega⟩
    rw [wordsOk.l, if_neg (by omega)]
   ·obtain ⟨κ, rfl⟩ : ∃ i, κ = i + 1 := ⟨κ - 1, by omega⟩
    have hRl : ((refsL cs c hd (hd + cnt)).length : Int) = hd + cnt := by unfold refsL; rw [List.length_map, List.length_range]; omega
    rw [spec_l21Thing.l0, if_neg (by omega)]
  | succ d ih =>
   intro k k0 kd
   obtain ⟨b, hb1, hb2⟩ := word_eq hb hw m hm h0 hhd hcn hsz hfi hle _ rfl k0 (show k < cnt by omega)
   obtain ⟨b', h1, h2⟩ := ih (k + 1) (by omega) (by omega)
   cases b with
   | true =>
    refine ⟨b', fun q hq j hj => ?_, fun κ hκ => ?_⟩
    ·obtain ⟨j, rfl⟩ : ∃ i, j = i + 1 := ⟨j - 1, by omega⟩
     rw [wordsOk.l, if_pos (by omega), hb1 q hq, Option.bind_some, if_pos rfl]
     exact h1 q hq j (by omega)
    ·obtain ⟨κ, rfl⟩ : ∃ i, κ = i + 2 := ⟨κ - 2, by omega⟩
     rw [hb2 κ, if_pos rfl, show hd + k + 1 = hd + (k + 1) by omega]
     exact h2 κ (by omega)
   | false =>
    refine ⟨false, fun q hq j hj => ?_, fun κ hκ => ?_⟩
    ·obtain ⟨j, rfl⟩ : ∃ i, j = i + 1 := ⟨j - 1, by omega⟩
     rw [wordsOk.l, if_pos (by omega), hb1 q hq, Option.bind_some, if_neg (by simp)]
    ·obtain ⟨κ, rfl⟩ : ∃ i, κ = i + 2 := ⟨κ - 2, by omega⟩
     rw [hb2 κ, if_neg (by simp)]
 obtain ⟨b, h1, h2⟩ := key cnt.toNat 0 (by omega) (by omega)
 refine ⟨b, fun q hq => ?_, fun k hk => ?_⟩
 ·unfold wordsOk.f
  rw [hco, Option.bind_some, if_pos (by omega)]
  exact h1 q hq _ (by omega)
 ·unfold spec_l21Thing.f spec_l21Refs.f
  rw [hl21 k (by omega)]
  simp only [Option.bind_some]
  rw [if_pos (by omega), if_pos (by omega), if_pos h0, if_pos (by omega), ← hc, hhe]
  simp only [Option.bind_some]
  have hr := refs_l0 (cs := cs) hb.ok (c := c) (hd := hd) (s := (hd + cnt).toNat) (by omega) hhd (by rcases hcc with z | z | z; exact Or.inl z; exact Or.inr (Or.inl z); exact Or.inr (Or.inr ⟨z.1, z.2.1, z.2.2.1, by omega⟩)) cnt.toNat k hd.toNat (List.replicate (hd + cnt).toNat false) (by omega) (by omega) (by omega) (by simp) (fun i hi => by
   rw [decide_eq_false (show ¬ (hd ≤ (i : Int) ∧ i < hd.toNat) by omega)]
   simp [List.getD_eq_getElem?_getD, hi])
  rw [show ((hd.toNat : Nat) : Int) = hd by omega] at hr
  rw [hr]
  simp only [Option.bind_some]
  rw [if_pos (by omega), if_pos (by omega)]
  have := h2 k (by omega)
  rw [show hd + 0 = hd by omega, show ((hd + cnt).toNat : Int) = hd + cnt by omega] at *
  exact this
end Go.Proofs.Ytfbkpjjnhengfaa.Pure
