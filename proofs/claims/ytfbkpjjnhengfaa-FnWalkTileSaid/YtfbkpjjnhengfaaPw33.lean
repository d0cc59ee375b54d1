import Derived.Test.YtfbkpjjnhengfaaPw24
import Derived.Test.YtfbkpjjnhengfaaPw29
import Derived.Test.YtfbkpjjnhengfaaPw32
import Derived.Test.YtfbkpjjnhengfaaPw31
import Derived.Test.YtfbkpjjnhengfaaPw27
import Derived.Test.YtfbkpjjnhengfaaPw26
import Derived.Test.YtfbkpjjnhengfaaPw28
namespace Go.Proofs.Ytfbkpjjnhengfaa.K
open Go.RowKit Go.Proofs.YtfbkpjjnhengfaaW.PrintWords Go.Proofs.YtfbkpjjnhengfaaW.PrintLast Go.Proofs.YtfbkpjjnhengfaaW.PrintMore
attribute [local go_sem] max2_int min2_int max_two min_two max_three min_three max_four min_four
set_option linter.unusedVariables false
set_option linter.unusedSimpArgs false
open Go.Proofs.Ytfbkpjjnhengfaa.Pure
set_option maxHeartbeats 32000000 in
set_option maxRecDepth 100000 in
theorem inside_any (b gw cW gc cC : Nat) (ws : List Int) (y t o : Int) (cards : List Bool) (M : Int) (g : Nat) (A : Option Addr) (cA : Nat) (cs : Cs) (at_ : Int) (AP : Option Addr) (cP : Nat) (pl : List Int) (w0 w : World) (h : OM b gw cW gc cC w ws cards) (hi : Rdr M w0 w g) (hM : M ≤ 700000) (hok : csOk cs = true)
  (hC : ∀ W', Kept w W' (fun k => (k = gw ∨ k = gc) ∨ k = g) → Kd.C k99 W' A cs.length cs) (hcA : cs.length ≤ cA) (hP : ∀ W', Kept w W' (fun k => (k = gw ∨ k = gc) ∨ k = g) → Kd.C (Kd.int .i64) W' AP pl.length pl) (hcP : pl.length ≤ cP) (hpl : 1 ≤ pl.length ∧ pl.length ≤ 1000) (h0 : 0 ≤ at_) (h1 : at_ ≤ ws.length) (hn : ws.length ≤ 1000) (hy : 0 ≤ y ∧ y ≤ 40) (hcd : (cards.length : Int) = ((ws.length : Int) - y + 3) / 4) (hg : g ≠ gw ∧ g ≠ gc) (hg0 : w0.heap.size ≤ gw ∧ w0.heap.size ≤ gc) :
  Calls Try.prog 97 #[.pointer (some ⟨g, 0, none⟩), .slice A cs.length cA, .agg #[.slice (some ⟨gw, 0, none⟩) ws.length cW, .int .i64 y, .int .i64 t, .int .i64 o, .slice (some ⟨gc, 0, none⟩) cards.length cC], .int .i64 at_, .slice AP pl.length cP] w fun e w' => ∃ (ws' : List Int) (cards' : List Bool), e = .returned (.agg #[.slice (some ⟨gw, 0, none⟩) ws.length cW, .int .i64 y, .int .i64 t, .int .i64 o, .slice (some ⟨gc, 0, none⟩) cards.length cC]) ∧ (ws'.length = ws.length ∧ cards'.length = cards.length) ∧ OM b gw cW gc cC w' ws' cards' ∧ Rdr (M + 60) w0 w' g ∧ Ch (fun k => (k = gw ∨ k = gc) ∨ k = g) w w' := by
 have HO := Aside0.mk h
 have HI := Aside0.mk hi
 have HM := Aside0.mk hM
 have HC := Aside0.mk hC
 have HP := Aside0.mk hP
 have HCA := Aside0.mk hcA
 have HCP := Aside0.mk hcP
 have HPL := Aside0.mk hpl
 have H1 := Aside0.mk (show (0 ≤ at_ ∧ at_ ≤ ws.length) ∧ ws.length ≤ 1000 ∧ (0 ≤ y ∧ y ≤ 40) ∧ (cards.length : Int) = ((ws.length : Int) - y + 3) / 4 from ⟨⟨h0, h1⟩, hn, hy, hcd⟩)
 have HGW := Aside0.mk (show (gw < w.heap.size ∧ gc < w.heap.size ∧ g < w.heap.size) ∧ gw ≠ gc ∧ (g ≠ gw ∧ g ≠ gc) ∧ w0.heap.size ≤ gw ∧ w0.heap.size ≤ gc ∧ w0.heap.size ≤ g from ⟨⟨h.bw.2, h.bc.2, hi.lt⟩, h.ne, hg, hg0.1, hg0.2, hi.ge⟩)
 have HRf := Aside0.mk (fun (z0 : 0 ≤ at_ - 1) => refs_any hok hn z0 (show at_ - 1 < (ws.length : Int) by omega))
 clear h hi hM hok hC hcA hP hcP hpl h0 h1 hn hy hcd hg hg0
 by_cases ca : at_ = 0
 ·have d0 : (at_ == 0) = true := beq_iff_eq.mpr ca
  have d0' : decide (at_ = 0) = true := decide_eq_true ca
  clear ca
  go_enter Try.func97, Try.ntmps97
  go_wp2_with (first | ((with_reducible refine gate_dst (N := 7) rfl ?_); refine box_event ?hg (N := 7) ?hd (cs := #[.slice (some ⟨gw, 0, none⟩) ws.length cW, .int .i64 y, .int .i64 t, .int .i64 o, .slice (some ⟨gc, 0, none⟩) cards.length cC]) (t := 27) ?hr ?_; (case hd => rfl); (case hg => rfl); (case hr => first | (go_simp; done) | (go_simp; rfl)); intro gp hg w1 hbox hb; have BP := Aside0.mk hbox; have HCh := Aside0.mk ((Ch.refl (fun k => (k = gw ∨ k = gc) ∨ k = g) w).below hb); have HGp := Aside0.mk (show w.heap.size ≤ gp by rw [hg]; exact Nat.le_refl _); have HC0 := Aside0.mk ((Ch.refl (fun _ => False) w).below hb); clear hb hbox hg) | ((with_reducible refine gate_dst (N := 10) rfl ?_); refine box_event ?hg (N := 10) ?hd (cs := #[.slice none 0 0, .int .i64 0, .int .i64 0, .int .i64 0, .slice none 0 0]) (t := 27) ?hr ?_; (case hd => rfl); (case hg => rfl); (case hr => first | (go_simp; done) | (go_simp; rfl)); intro gr hg w2 hbox hb; have BR := Aside0.mk hbox; have HGr := Aside0.mk (show w.heap.size ≤ gr ∧ gp < gr by have := HCh.out.size; have := blk_lt BP.out; rw [hg]; exact ⟨by omega, by omega⟩); replace BP := Aside0.mk (blk_below BP.out hb); replace HCh := Aside0.mk (HCh.out.below hb); replace HC0 := Aside0.mk (HC0.out.below hb); have HO2 := Aside0.mk (HO.out.ch HC0.out (fun h => h) (fun h => h)); have HI2 := Aside0.mk (HI.out.ch HC0.out (fun h => h) (fun _ h => h.elim)); have c0 := (blk_cell BP.out 0).trans rfl; have c1 := (blk_cell BP.out 1).trans rfl; have c2 := (blk_cell BP.out 2).trans rfl; have c3 := (blk_cell BP.out 3).trans rfl; have c4 := (blk_cell BP.out 4).trans rfl; clear hb hbox hg; have BR2 := BR; have z0 := (blk_cell BR2.out 0).trans rfl; have z1 := (blk_cell BR2.out 1).trans rfl; have z2 := (blk_cell BR2.out 2).trans rfl; have z3 := (blk_cell BR2.out 3).trans rfl; have z4 := (blk_cell BR2.out 4).trans rfl; have y_0 := blk_frozen BR2.out 0; have y_1 := blk_frozen BR2.out 1; have y_2 := blk_frozen BR2.out 2; have y_3 := blk_frozen BR2.out 3; have y_4 := blk_frozen BR2.out 4))
  refine bodyPost_ret (results_cell_row rfl _ _ gr 27 #[.slice (some ⟨gw, 0, none⟩) ws.length cW, .int .i64 y, .int .i64 t, .int .i64 o, .slice (some ⟨gc, 0, none⟩) cards.length cC] (0, 0) _ rfl (blk_box5 BR2.out) Try.underlying27 rfl (by kernel_rfl)) rfl ?_
  exact ⟨ws, cards, rfl, ⟨rfl, rfl⟩, HO2.out.ch (Ch.box5 (Ch.refl (fun k => k = gr) _) (.inl rfl) _ _ _ _ _) z14 z14, (HI2.out.ch (Ch.box5 (Ch.refl (fun k => k = gr) _) (.inl rfl) _ _ _ _ _) z14 (fun k hk => by have := HGr.out; have := HGW.out; omega)).le (by omega), HCh.out.box5 (.inr HGr.out.1) _ _ _ _ _⟩
 ·have d0 : (at_ == 0) = false := beq_eq_false_iff_ne.mpr ca
  have d0' : decide (at_ = 0) = false := decide_eq_false ca
  have hz := H1.out
  obtain ⟨a1, ha⟩ : ∃ a1, a1 = at_ - 1 := ⟨_, rfl⟩
  obtain ⟨R, hR1, hR2⟩ := HRf.out (by omega)
  rw [← ha] at hR1 hR2
  have HAt := Aside0.mk ha
  have HRe := Aside0.mk (hR2 200 (Nat.le_refl _))
  have H2 := Aside0.mk (show (0 ≤ a1 ∧ a1 < ws.length) ∧ a1 + R.length ≤ ws.length ∧ R.length ≤ 10 from ⟨by omega, hR1⟩)
  have q0 : IntKind.i64.wrap (at_ - 1) = a1 := by rw [ha]; exact IntWalk.i64_in _ (by omega)
  have p1 := eq_true (show 0 ≤ a1 by omega)
  have p2 := eq_true (show a1 < (ws.length : Int) by omega)
  obtain ⟨hd, hh, he⟩ := head_any (rd ws (a1))
  have HHd := Aside0.mk he
  have Hhd := Aside0.mk hh
  clear ca hz hR1 hR2 HRf hh he ha
  go_enter Try.func97, Try.ntmps97
  go_wp2_with (first | ((with_reducible refine gate_dst (N := 7) rfl ?_); refine box_event ?hg (N := 7) ?hd (cs := #[.slice (some ⟨gw, 0, none⟩) ws.length cW, .int .i64 y, .int .i64 t, .int .i64 o, .slice (some ⟨gc, 0, none⟩) cards.length cC]) (t := 27) ?hr ?_; (case hd => rfl); (case hg => rfl); (case hr => first | (go_simp; done) | (go_simp; rfl)); intro gp hg w1 hbox hb; have BP := Aside0.mk hbox; have HCh := Aside0.mk ((Ch.refl (fun k => (k = gw ∨ k = gc) ∨ k = g) w).below hb); have HGp := Aside0.mk (show w.heap.size ≤ gp by rw [hg]; exact Nat.le_refl _); have HC0 := Aside0.mk ((Ch.refl (fun _ => False) w).below hb); clear hb hbox hg) | ((with_reducible refine gate_dst (N := 10) rfl ?_); refine box_event ?hg (N := 10) ?hd (cs := #[.slice none 0 0, .int .i64 0, .int .i64 0, .int .i64 0, .slice none 0 0]) (t := 27) ?hr ?_; (case hd => rfl); (case hg => rfl); (case hr => first | (go_simp; done) | (go_simp; rfl)); intro gr hg w2 hbox hb; have BR := Aside0.mk hbox; have HGr := Aside0.mk (show w.heap.size ≤ gr ∧ gp < gr by have := HCh.out.size; have := blk_lt BP.out; rw [hg]; exact ⟨by omega, by omega⟩); replace BP := Aside0.mk (blk_below BP.out hb); replace HCh := Aside0.mk (HCh.out.below hb); replace HC0 := Aside0.mk (HC0.out.below hb); have HO2 := Aside0.mk (HO.out.ch HC0.out (fun h => h) (fun h => h)); have HI2 := Aside0.mk (HI.out.ch HC0.out (fun h => h) (fun _ h => h.elim)); have c0 := (blk_cell BP.out 0).trans rfl; have c1 := (blk_cell BP.out 1).trans rfl; have c2 := (blk_cell BP.out 2).trans rfl; have c3 := (blk_cell BP.out 3).trans rfl; have c4 := (blk_cell BP.out 4).trans rfl; clear hb hbox hg) | (go_at_call 44; refine (spec_l21Refs.calls 200 A cA cs (some ⟨gw, 0, none⟩) cW ws (a1) R _ (HC.out _ HCh.out.kept) HCA.out (Kd.R_reads' HO2.out.hw).2.2 (Kd.R_reads' HO2.out.hw).2.1 HRe.out).mono ?_; rintro e w3 ⟨vR, rfl, hv, hb⟩; have HV3 := Aside0.mk (show Kd.R Kd.bool 4 w3 w2.heap.size (fun _ => True) vR R from hv); have HCh3 := Aside0.mk (HCh.out.below hb); have HO3 := Aside0.mk (HO2.out.ch ((Ch.refl (fun _ => False) _).below hb) (fun h => h) (fun h => h)); have HI3 := Aside0.mk (HI2.out.below hb); have BP3 := Aside0.mk (blk_below BP.out hb); have BR3 := Aside0.mk (blk_below BR.out hb); have HZ := Aside0.mk (show w.heap.size ≤ w2.heap.size ∧ gp < w2.heap.size ∧ gr < w2.heap.size from ⟨HCh.out.size, blk_lt BP.out, blk_lt BR.out⟩); clear hv hb HCh HO2 HI2 BP BR HC0; obtain ⟨bR, hbR⟩ : ∃ z, z = w2.heap.size := ⟨_, rfl⟩; rw [← hbR] at HV3 HZ; clear hbR; obtain ⟨AR, cR, eR⟩ := Kd.R_slice HV3.out; subst eR; clear c0 c1 c2 c3 c4; have c0 := (blk_cell BP3.out 0).trans rfl; have c1 := (blk_cell BP3.out 1).trans rfl; have c2 := (blk_cell BP3.out 2).trans rfl; have c3 := (blk_cell BP3.out 3).trans rfl; have c4 := (blk_cell BP3.out 4).trans rfl; obtain ⟨x0, f0⟩ := HO3.out.wcell (a1) H2.out.1.1 H2.out.1.2) | (go_at_call 65; refine (spec_l21Head.calls (rd ws (a1)) hd _ HHd.out).mono ?_; rintro e w' ⟨rfl, ⟨nd, rfl⟩⟩))
  go_loopw [12] (fun v12 wr => ∃ (x : Int) (ws' : List Int) (cards' : List Bool), v12 = .int .i64 x ∧ Aside0 (1 ≤ x ∧ x ≤ R.length + 2) ∧ Aside0 (ws'.length = ws.length ∧ cards'.length = cards.length) ∧ Aside0 (OM b gw cW gc cC wr ws' cards') ∧ Aside0 (Kd.R Kd.bool 4 wr bR (fun _ => True) (.slice AR R.length cR) R) ∧ Aside0 (wr.heap[gp]? = some (.cells #[.slice (some ⟨gw, 0, none⟩) ws'.length cW, .int .i64 y, .int .i64 t, .int .i64 o, .slice (some ⟨gc, 0, none⟩) cards'.length cC] 27 (0, 0))) ∧ Aside0 (wr.heap[gr]? = some (.cells #[.slice none 0 0, .int .i64 0, .int .i64 0, .int .i64 0, .slice none 0 0] 27 (0, 0))) ∧ Aside0 (Rdr (M + 4 * x) w0 wr g) ∧ Aside0 (Ch (fun k => (k = gw ∨ k = gc) ∨ k = g) w wr)) (fun v12 _ => (R.length - intOf v12).toNat)
  case atStart => exact ⟨hd, ws, cards, rfl, ⟨by have := Hhd.out; omega⟩, ⟨rfl, rfl⟩, ⟨HO3.out.ch ((Ch.refl (fun _ => False) _).drewN nd) (fun h => h) (fun h => h)⟩, ⟨Kd.R_drewN HV3.out nd⟩, ⟨blk_drewN BP3.out nd⟩, ⟨blk_drewN BR3.out nd⟩, ⟨(HI3.out.drewN nd).le (by have := Hhd.out; omega)⟩, ⟨HCh3.out.drewN nd⟩⟩
  case round =>
   clear HO3 HV3 BP3 BR3 HI3 HCh3 x0 f0 c0 c1 c2 c3 c4
   obtain ⟨x, ws', cards', rfl, HX, HLn, HO, HV, BP, BR, HI, HCh⟩ := hrel
   by_cases cx : x < R.length
   ·have d1 : decide (x < (R.length : Int)) = true := decide_eq_true cx
    have HXx := Aside0.mk (show (1 ≤ x ∧ x < R.length) by have := HX.out; omega)
    have p3 := eq_true (show 0 ≤ x by have := HX.out; omega)
    have p4 := eq_true cx
    clear cx HX
    go_wp2_with fail
    go_at_call 38
    refine (word_any _ g w0 _ HI.out (by have := HM.out; have := H2.out; have := HXx.out; omega)).mono ?_
    rintro e w4 ⟨z, rfl, hi, hk⟩
    have hst := HI.out.step hi hk
    have HO4 := Aside0.mk (HO.out.ch hst (by have := HGW.out; omega) (by have := HGW.out; omega))
    have HV4 := Aside0.mk (Kd.R_mono (hst.R (Kd.R_bound HV.out) (fun k hk => by have := HZ.out; have := HGW.out; omega)) (fun _ _ => trivial))
    have BP4 := Aside0.mk (hst.blk BP.out z20)
    have BR4 := Aside0.mk (hst.blk BR.out z14)
    have HI4 := Aside0.mk hi
    have HCh4 := Aside0.mk (HCh.out.trans hst (fun k h => .inl (.inr h)))
    clear hst hi hk HO HV BP BR HI HCh
    obtain ⟨gR, cap, hv, _, _, _⟩ := Kd.R_form HV4.out (by have := HXx.out; omega)
    injection hv with e1 e2 e3
    subst e1 e3
    clear e2
    obtain ⟨r0, _⟩ := Kd.R_cell (enc := Value.bool) (h1 := fun _ => rfl) false HV4.out x (by have := HXx.out; omega) HXx.out.2
    cases hb : rdOf false R x with
    | false =>
     rw [hb] at r0
     have HF := Aside0.mk hb
     clear hb
     go_wp2_with fail
     go_at_call 39
     refine (pick_any _ g 3 w0 _ HI4.out (by have := HM.out; have := H2.out; have := HXx.out; omega) (by omega) (by omega)).mono ?_
     rintro e w6 ⟨q, rfl, hq, hi, hk⟩
     clear r0
     have hst := HI4.out.step hi hk
     have HO6 := Aside0.mk (HO4.out.ch hst (by have := HGW.out; omega) (by have := HGW.out; omega))
     have HV6 := Aside0.mk (Kd.R_mono (hst.R (Kd.R_bound HV4.out) (fun k hk => by have := HZ.out; have := HGW.out; omega)) (fun _ _ => trivial))
     have BP6 := Aside0.mk (hst.blk BP4.out z20)
     have BR6 := Aside0.mk (hst.blk BR4.out z14)
     have HI6 := Aside0.mk hi
     have HCh6 := Aside0.mk (HCh4.out.trans hst (fun k h => .inl (.inr h)))
     clear hst hi hk HO4 HV4 BP4 BR4 HI4 HCh4
     by_cases cq : 0 < q
     ·have d2 : decide (0 < q) = true := decide_eq_true cq
      clear cq hq
      have q4 : IntKind.i64.wrap (a1 + x) = a1 + x := IntWalk.i64_in _ (by have := HXx.out; have := H2.out; have := H1.out; omega)
      go_wp2
      replace HO6 := Aside0.mk (HO6.out.ch (Ch.drew (Ch.refl (fun _ => False) _)) (fun h => h) (fun h => h))
      replace HV6 := Aside0.mk (Kd.R_drew HV6.out)
      replace BP6 := Aside0.mk (blk_drew BP6.out)
      replace BR6 := Aside0.mk (blk_drew BR6.out)
      replace HI6 := Aside0.mk HI6.out.drew
      replace HCh6 := Aside0.mk HCh6.out.drew
      have r1 := (Kd.R_cell (enc := Value.bool) (h1 := fun _ => rfl) false HV6.out x (by have := HXx.out; omega) HXx.out.2).1
      rw [HF.out] at r1
      refine start_ (n := 12) (S := fun w' => w'.cell? ⟨gp, 0, none⟩ = some (.slice (some ⟨gw, 0, none⟩) ws'.length cW) ∧ w'.cell? ⟨gp, 1, none⟩ = some (.int .i64 y) ∧ w'.cell? ⟨gp, 2, none⟩ = some (.int .i64 t) ∧ w'.cell? ⟨gp, 3, none⟩ = some (.int .i64 o) ∧ w'.cell? ⟨gp, 4, none⟩ = some (.slice (some ⟨gc, 0, none⟩) cards'.length cC) ∧ w'.cell? ⟨gR, x.toNat, none⟩ = some (.bool false)) (ds := [11]) #[false, false, false, false, false, false, false, false, false, false, false, false] (by kernel_rfl) rfl rfl ⟨(blk_cell BP6.out 0).trans rfl, (blk_cell BP6.out 1).trans rfl, (blk_cell BP6.out 2).trans rfl, (blk_cell BP6.out 3).trans rfl, (blk_cell BP6.out 4).trans rfl, r1⟩ (fun hHeld => ?_)
      generalize w6.drew = w6a at HO6 HV6 BP6 BR6 HI6 HCh6 r1 hHeld ⊢
      refine pS 1 53 (lA 12 2) ?_
      refine pS 2 54 (lA 12 6) ?_
      refine pS 3 55 (lA 12 14) ?_
      refine pS 4 56 (lA 12 30) ?_
      refine pS 5 57 (lA 12 62) ?_
      refine pS 6 58 (lA 12 126) ?_
      refine pS 7 59 (lA 12 254) ?_
      refine pS 8 60 (lA 12 510) ?_
      refine tS 0 52 (lA 12 511) rfl rfl (by kernel_rfl) hHeld z4 ?_
      refine tS 9 61 (lA 12 1023) rfl rfl (by kernel_rfl) hHeld z4 ?_
      refine one_ (i := 10) (N := some 62) (lA 12 2047) rfl rfl (by kernel_rfl) (by decide) (fun K hK => ?_)
      refine goes_ Try.func47 (by kernel_rfl) rfl #[.agg #[.slice (some ⟨gw, 0, none⟩) ws'.length cW, .int .i64 y, .int .i64 t, .int .i64 o, .slice (some ⟨gc, 0, none⟩) cards'.length cC], .int .i64 (a1 + x), .int .i64 z, .bool false] (by rfl) rfl rfl z5 ?_
      with_reducible refine (put_any b gw cW gc cC ws' y t o cards' (a1 + x) z false _ HO6.out (by have := HLn.out; have := H1.out; omega) (by have := H2.out; have := HXx.out; omega) (by have := H2.out; have := HXx.out; have := HLn.out; omega) H1.out.2.2.1 (by have := H2.out; have := H1.out; have := HXx.out; have := HLn.out; omega)).mono ?_
      rintro e w7 ⟨rfl, hO, hc⟩
      refine ⟨_, rfl, ?_⟩
      have HO7 := Aside0.mk hO
      have HV7 := Aside0.mk (Kd.R_mono (hc.R (Kd.R_bound HV6.out) (fun k hk => by have := HZ.out; have := HGW.out; omega)) (fun _ _ => trivial))
      have BP7 := Aside0.mk (hc.blk BP6.out z20)
      have BR7 := Aside0.mk (hc.blk BR6.out z14)
      have HI7 := Aside0.mk (HI6.out.ch hc (by have := HGW.out; omega) (fun k hk => by have := HGW.out; omega))
      have HCh7 := Aside0.mk (HCh6.out.trans hc (fun k h => .inl (.inl h)))
      have HPm := Aside0.mk (show (putM ws' y cards' (a1 + x) z false).1.length = ws'.length ∧ (putM ws' y cards' (a1 + x) z false).2.length = cards'.length by unfold putM; dsimp only; rw [List.length_set]; refine ⟨rfl, ?_⟩; split <;> simp)
      clear hO hc HO6 HV6 BP6 BR6 HI6 HCh6 r1
      have c0 := (blk_cell BP7.out 0).trans rfl
      have c1 := (blk_cell BP7.out 1).trans rfl
      have c2 := (blk_cell BP7.out 2).trans rfl
      have c3 := (blk_cell BP7.out 3).trans rfl
      have c4 := (blk_cell BP7.out 4).trans rfl
      have y0 := blk_frozen BP7.out 0
      have y1 := blk_frozen BP7.out 1
      have y2 := blk_frozen BP7.out 2
      have y3 := blk_frozen BP7.out 3
      have y4 := blk_frozen BP7.out 4
      refine hK.out _ _ ⟨c0, c1, c2, c3, c4, (by have h_ := (Kd.R_cell (enc := Value.bool) (h1 := fun _ => rfl) false HV7.out x (by have := HXx.out; omega) HXx.out.2).1; rw [HF.out] at h_; exact h_)⟩ (fun hHeld => ?_)
      clear hK K
      refine norm_ (a' := ?_) ?_ ?_
      rotate_left
      ·show Act.put _ (some 62) _ = _
       simp only [Act.put, lA1, lA2, lA3, i64_w, i32_w]
       rfl
      refine last_ (i := 11) (N := none) (lA 12 4095) rfl rfl (by kernel_rfl) (by decide) (fun K hK => ?_)
      refine skip_ (w1 := ?_) (by rfl) rfl ?_ ?_
      rotate_left
      ·go_simp
       rfl
      refine hK.out _ _ ?_
      clear hK K
      refine done_ (by kernel_rfl) ?_
      have HO8 := Aside0.mk (HO7.out.ch (Ch.box5 (Ch.refl (fun k => k = gp) _) (.inl rfl) (.slice (some ⟨gw, 0, none⟩) ws'.length cW) (.int .i64 y) (.int .i64 t) (.int .i64 o) (.slice (some ⟨gc, 0, none⟩) cards'.length cC)) z20 z20)
      have HV8 := Aside0.mk (Kd.R_mono ((Ch.box5 (Ch.refl (fun k => k = gp) _) (.inl rfl) (.slice (some ⟨gw, 0, none⟩) ws'.length cW) (.int .i64 y) (.int .i64 t) (.int .i64 o) (.slice (some ⟨gc, 0, none⟩) cards'.length cC)).R (Kd.R_bound HV7.out) (fun k hk => by have := HZ.out; omega)) (fun _ _ => trivial))
      have BP8 := Aside0.mk (show (memBox w7 gp (.slice (some ⟨gw, 0, none⟩) ws'.length cW) (.int .i64 y) (.int .i64 t) (.int .i64 o) (.slice (some ⟨gc, 0, none⟩) cards'.length cC)).heap[gp]? = some (.cells #[.slice (some ⟨gw, 0, none⟩) (putM ws' y cards' (a1 + x) z false).1.length cW, .int .i64 y, .int .i64 t, .int .i64 o, .slice (some ⟨gc, 0, none⟩) (putM ws' y cards' (a1 + x) z false).2.length cC] 27 (0, 0)) by rw [HPm.out.1, HPm.out.2]; exact blk_box5 BP7.out)
      have BR8 := Aside0.mk ((Ch.box5 (Ch.refl (fun k => k = gp) _) (.inl rfl) (.slice (some ⟨gw, 0, none⟩) ws'.length cW) (.int .i64 y) (.int .i64 t) (.int .i64 o) (.slice (some ⟨gc, 0, none⟩) cards'.length cC)).blk BR7.out (by have := HGr.out; omega))
      have HI8 := Aside0.mk (HI7.out.ch (Ch.box5 (Ch.refl (fun k => k = gp) _) (.inl rfl) (.slice (some ⟨gw, 0, none⟩) ws'.length cW) (.int .i64 y) (.int .i64 t) (.int .i64 o) (.slice (some ⟨gc, 0, none⟩) cards'.length cC)) z20 (fun k hk => by have := HGp.out; have := HGW.out; omega))
      have HCh8 := Aside0.mk (HCh7.out.box5 (.inr HGp.out) (.slice (some ⟨gw, 0, none⟩) ws'.length cW) (.int .i64 y) (.int .i64 t) (.int .i64 o) (.slice (some ⟨gc, 0, none⟩) cards'.length cC))
      clear HO7 HV7 BP7 BR7 HI7 HCh7 c0 c1 c2 c3 c4 y0 y1 y2 y3 y4
      go_wp2
      have q7 : wrap64 (x + 1) = x + 1 := by have := HXx.out; have := H2.out; unfold wrap64; omega
      go_roundw
      case rel => exact ⟨x + 1, (putM ws' y cards' (a1 + x) z false).1, (putM ws' y cards' (a1 + x) z false).2, by rw [q7], ⟨by have := HXx.out; omega⟩, ⟨by rw [HPm.out.1]; exact HLn.out.1, by rw [HPm.out.2]; exact HLn.out.2⟩, HO8, ⟨HV8.out⟩, BP8, BR8, ⟨HI8.out.le (by omega)⟩, HCh8⟩
      case measure => rw [q7]; have := HXx.out; simp only [intOf]; omega
     ·have d2 : decide (0 < q) = false := decide_eq_false cq
      clear cq hq
      go_wp2
      have q7 : wrap64 (x + 1) = x + 1 := by have := HXx.out; have := H2.out; unfold wrap64; omega
      go_roundw
      case rel => exact ⟨x + 1, ws', cards', by rw [q7], ⟨by have := HXx.out; omega⟩, ⟨HLn.out.1, HLn.out.2⟩, HO6, ⟨HV6.out⟩, BP6, BR6, ⟨HI6.out.le (by omega)⟩, HCh6⟩
      case measure => rw [q7]; have := HXx.out; simp only [intOf]; omega
    | true =>
     rw [hb] at r0
     have HF := Aside0.mk hb
     clear hb
     go_wp2_with fail
     go_at_call 39
     refine (pick_any _ g pl.length w0 _ HI4.out (by have := HM.out; have := H2.out; have := HXx.out; omega) (by have := HPL.out; omega) (by have := HPL.out; omega)).mono ?_
     rintro e w5 ⟨pz, rfl, hpz, hi, hk⟩
     clear r0
     have hst := HI4.out.step hi hk
     have HO5 := Aside0.mk (HO4.out.ch hst (by have := HGW.out; omega) (by have := HGW.out; omega))
     have HV5 := Aside0.mk (Kd.R_mono (hst.R (Kd.R_bound HV4.out) (fun k hk => by have := HZ.out; have := HGW.out; omega)) (fun _ _ => trivial))
     have BP5 := Aside0.mk (hst.blk BP4.out z20)
     have BR5 := Aside0.mk (hst.blk BR4.out z14)
     have HI5 := Aside0.mk hi
     have HCh5 := Aside0.mk (HCh4.out.trans hst (fun k h => .inl (.inr h)))
     clear hst hi hk HO4 HV4 BP4 BR4 HI4 HCh4
     have HPz := Aside0.mk hpz
     have p5 := eq_true hpz.1
     have p6 := eq_true hpz.2
     obtain ⟨adp, ep, hxp⟩ := Kd.at_int (HP.out _ HCh5.out.kept) pz hpz.1 hpz.2
     cases ep
     clear hpz
     obtain ⟨u, hu⟩ : ∃ u, u = rd pl pz := ⟨_, rfl⟩
     rw [← hu] at hxp
     clear hu
     go_wp2_with fail
     go_at_call 39
     refine (pick_any _ g 3 w0 _ HI5.out (by have := HM.out; have := H2.out; have := HXx.out; omega) (by omega) (by omega)).mono ?_
     rintro e w6 ⟨q, rfl, hq, hi, hk⟩
     clear hxp
     have hst := HI5.out.step hi hk
     have HO6 := Aside0.mk (HO5.out.ch hst (by have := HGW.out; omega) (by have := HGW.out; omega))
     have HV6 := Aside0.mk (Kd.R_mono (hst.R (Kd.R_bound HV5.out) (fun k hk => by have := HZ.out; have := HGW.out; omega)) (fun _ _ => trivial))
     have BP6 := Aside0.mk (hst.blk BP5.out z20)
     have BR6 := Aside0.mk (hst.blk BR5.out z14)
     have HI6 := Aside0.mk hi
     have HCh6 := Aside0.mk (HCh5.out.trans hst (fun k h => .inl (.inr h)))
     clear hst hi hk HO5 HV5 BP5 BR5 HI5 HCh5
     by_cases cq : 0 < q
     ·have d2 : decide (0 < q) = true := decide_eq_true cq
      clear cq hq
      have q4 : IntKind.i64.wrap (a1 + x) = a1 + x := IntWalk.i64_in _ (by have := HXx.out; have := H2.out; have := H1.out; omega)
      go_wp2
      replace HO6 := Aside0.mk (HO6.out.ch (Ch.drew (Ch.refl (fun _ => False) _)) (fun h => h) (fun h => h))
      replace HV6 := Aside0.mk (Kd.R_drew HV6.out)
      replace BP6 := Aside0.mk (blk_drew BP6.out)
      replace BR6 := Aside0.mk (blk_drew BR6.out)
      replace HI6 := Aside0.mk HI6.out.drew
      replace HCh6 := Aside0.mk HCh6.out.drew
      have r1 := (Kd.R_cell (enc := Value.bool) (h1 := fun _ => rfl) false HV6.out x (by have := HXx.out; omega) HXx.out.2).1
      rw [HF.out] at r1
      refine start_ (n := 12) (S := fun w' => w'.cell? ⟨gp, 0, none⟩ = some (.slice (some ⟨gw, 0, none⟩) ws'.length cW) ∧ w'.cell? ⟨gp, 1, none⟩ = some (.int .i64 y) ∧ w'.cell? ⟨gp, 2, none⟩ = some (.int .i64 t) ∧ w'.cell? ⟨gp, 3, none⟩ = some (.int .i64 o) ∧ w'.cell? ⟨gp, 4, none⟩ = some (.slice (some ⟨gc, 0, none⟩) cards'.length cC) ∧ w'.cell? ⟨gR, x.toNat, none⟩ = some (.bool true)) (ds := [11]) #[false, false, false, false, false, false, false, false, false, false, false, false] (by kernel_rfl) rfl rfl ⟨(blk_cell BP6.out 0).trans rfl, (blk_cell BP6.out 1).trans rfl, (blk_cell BP6.out 2).trans rfl, (blk_cell BP6.out 3).trans rfl, (blk_cell BP6.out 4).trans rfl, r1⟩ (fun hHeld => ?_)
      generalize w6.drew = w6a at HO6 HV6 BP6 BR6 HI6 HCh6 r1 hHeld ⊢
      refine pS 1 53 (lA 12 2) ?_
      refine pS 2 54 (lA 12 6) ?_
      refine pS 3 55 (lA 12 14) ?_
      refine pS 4 56 (lA 12 30) ?_
      refine pS 5 57 (lA 12 62) ?_
      refine pS 6 58 (lA 12 126) ?_
      refine pS 7 59 (lA 12 254) ?_
      refine pS 8 60 (lA 12 510) ?_
      refine tS 0 52 (lA 12 511) rfl rfl (by kernel_rfl) hHeld z4 ?_
      refine tS 9 61 (lA 12 1023) rfl rfl (by kernel_rfl) hHeld z4 ?_
      refine one_ (i := 10) (N := some 62) (lA 12 2047) rfl rfl (by kernel_rfl) (by decide) (fun K hK => ?_)
      refine goes_ Try.func47 (by kernel_rfl) rfl #[.agg #[.slice (some ⟨gw, 0, none⟩) ws'.length cW, .int .i64 y, .int .i64 t, .int .i64 o, .slice (some ⟨gc, 0, none⟩) cards'.length cC], .int .i64 (a1 + x), .int .i64 u, .bool true] (by rfl) rfl rfl z5 ?_
      with_reducible refine (put_any b gw cW gc cC ws' y t o cards' (a1 + x) u true _ HO6.out (by have := HLn.out; have := H1.out; omega) (by have := H2.out; have := HXx.out; omega) (by have := H2.out; have := HXx.out; have := HLn.out; omega) H1.out.2.2.1 (by have := H2.out; have := H1.out; have := HXx.out; have := HLn.out; omega)).mono ?_
      rintro e w7 ⟨rfl, hO, hc⟩
      refine ⟨_, rfl, ?_⟩
      have HO7 := Aside0.mk hO
      have HV7 := Aside0.mk (Kd.R_mono (hc.R (Kd.R_bound HV6.out) (fun k hk => by have := HZ.out; have := HGW.out; omega)) (fun _ _ => trivial))
      have BP7 := Aside0.mk (hc.blk BP6.out z20)
      have BR7 := Aside0.mk (hc.blk BR6.out z14)
      have HI7 := Aside0.mk (HI6.out.ch hc (by have := HGW.out; omega) (fun k hk => by have := HGW.out; omega))
      have HCh7 := Aside0.mk (HCh6.out.trans hc (fun k h => .inl (.inl h)))
      have HPm := Aside0.mk (show (putM ws' y cards' (a1 + x) u true).1.length = ws'.length ∧ (putM ws' y cards' (a1 + x) u true).2.length = cards'.length by unfold putM; dsimp only; rw [List.length_set]; refine ⟨rfl, ?_⟩; split <;> simp)
      clear hO hc HO6 HV6 BP6 BR6 HI6 HCh6 r1
      have c0 := (blk_cell BP7.out 0).trans rfl
      have c1 := (blk_cell BP7.out 1).trans rfl
      have c2 := (blk_cell BP7.out 2).trans rfl
      have c3 := (blk_cell BP7.out 3).trans rfl
      have c4 := (blk_cell BP7.out 4).trans rfl
      have y0 := blk_frozen BP7.out 0
      have y1 := blk_frozen BP7.out 1
      have y2 := blk_frozen BP7.out 2
      have y3 := blk_frozen BP7.out 3
      have y4 := blk_frozen BP7.out 4
      refine hK.out _ _ ⟨c0, c1, c2, c3, c4, (by have h_ := (Kd.R_cell (enc := Value.bool) (h1 := fun _ => rfl) false HV7.out x (by have := HXx.out; omega) HXx.out.2).1; rw [HF.out] at h_; exact h_)⟩ (fun hHeld => ?_)
      clear hK K
      refine norm_ (a' := ?_) ?_ ?_
      rotate_left
      ·show Act.put _ (some 62) _ = _
       simp only [Act.put, lA1, lA2, lA3, i64_w, i32_w]
       rfl
      refine last_ (i := 11) (N := none) (lA 12 4095) rfl rfl (by kernel_rfl) (by decide) (fun K hK => ?_)
      refine skip_ (w1 := ?_) (by rfl) rfl ?_ ?_
      rotate_left
      ·go_simp
       rfl
      refine hK.out _ _ ?_
      clear hK K
      refine done_ (by kernel_rfl) ?_
      have HO8 := Aside0.mk (HO7.out.ch (Ch.box5 (Ch.refl (fun k => k = gp) _) (.inl rfl) (.slice (some ⟨gw, 0, none⟩) ws'.length cW) (.int .i64 y) (.int .i64 t) (.int .i64 o) (.slice (some ⟨gc, 0, none⟩) cards'.length cC)) z20 z20)
      have HV8 := Aside0.mk (Kd.R_mono ((Ch.box5 (Ch.refl (fun k => k = gp) _) (.inl rfl) (.slice (some ⟨gw, 0, none⟩) ws'.length cW) (.int .i64 y) (.int .i64 t) (.int .i64 o) (.slice (some ⟨gc, 0, none⟩) cards'.length cC)).R (Kd.R_bound HV7.out) (fun k hk => by have := HZ.out; omega)) (fun _ _ => trivial))
      have BP8 := Aside0.mk (show (memBox w7 gp (.slice (some ⟨gw, 0, none⟩) ws'.length cW) (.int .i64 y) (.int .i64 t) (.int .i64 o) (.slice (some ⟨gc, 0, none⟩) cards'.length cC)).heap[gp]? = some (.cells #[.slice (some ⟨gw, 0, none⟩) (putM ws' y cards' (a1 + x) u true).1.length cW, .int .i64 y, .int .i64 t, .int .i64 o, .slice (some ⟨gc, 0, none⟩) (putM ws' y cards' (a1 + x) u true).2.length cC] 27 (0, 0)) by rw [HPm.out.1, HPm.out.2]; exact blk_box5 BP7.out)
      have BR8 := Aside0.mk ((Ch.box5 (Ch.refl (fun k => k = gp) _) (.inl rfl) (.slice (some ⟨gw, 0, none⟩) ws'.length cW) (.int .i64 y) (.int .i64 t) (.int .i64 o) (.slice (some ⟨gc, 0, none⟩) cards'.length cC)).blk BR7.out (by have := HGr.out; omega))
      have HI8 := Aside0.mk (HI7.out.ch (Ch.box5 (Ch.refl (fun k => k = gp) _) (.inl rfl) (.slice (some ⟨gw, 0, none⟩) ws'.length cW) (.int .i64 y) (.int .i64 t) (.int .i64 o) (.slice (some ⟨gc, 0, none⟩) cards'.length cC)) z20 (fun k hk => by have := HGp.out; have := HGW.out; omega))
      have HCh8 := Aside0.mk (HCh7.out.box5 (.inr HGp.out) (.slice (some ⟨gw, 0, none⟩) ws'.length cW) (.int .i64 y) (.int .i64 t) (.int .i64 o) (.slice (some ⟨gc, 0, none⟩) cards'.length cC))
      clear HO7 HV7 BP7 BR7 HI7 HCh7 c0 c1 c2 c3 c4 y0 y1 y2 y3 y4
      go_wp2
      have q7 : wrap64 (x + 1) = x + 1 := by have := HXx.out; have := H2.out; unfold wrap64; omega
      go_roundw
      case rel => exact ⟨x + 1, (putM ws' y cards' (a1 + x) u true).1, (putM ws' y cards' (a1 + x) u true).2, by rw [q7], ⟨by have := HXx.out; omega⟩, ⟨by rw [HPm.out.1]; exact HLn.out.1, by rw [HPm.out.2]; exact HLn.out.2⟩, HO8, ⟨HV8.out⟩, BP8, BR8, ⟨HI8.out.le (by omega)⟩, HCh8⟩
      case measure => rw [q7]; have := HXx.out; simp only [intOf]; omega
     ·have d2 : decide (0 < q) = false := decide_eq_false cq
      clear cq hq
      go_wp2
      have q7 : wrap64 (x + 1) = x + 1 := by have := HXx.out; have := H2.out; unfold wrap64; omega
      go_roundw
      case rel => exact ⟨x + 1, ws', cards', by rw [q7], ⟨by have := HXx.out; omega⟩, ⟨HLn.out.1, HLn.out.2⟩, HO6, ⟨HV6.out⟩, BP6, BR6, ⟨HI6.out.le (by omega)⟩, HCh6⟩
      case measure => rw [q7]; have := HXx.out; simp only [intOf]; omega
   ·have d1 : decide (x < (R.length : Int)) = false := decide_eq_false cx
    have HXx := Aside0.mk (show x ≤ R.length + 2 from HX.out.2)
    clear cx HX
    have c0 := (blk_cell BP.out 0).trans rfl; have c1 := (blk_cell BP.out 1).trans rfl; have c2 := (blk_cell BP.out 2).trans rfl; have c3 := (blk_cell BP.out 3).trans rfl; have c4 := (blk_cell BP.out 4).trans rfl
    have z0 := (blk_cell BR.out 0).trans rfl; have z1 := (blk_cell BR.out 1).trans rfl; have z2 := (blk_cell BR.out 2).trans rfl; have z3 := (blk_cell BR.out 3).trans rfl; have z4 := (blk_cell BR.out 4).trans rfl
    have y_0 := blk_frozen BR.out 0; have y_1 := blk_frozen BR.out 1; have y_2 := blk_frozen BR.out 2; have y_3 := blk_frozen BR.out 3; have y_4 := blk_frozen BR.out 4
    go_wp2
    refine bodyPost_ret (results_cell_row rfl _ _ gr 27 #[.slice (some ⟨gw, 0, none⟩) ws'.length cW, .int .i64 y, .int .i64 t, .int .i64 o, .slice (some ⟨gc, 0, none⟩) cards'.length cC] (0, 0) _ rfl (blk_box5 BR.out) Try.underlying27 rfl (by kernel_rfl)) rfl ?_
    exact ⟨ws', cards', by rw [HLn.out.1, HLn.out.2], HLn.out, HO.out.ch (Ch.box5 (Ch.refl (fun k => k = gr) _) (.inl rfl) _ _ _ _ _) z14 z14, (HI.out.ch (Ch.box5 (Ch.refl (fun k => k = gr) _) (.inl rfl) _ _ _ _ _) z14 (fun k hk => by have := HGr.out; have := HGW.out; omega)).le (by have := HXx.out; have := H2.out; omega), HCh.out.box5 (.inr HGr.out.1) _ _ _ _ _⟩
end Go.Proofs.Ytfbkpjjnhengfaa.K
namespace Go.Proofs.Ytfbkpjjnhengfaa.K
open Go.RowKit Go.Proofs.YtfbkpjjnhengfaaW.PrintWords Go.Proofs.YtfbkpjjnhengfaaW.PrintLast Go.Proofs.YtfbkpjjnhengfaaW.PrintMore
attribute [local go_sem] max2_int min2_int max_two min_two max_three min_three max_four min_four
set_option linter.unusedVariables false
set_option linter.unusedSimpArgs false
def spec_l21Want.f (k : Nat) (l0 : List (S99)) (a1 : Int) (a2 : Int) : Option (Int) := (spec_l6In.f a1 0 (wrap64 ((l0.length : Int) - 1))).bind fun t132 => (if t132 = true then ((spec_l2Fields.f k l0 a1).bind fun t133 => (some (wrap64 (1 + (t133.length : Int))))) else (if a1 = (-1) then ((spec_l6In.f a2 0 6).bind fun t136 => (if t136 = true then (some (wrap64 (2 + a2))) else (some 0))) else (if a1 = (-2) then ((spec_l6In.f a2 0 6).bind fun t137 => (if t137 = true then (some (wrap64 (2 + a2))) else (some 0))) else (some 0))))
set_option maxHeartbeats 8000000 in
set_option maxRecDepth 100000 in
theorem spec_l21Want.calls (k : Nat) (A0 : Option Addr) (c0 : Nat) (l0 : List (S99)) (a1 : Int) (a2 : Int) (r : Int) (w : World) (hr0 : Kd.C k99 w A0 l0.length l0) (hc0 : l0.length ≤ c0) (h : spec_l21Want.f k l0 a1 a2 = some r) :
  Calls Try.prog 52 #[.slice A0 l0.length c0, .int .i64 a1, .int .i64 a2] w fun e w' => e = .returned (.int .i64 r) ∧ Below w.heap.size w w' := by
 have HR0 := Aside0.mk hr0
 have HC0 := Aside0.mk hc0
 clear hr0 hc0
 have HB := Aside0.mk (Below.refl w.heap.size w)
 have H : ((spec_l6In.f a1 0 (wrap64 ((l0.length : Int) - 1))).bind fun t132 => (if t132 = true then ((spec_l2Fields.f k l0 a1).bind fun t133 => (some (wrap64 (1 + (t133.length : Int))))) else (if a1 = (-1) then ((spec_l6In.f a2 0 6).bind fun t136 => (if t136 = true then (some (wrap64 (2 + a2))) else (some 0))) else (if a1 = (-2) then ((spec_l6In.f a2 0 6).bind fun t137 => (if t137 = true then (some (wrap64 (2 + a2))) else (some 0))) else (some 0))))) = some r := h
 clear h
 replace H := Option.bind_eq_some_iff.mp H
 obtain ⟨t132, A40, H⟩ := H
 try dsimp only at H
 have A4 := Aside0.mk A40
 clear A40
 by_cases c5 : t132 = true
 ·subst c5
  rw [if_pos rfl] at H
  replace H := Option.bind_eq_some_iff.mp H
  obtain ⟨t133, A60, H⟩ := H
  try dsimp only at H
  have A6 := Aside0.mk A60
  clear A60
  obtain rfl := Option.some.inj H
  go_enter Try.func52, Try.ntmps52
  go_wp2_with (first | ((with_reducible refine gate_callee (f := 63) rfl ?_); refine goesL_ (some 12) rfl rfl Try.func63 (by kernel_rfl) rfl #[.int .i64 a1, .int .i64 0, .int .i64 (wrap64 ((l0.length : Int) - 1))] rfl z1 ?_; (with_reducible refine (spec_l6In.calls a1 0 (wrap64 ((l0.length : Int) - 1)) true _ A4.out).mono ?_); rintro e w' ⟨rfl, ⟨nd, rfl⟩⟩; refine ⟨_, rfl, ?_⟩) | ((with_reducible refine gate_callee (f := 78) rfl ?_); refine goesL_ (some 15) rfl rfl Try.func78 (by kernel_rfl) rfl #[.slice A0 l0.length c0, .int .i64 a1] rfl z1 ?_; (with_reducible refine (spec_l2Fields.calls k _ _ l0 a1 t133 _ ?side1 ?side2 A6.out).mono ?_); (case side1 => repeat (first | exact HR0.out | (with_reducible refine Kd.C_alloc ?_ _) | (with_reducible refine Kd.C_drewN ?_ _) | (with_reducible refine Kd.C_drew ?_))); (case side2 => exact HC0.out); rintro e w7 ⟨v134, rfl, ho0, hb⟩; refine ⟨_, rfl, ?_⟩; have HO135 := Aside0.mk (Kd.R_lower ho0 (below_size z2)); replace HB := Aside0.mk (below_step z2 hb); (try clear hb); (try clear hb2); (try clear hk); (try clear hi); (try clear ho0); obtain ⟨Ao8, co8, eo8⟩ := Kd.R_slice HO135.out; subst eo8))
  go_ret
  exact ⟨by first | rfl | (simp [errW_none, errW_some] <;> rfl) | (simp [*, errW_none, errW_some] <;> rfl), by repeat (first | (with_reducible first | exact HB.out | apply below_alloc | apply pw_below_drewN | apply below_drew1) | exact HB.out)⟩
 ·replace c5 := Bool.eq_false_iff.mpr c5
  subst c5
  rw [if_neg (show ¬ (false = true) by decide)] at H
  by_cases c9 : a1 = (-1)
  ·rw [if_pos c9] at H
   have c9b0 : (a1 == (-1)) = true := beq_iff_eq.mpr c9
   have c9b1 : (a1 != (-1)) = false := bne_eq_false_iff_eq.mpr c9
   clear c9
   replace H := Option.bind_eq_some_iff.mp H
   obtain ⟨t136, A100, H⟩ := H
   try dsimp only at H
   have A10 := Aside0.mk A100
   clear A100
   by_cases c11 : t136 = true
   ·subst c11
    rw [if_pos rfl] at H
    obtain rfl := Option.some.inj H
    go_enter Try.func52, Try.ntmps52
    go_wp2_with (first | ((with_reducible refine gate_callee (f := 63) rfl ?_); refine goesL_ (some 12) rfl rfl Try.func63 (by kernel_rfl) rfl #[.int .i64 a1, .int .i64 0, .int .i64 (wrap64 ((l0.length : Int) - 1))] rfl z1 ?_; (with_reducible refine (spec_l6In.calls a1 0 (wrap64 ((l0.length : Int) - 1)) false _ A4.out).mono ?_); rintro e w' ⟨rfl, ⟨nd, rfl⟩⟩; refine ⟨_, rfl, ?_⟩) | (go_at_call 63; (with_reducible refine (spec_l6In.calls a2 0 6 true _ A10.out).mono ?_); rintro e w' ⟨rfl, ⟨nd, rfl⟩⟩))
    go_ret
    exact ⟨by first | rfl | (simp [errW_none, errW_some] <;> rfl) | (simp [*, errW_none, errW_some] <;> rfl), by repeat (first | (with_reducible first | exact HB.out | apply below_alloc | apply pw_below_drewN | apply below_drew1) | exact HB.out)⟩
   ·replace c11 := Bool.eq_false_iff.mpr c11
    subst c11
    rw [if_neg (show ¬ (false = true) by decide)] at H
    obtain rfl := Option.some.inj H
    go_enter Try.func52, Try.ntmps52
    go_wp2_with (first | ((with_reducible refine gate_callee (f := 63) rfl ?_); refine goesL_ (some 12) rfl rfl Try.func63 (by kernel_rfl) rfl #[.int .i64 a1, .int .i64 0, .int .i64 (wrap64 ((l0.length : Int) - 1))] rfl z1 ?_; (with_reducible refine (spec_l6In.calls a1 0 (wrap64 ((l0.length : Int) - 1)) false _ A4.out).mono ?_); rintro e w' ⟨rfl, ⟨nd, rfl⟩⟩; refine ⟨_, rfl, ?_⟩) | (go_at_call 63; (with_reducible refine (spec_l6In.calls a2 0 6 false _ A10.out).mono ?_); rintro e w' ⟨rfl, ⟨nd, rfl⟩⟩))
    go_ret
    exact ⟨by first | rfl | (simp [errW_none, errW_some] <;> rfl) | (simp [*, errW_none, errW_some] <;> rfl), by repeat (first | (with_reducible first | exact HB.out | apply below_alloc | apply pw_below_drewN | apply below_drew1) | exact HB.out)⟩
  ·rw [if_neg c9] at H
   have c9b0 : (a1 == (-1)) = false := beq_eq_false_iff_ne.mpr c9
   have c9b1 : (a1 != (-1)) = true := bne_iff_ne.mpr c9
   by_cases c12 : a1 = (-2)
   ·rw [if_pos c12] at H
    have c12b0 : (a1 == (-2)) = true := beq_iff_eq.mpr c12
    have c12b1 : (a1 != (-2)) = false := bne_eq_false_iff_eq.mpr c12
    clear c12
    replace H := Option.bind_eq_some_iff.mp H
    obtain ⟨t137, A130, H⟩ := H
    try dsimp only at H
    have A13 := Aside0.mk A130
    clear A130
    by_cases c14 : t137 = true
    ·subst c14
     rw [if_pos rfl] at H
     obtain rfl := Option.some.inj H
     go_enter Try.func52, Try.ntmps52
     go_wp2_with (first | ((with_reducible refine gate_callee (f := 63) rfl ?_); refine goesL_ (some 12) rfl rfl Try.func63 (by kernel_rfl) rfl #[.int .i64 a1, .int .i64 0, .int .i64 (wrap64 ((l0.length : Int) - 1))] rfl z1 ?_; (with_reducible refine (spec_l6In.calls a1 0 (wrap64 ((l0.length : Int) - 1)) false _ A4.out).mono ?_); rintro e w' ⟨rfl, ⟨nd, rfl⟩⟩; refine ⟨_, rfl, ?_⟩) | (go_at_call 63; (with_reducible refine (spec_l6In.calls a2 0 6 true _ A13.out).mono ?_); rintro e w' ⟨rfl, ⟨nd, rfl⟩⟩))
     go_ret
     exact ⟨by first | rfl | (simp [errW_none, errW_some] <;> rfl) | (simp [*, errW_none, errW_some] <;> rfl), by repeat (first | (with_reducible first | exact HB.out | apply below_alloc | apply pw_below_drewN | apply below_drew1) | exact HB.out)⟩
    ·replace c14 := Bool.eq_false_iff.mpr c14
     subst c14
     rw [if_neg (show ¬ (false = true) by decide)] at H
     obtain rfl := Option.some.inj H
     go_enter Try.func52, Try.ntmps52
     go_wp2_with (first | ((with_reducible refine gate_callee (f := 63) rfl ?_); refine goesL_ (some 12) rfl rfl Try.func63 (by kernel_rfl) rfl #[.int .i64 a1, .int .i64 0, .int .i64 (wrap64 ((l0.length : Int) - 1))] rfl z1 ?_; (with_reducible refine (spec_l6In.calls a1 0 (wrap64 ((l0.length : Int) - 1)) false _ A4.out).mono ?_); rintro e w' ⟨rfl, ⟨nd, rfl⟩⟩; refine ⟨_, rfl, ?_⟩) | (go_at_call 63; (with_reducible refine (spec_l6In.calls a2 0 6 false _ A13.out).mono ?_); rintro e w' ⟨rfl, ⟨nd, rfl⟩⟩))
     go_ret
     exact ⟨by first | rfl | (simp [errW_none, errW_some] <;> rfl) | (simp [*, errW_none, errW_some] <;> rfl), by repeat (first | (with_reducible first | exact HB.out | apply below_alloc | apply pw_below_drewN | apply below_drew1) | exact HB.out)⟩
   ·rw [if_neg c12] at H
    have c12b0 : (a1 == (-2)) = false := beq_eq_false_iff_ne.mpr c12
    have c12b1 : (a1 != (-2)) = true := bne_iff_ne.mpr c12
    obtain rfl := Option.some.inj H
    go_enter Try.func52, Try.ntmps52
    go_wp2_with (first | ((with_reducible refine gate_callee (f := 63) rfl ?_); refine goesL_ (some 12) rfl rfl Try.func63 (by kernel_rfl) rfl #[.int .i64 a1, .int .i64 0, .int .i64 (wrap64 ((l0.length : Int) - 1))] rfl z1 ?_; (with_reducible refine (spec_l6In.calls a1 0 (wrap64 ((l0.length : Int) - 1)) false _ A4.out).mono ?_); rintro e w' ⟨rfl, ⟨nd, rfl⟩⟩; refine ⟨_, rfl, ?_⟩))
    go_ret
    exact ⟨by first | rfl | (simp [errW_none, errW_some] <;> rfl) | (simp [*, errW_none, errW_some] <;> rfl), by repeat (first | (with_reducible first | exact HB.out | apply below_alloc | apply pw_below_drewN | apply below_drew1) | exact HB.out)⟩
end Go.Proofs.Ytfbkpjjnhengfaa.K
namespace Go.Proofs.Ytfbkpjjnhengfaa.K
open Go.RowKit Go.Proofs.YtfbkpjjnhengfaaW.PrintWords Go.Proofs.YtfbkpjjnhengfaaW.PrintLast Go.Proofs.YtfbkpjjnhengfaaW.PrintMore
attribute [local go_sem] max2_int min2_int max_two min_two max_three min_three max_four min_four
set_option linter.unusedVariables false
set_option linter.unusedSimpArgs false
def spec_l21Make.f (l0_0 : List Int) (a0_1 : Int) (a0_2 : Int) (a0_3 : Int) (l0_4 : List Bool) (a1 : Int) (a2 : Int) (a3 : Int) : Option (List Int × Int × Int × Int × List Bool × Int) := if 0 ≤ a1 then (if a1 < (l0_0.length : Int) then ((some (l0_0.set (a1 : Int).toNat a2 : List Int)).bind fun y140 => (if a2 < 0 then (if 0 ≤ (wrap64 (a1 + 1)) then (if (wrap64 (a1 + 1)) < (l0_0.length : Int) then (some ((y140.set ((wrap64 (a1 + 1)) : Int).toNat a3), a0_1, a0_2, a0_3, l0_4, wrap64 (a1 + 1))) else (none)) else (none)) else (some (y140, a0_1, a0_2, a0_3, l0_4, wrap64 (a1 + 1))))) else (none)) else (none)
end Go.Proofs.Ytfbkpjjnhengfaa.K
namespace Go.Proofs.Ytfbkpjjnhengfaa.K
open Go.RowKit Go.Proofs.YtfbkpjjnhengfaaW.PrintWords Go.Proofs.YtfbkpjjnhengfaaW.PrintLast Go.Proofs.YtfbkpjjnhengfaaW.PrintMore
attribute [local go_sem] max2_int min2_int max_two min_two max_three min_three max_four min_four
set_option linter.unusedVariables false
set_option linter.unusedSimpArgs false
def spec_l21Try.j0 : Nat → Int → Int → Bool → Int → Bool → List Int → Int → Int → Int → List Bool → Option (List Int × Int × Int × Int × List Bool × Int)
  | 0, _, _, _, _, _, _, _, _, _, _ => none
  | k + 1, x2, x3, x4, x12, x27, x143000, x143001, x143002, x143003, x143004 => if x27 = true then ((spec_l21Make.f x143000 x143001 x143002 (wrap64 (x143003 + x12)) x143004 (wrap64 ((wrap64 (x143003 + x12)) - x12)) x2 x3).bind fun bt145 => (some (bt145.1, bt145.2.1, bt145.2.2.1, bt145.2.2.2.1, bt145.2.2.2.2.1, bt145.2.2.2.2.2))) else (if x4 = true then (some (x143000, x143001, x143002, x143003, x143004, 0)) else (if (wrap64 (x143002 + x12)) ≤ x143001 then ((spec_l21Make.f x143000 x143001 (wrap64 (x143002 + x12)) x143003 x143004 (wrap64 ((wrap64 (x143002 + x12)) - x12)) x2 x3).bind fun bt155 => (some (bt155.1, bt155.2.1, bt155.2.2.1, bt155.2.2.2.1, bt155.2.2.2.2.1, bt155.2.2.2.2.2))) else (some (x143000, x143001, x143002, x143003, x143004, 0))))
def spec_l21Try.f (k : Nat) (l0 : List (S99)) (l1_0 : List Int) (a1_1 : Int) (a1_2 : Int) (a1_3 : Int) (l1_4 : List Bool) (a2 : Int) (a3 : Int) (a4 : Bool) : Option (List Int × Int × Int × Int × List Bool × Int) := (spec_l21Want.f k l0 a2 a3).bind fun t144 => (if a4 = true then (spec_l21Try.j0 k a2 a3 a4 t144 (decide ((wrap64 (a1_3 + t144)) ≤ (l1_0.length : Int))) l1_0 a1_1 a1_2 a1_3 l1_4) else (spec_l21Try.j0 k a2 a3 a4 t144 false l1_0 a1_1 a1_2 a1_3 l1_4))
end Go.Proofs.Ytfbkpjjnhengfaa.K
namespace Go.Proofs.Ytfbkpjjnhengfaa.Pure
open Go.RowKit Go.Proofs.Ytfbkpjjnhengfaa.K Go.Proofs.YtfbkpjjnhengfaaW.PrintWords Go.Proofs.YtfbkpjjnhengfaaW.PrintLast Go.Proofs.YtfbkpjjnhengfaaW.PrintMore
set_option linter.unusedVariables false
set_option linter.unusedSimpArgs false
theorem want_eq {cs : Cs} (h : csOk cs = true) (c n : Int) (k : Nat) (hk : 20 ≤ k) : spec_l21Want.f k cs c n = some (measN (allF cs) c n) := by
 have hl := csOk_len h
 unfold spec_l21Want.f
 rw [spec_l6In_eq, wrap64_of (n := (cs.length : Int) - 1) (by omega) (by omega)]
 simp only [Option.bind_some, decide_eq_true_eq]
 by_cases c1 : 0 ≤ c ∧ c ≤ (cs.length : Int) - 1
 ·have c1' : c < (cs.length : Int) := by omega
  obtain ⟨f1, f2⟩ := cfl_eq h c1.1 c1'
  rw [if_pos c1, fields_same, f2 k (by omega), measN_c n c1.1 c1', Option.bind_some, wrap64_of (n := 1 + ((cfl cs c).length : Int)) (by omega) (by omega)]
 ·rw [if_neg c1, spec_l6In_eq]
  unfold measN
  rw [allF_len]
  simp only [Option.bind_some, decide_eq_true_eq]
  by_cases e1 : c = -1
  ·rw [if_pos e1, if_pos (Or.inl e1)]
   by_cases z : 0 ≤ n ∧ n ≤ 6
   ·rw [if_pos z, if_pos z, wrap64_of (by omega) (by omega)]
   ·rw [if_neg z, if_neg z]
  ·rw [if_neg e1]
   by_cases e2 : c = -2
   ·rw [if_pos e2, if_pos (Or.inr e2)]
    by_cases z : 0 ≤ n ∧ n ≤ 6
    ·rw [if_pos z, if_pos z, wrap64_of (by omega) (by omega)]
    ·rw [if_neg z, if_neg z]
   ·rw [if_neg e2, if_neg (by omega), if_neg (by omega)]
theorem measN_size {cs : Cs} (h : csOk cs = true) (c n : Int) : 0 ≤ measN (allF cs) c n ∧ measN (allF cs) c n ≤ 9 ∧ (c < 0 → measN (allF cs) c n ≠ 0 → 2 ≤ measN (allF cs) c n) := by
 by_cases z : 0 ≤ c ∧ c < cs.length
 ·rw [measN_c n z.1 z.2]
  have := (cfl_eq h z.1 z.2).1
  omega
 ·unfold measN
  rw [allF_len, if_neg z]
  split
  ·split <;> omega
  ·omega
def mkW (ws : List Int) (i c n : Int) : List Int := if c < 0 then (ws.set i.toNat c).set (i + 1).toNat n else ws.set i.toNat c
theorem mkW_len (ws : List Int) (i c n : Int) : (mkW ws i c n).length = ws.length := by
  unfold mkW; split <;> simp
def tryB (ws : List Int) (y t o s : Int) (v : Bool) : Bool := match v with | true => decide (o + s ≤ (ws.length : Int)) | false => decide (t + s ≤ y)
def tryM (ws : List Int) (y t o : Int) (cards : List Bool) (c n s : Int) (v : Bool) : List Int × Int × Int × Int × List Bool × Int :=
  match v with
  | true => if tryB ws y t o s true = true then (mkW ws o c n, y, t, o + s, cards, o + 1) else (ws, y, t, o, cards, 0)
  | false => if tryB ws y t o s false = true then (mkW ws t c n, y, t + s, o, cards, t + 1) else (ws, y, t, o, cards, 0)
end Go.Proofs.Ytfbkpjjnhengfaa.Pure
namespace Go.Proofs.Ytfbkpjjnhengfaa.K
open Go.RowKit Go.Proofs.YtfbkpjjnhengfaaW.PrintWords Go.Proofs.YtfbkpjjnhengfaaW.PrintLast Go.Proofs.YtfbkpjjnhengfaaW.PrintMore
attribute [local go_sem] max2_int min2_int max_two min_two max_three min_three max_four min_four
set_option linter.unusedVariables false
set_option linter.unusedSimpArgs false
open Go.Proofs.Ytfbkpjjnhengfaa.Pure
set_option maxHeartbeats 16000000 in
set_option maxRecDepth 100000 in
theorem mk_any (b gw cW gc cC : Nat) (ws : List Int) (y t o : Int) (cards : List Bool) (i c n : Int) (w : World) (h : OM b gw cW gc cC w ws cards) (hn : ws.length ≤ 1048576) (h0 : 0 ≤ i) (h1 : i < ws.length) (h2 : c < 0 → i + 1 < ws.length) :
  Calls Try.prog 81 #[.agg #[.slice (some ⟨gw, 0, none⟩) ws.length cW, .int .i64 y, .int .i64 t, .int .i64 o, .slice (some ⟨gc, 0, none⟩) cards.length cC], .int .i64 i, .int .i64 c, .int .i64 n] w fun e w' => e = .returned (.tuple #[.agg #[.slice (some ⟨gw, 0, none⟩) ws.length cW, .int .i64 y, .int .i64 t, .int .i64 o, .slice (some ⟨gc, 0, none⟩) cards.length cC], .int .i64 (i + 1)]) ∧ OM b gw cW gc cC w' (mkW ws i c n) cards ∧ Ch (fun k => k = gw) w w' := by
 have HO := Aside0.mk h
 have HN := Aside0.mk hn
 have H1 := Aside0.mk (show (0 ≤ i ∧ i < ws.length) ∧ (c < 0 → i + 1 < ws.length) from ⟨⟨h0, h1⟩, h2⟩)
 have HGW := Aside0.mk (show gw < w.heap.size ∧ gc < w.heap.size from ⟨h.bw.2, h.bc.2⟩)
 have q1 : IntKind.i64.wrap (i + 1) = i + 1 := IntWalk.i64_in _ (by omega)
 have p1 := eq_true h0
 have p2 := eq_true h1
 clear h hn h0 h1 h2
 go_enter Try.func81, Try.ntmps81
 by_cases c2 : c < 0
 ·have d : decide (c < 0) = true := decide_eq_true c2
  have HT := Aside0.mk c2
  clear c2
  go_wp2_with (first | ((with_reducible refine gate_dst (N := 4) rfl ?_); refine box_event ?hg (N := 4) ?hd (cs := #[.slice (some ⟨gw, 0, none⟩) ws.length cW, .int .i64 y, .int .i64 t, .int .i64 o, .slice (some ⟨gc, 0, none⟩) cards.length cC]) (t := 27) ?hr ?_; (case hd => rfl); (case hg => rfl); (case hr => first | (go_simp; done) | (go_simp; rfl)); intro gp hg w1 hbox hb; have BP := Aside0.mk hbox; have HCh := Aside0.mk ((Ch.refl (fun k => k = gw) w).below hb); have HGp := Aside0.mk (show w.heap.size ≤ gp by rw [hg]; exact Nat.le_refl _); have HC0 := Aside0.mk ((Ch.refl (fun _ => False) w).below hb); clear hb hbox hg) | ((with_reducible refine gate_dst (N := 8) rfl ?_); refine box_event ?hg (N := 8) ?hd (cs := #[.slice none 0 0, .int .i64 0, .int .i64 0, .int .i64 0, .slice none 0 0]) (t := 27) ?hr ?_; (case hd => rfl); (case hg => rfl); (case hr => first | (go_simp; done) | (go_simp; rfl)); intro gr hg w2 hbox hb; have BR := Aside0.mk hbox; have HGr := Aside0.mk (show w.heap.size ≤ gr ∧ gp < gr by have := HCh.out.size; have := blk_lt BP.out; rw [hg]; exact ⟨by omega, by omega⟩); replace BP := Aside0.mk (blk_below BP.out hb); replace HCh := Aside0.mk (HCh.out.below hb); skip; replace HC0 := Aside0.mk (HC0.out.below hb); have HO2 := Aside0.mk (HO.out.ch HC0.out (fun h => h) (fun h => h)); have c0 := (blk_cell BP.out 0).trans rfl; have c1 := (blk_cell BP.out 1).trans rfl; have c2 := (blk_cell BP.out 2).trans rfl; have c3 := (blk_cell BP.out 3).trans rfl; have c4 := (blk_cell BP.out 4).trans rfl; obtain ⟨x0, f0⟩ := HO2.out.wcell i H1.out.1.1 H1.out.1.2; clear hb hbox hg) | ((with_reducible refine gate_store (t := 3) (p := 14) rfl ?_); refine store_event (t := 3) (p := 14) (v := ?vo1) (w1 := (w2.setCell ⟨gw, i.toNat, none⟩ (.int .i64 c))) ?hg ?ho ?hn ?hr ?_; (case ho => rfl); (case hg => rfl); (case hn => rfl); (case hr => first | (go_simp; done) | (go_simp; rfl)); intro w3 hw; have HO3 := Aside0.mk (show OM b gw cW gc cC w3 (ws.set i.toNat c) cards by rw [hw]; exact HO2.out.setw i c); have HC3 := Aside0.mk (show Ch (fun k => k = gw) w w3 by rw [hw]; exact HCh.out.set (.inl rfl) _); have BP3 := Aside0.mk (show w3.heap[gp]? = some (.cells #[.slice (some ⟨gw, 0, none⟩) ws.length cW, .int .i64 y, .int .i64 t, .int .i64 o, .slice (some ⟨gc, 0, none⟩) cards.length cC] 27 (0, 0)) by rw [hw]; exact blk_far BP.out (by have := HGp.out; have := HGW.out; show gp ≠ gw; omega) _); have BR3 := Aside0.mk (show w3.heap[gr]? = some (.cells #[.slice none 0 0, .int .i64 0, .int .i64 0, .int .i64 0, .slice none 0 0] 27 (0, 0)) by rw [hw]; exact blk_far BR.out (by have := HGr.out; have := HGW.out; show gr ≠ gw; omega) _); clear hw x0 f0 HO2 HCh BP BR HC0; clear c0 c1 c2 c3 c4; have c0 := (blk_cell BP3.out 0).trans rfl; have c1 := (blk_cell BP3.out 1).trans rfl; have c2 := (blk_cell BP3.out 2).trans rfl; have c3 := (blk_cell BP3.out 3).trans rfl; have c4 := (blk_cell BP3.out 4).trans rfl; have p3 := eq_true (show 0 ≤ i + 1 by have := H1.out; omega); have p4 := eq_true (show i + 1 < (ws.length : Int) from H1.out.2 HT.out); obtain ⟨x1, f1⟩ := HO3.out.wcell (i + 1) (by have := H1.out; omega) (by rw [List.length_set]; exact H1.out.2 HT.out)) | ((with_reducible refine gate_store (t := 3) (p := 22) rfl ?_); refine store_event (t := 3) (p := 22) (v := ?vo2) (w1 := (w3.setCell ⟨gw, (i + 1).toNat, none⟩ (.int .i64 n))) ?hg ?ho ?hn ?hr ?_; (case ho => rfl); (case hg => rfl); (case hn => rfl); (case hr => first | (go_simp; done) | (go_simp; rfl)); intro w4 hw; have HO4 := Aside0.mk (show OM b gw cW gc cC w4 ((ws.set i.toNat c).set (i + 1).toNat n) cards by rw [hw]; exact HO3.out.setw (i + 1) n); have HC4 := Aside0.mk (show Ch (fun k => k = gw) w w4 by rw [hw]; exact HC3.out.set (.inl rfl) _); have BP4 := Aside0.mk (show w4.heap[gp]? = some (.cells #[.slice (some ⟨gw, 0, none⟩) ws.length cW, .int .i64 y, .int .i64 t, .int .i64 o, .slice (some ⟨gc, 0, none⟩) cards.length cC] 27 (0, 0)) by rw [hw]; exact blk_far BP3.out (by have := HGp.out; have := HGW.out; show gp ≠ gw; omega) _); have BR4 := Aside0.mk (show w4.heap[gr]? = some (.cells #[.slice none 0 0, .int .i64 0, .int .i64 0, .int .i64 0, .slice none 0 0] 27 (0, 0)) by rw [hw]; exact blk_far BR3.out (by have := HGr.out; have := HGW.out; show gr ≠ gw; omega) _); clear hw x1 f1 HO3 HC3 BP3 BR3 p3 p4; clear c0 c1 c2 c3 c4; have c0 := (blk_cell BP4.out 0).trans rfl; have c1 := (blk_cell BP4.out 1).trans rfl; have c2 := (blk_cell BP4.out 2).trans rfl; have c3 := (blk_cell BP4.out 3).trans rfl; have c4 := (blk_cell BP4.out 4).trans rfl; have z0 := (blk_cell BR4.out 0).trans rfl; have z1 := (blk_cell BR4.out 1).trans rfl; have z2 := (blk_cell BR4.out 2).trans rfl; have z3 := (blk_cell BR4.out 3).trans rfl; have z4 := (blk_cell BR4.out 4).trans rfl; have y_0 := blk_frozen BR4.out 0; have y_1 := blk_frozen BR4.out 1; have y_2 := blk_frozen BR4.out 2; have y_3 := blk_frozen BR4.out 3; have y_4 := blk_frozen BR4.out 4))
  refine bodyPost_ret (results_ct rfl _ _ gr 27 #[.slice (some ⟨gw, 0, none⟩) ws.length cW, .int .i64 y, .int .i64 t, .int .i64 o, .slice (some ⟨gc, 0, none⟩) cards.length cC] (0, 0) _ rfl (blk_box5 BR4.out) Try.underlying27 rfl (by kernel_rfl)) rfl ?_
  exact ⟨rfl, by rw [show mkW ws i c n = _ from if_pos HT.out]; exact HO4.out.ch (Ch.box5 (Ch.refl (fun k => k = gr) _) (.inl rfl) _ _ _ _ _) (by have := HGr.out; have := HGW.out; show ¬ gw = gr; omega) (by have := HGr.out; have := HGW.out; show ¬ gc = gr; omega), HC4.out.box5 (.inr HGr.out.1) _ _ _ _ _⟩
 ·have d : decide (c < 0) = false := decide_eq_false c2
  have HT := Aside0.mk c2
  clear c2
  go_wp2_with (first | ((with_reducible refine gate_dst (N := 4) rfl ?_); refine box_event ?hg (N := 4) ?hd (cs := #[.slice (some ⟨gw, 0, none⟩) ws.length cW, .int .i64 y, .int .i64 t, .int .i64 o, .slice (some ⟨gc, 0, none⟩) cards.length cC]) (t := 27) ?hr ?_; (case hd => rfl); (case hg => rfl); (case hr => first | (go_simp; done) | (go_simp; rfl)); intro gp hg w1 hbox hb; have BP := Aside0.mk hbox; have HCh := Aside0.mk ((Ch.refl (fun k => k = gw) w).below hb); have HGp := Aside0.mk (show w.heap.size ≤ gp by rw [hg]; exact Nat.le_refl _); have HC0 := Aside0.mk ((Ch.refl (fun _ => False) w).below hb); clear hb hbox hg) | ((with_reducible refine gate_dst (N := 8) rfl ?_); refine box_event ?hg (N := 8) ?hd (cs := #[.slice none 0 0, .int .i64 0, .int .i64 0, .int .i64 0, .slice none 0 0]) (t := 27) ?hr ?_; (case hd => rfl); (case hg => rfl); (case hr => first | (go_simp; done) | (go_simp; rfl)); intro gr hg w2 hbox hb; have BR := Aside0.mk hbox; have HGr := Aside0.mk (show w.heap.size ≤ gr ∧ gp < gr by have := HCh.out.size; have := blk_lt BP.out; rw [hg]; exact ⟨by omega, by omega⟩); replace BP := Aside0.mk (blk_below BP.out hb); replace HCh := Aside0.mk (HCh.out.below hb); skip; replace HC0 := Aside0.mk (HC0.out.below hb); have HO2 := Aside0.mk (HO.out.ch HC0.out (fun h => h) (fun h => h)); have c0 := (blk_cell BP.out 0).trans rfl; have c1 := (blk_cell BP.out 1).trans rfl; have c2 := (blk_cell BP.out 2).trans rfl; have c3 := (blk_cell BP.out 3).trans rfl; have c4 := (blk_cell BP.out 4).trans rfl; obtain ⟨x0, f0⟩ := HO2.out.wcell i H1.out.1.1 H1.out.1.2; clear hb hbox hg) | ((with_reducible refine gate_store (t := 3) (p := 14) rfl ?_); refine store_event (t := 3) (p := 14) (v := ?vo1) (w1 := (w2.setCell ⟨gw, i.toNat, none⟩ (.int .i64 c))) ?hg ?ho ?hn ?hr ?_; (case ho => rfl); (case hg => rfl); (case hn => rfl); (case hr => first | (go_simp; done) | (go_simp; rfl)); intro w3 hw; have HO3 := Aside0.mk (show OM b gw cW gc cC w3 (ws.set i.toNat c) cards by rw [hw]; exact HO2.out.setw i c); have HC3 := Aside0.mk (show Ch (fun k => k = gw) w w3 by rw [hw]; exact HCh.out.set (.inl rfl) _); have BP3 := Aside0.mk (show w3.heap[gp]? = some (.cells #[.slice (some ⟨gw, 0, none⟩) ws.length cW, .int .i64 y, .int .i64 t, .int .i64 o, .slice (some ⟨gc, 0, none⟩) cards.length cC] 27 (0, 0)) by rw [hw]; exact blk_far BP.out (by have := HGp.out; have := HGW.out; show gp ≠ gw; omega) _); have BR3 := Aside0.mk (show w3.heap[gr]? = some (.cells #[.slice none 0 0, .int .i64 0, .int .i64 0, .int .i64 0, .slice none 0 0] 27 (0, 0)) by rw [hw]; exact blk_far BR.out (by have := HGr.out; have := HGW.out; show gr ≠ gw; omega) _); clear hw x0 f0 HO2 HCh BP BR HC0; clear c0 c1 c2 c3 c4; have c0 := (blk_cell BP3.out 0).trans rfl; have c1 := (blk_cell BP3.out 1).trans rfl; have c2 := (blk_cell BP3.out 2).trans rfl; have c3 := (blk_cell BP3.out 3).trans rfl; have c4 := (blk_cell BP3.out 4).trans rfl; have z0 := (blk_cell BR3.out 0).trans rfl; have z1 := (blk_cell BR3.out 1).trans rfl; have z2 := (blk_cell BR3.out 2).trans rfl; have z3 := (blk_cell BR3.out 3).trans rfl; have z4 := (blk_cell BR3.out 4).trans rfl; have y_0 := blk_frozen BR3.out 0; have y_1 := blk_frozen BR3.out 1; have y_2 := blk_frozen BR3.out 2; have y_3 := blk_frozen BR3.out 3; have y_4 := blk_frozen BR3.out 4))
  refine bodyPost_ret (results_ct rfl _ _ gr 27 #[.slice (some ⟨gw, 0, none⟩) ws.length cW, .int .i64 y, .int .i64 t, .int .i64 o, .slice (some ⟨gc, 0, none⟩) cards.length cC] (0, 0) _ rfl (blk_box5 BR3.out) Try.underlying27 rfl (by kernel_rfl)) rfl ?_
  exact ⟨rfl, by rw [show mkW ws i c n = _ from if_neg (by have := HT.out; omega)]; exact HO3.out.ch (Ch.box5 (Ch.refl (fun k => k = gr) _) (.inl rfl) _ _ _ _ _) (by have := HGr.out; have := HGW.out; show ¬ gw = gr; omega) (by have := HGr.out; have := HGW.out; show ¬ gc = gr; omega), HC3.out.box5 (.inr HGr.out.1) _ _ _ _ _⟩
end Go.Proofs.Ytfbkpjjnhengfaa.K
namespace Go.Proofs.Ytfbkpjjnhengfaa.K
open Go.RowKit Go.Proofs.YtfbkpjjnhengfaaW.PrintWords Go.Proofs.YtfbkpjjnhengfaaW.PrintLast Go.Proofs.YtfbkpjjnhengfaaW.PrintMore
attribute [local go_sem] max2_int min2_int max_two min_two max_three min_three max_four min_four
set_option linter.unusedVariables false
set_option linter.unusedSimpArgs false
open Go.Proofs.Ytfbkpjjnhengfaa.Pure
set_option maxHeartbeats 16000000 in
set_option maxRecDepth 100000 in
theorem try_any (b gw cW gc cC : Nat) (ws : List Int) (y t o : Int) (cards : List Bool) (A : Option Addr) (cA : Nat) (cs : Cs) (c n : Int) (v : Bool) (w : World) (h : OM b gw cW gc cC w ws cards) (hb : Bnd cs ws y t o cards) (hs : measN (allF cs) c n ≠ 0) (hC : Kd.C k99 w A cs.length cs) (hcA : cs.length ≤ cA) :
  Calls Try.prog 53 #[.slice A cs.length cA, .agg #[.slice (some ⟨gw, 0, none⟩) ws.length cW, .int .i64 y, .int .i64 t, .int .i64 o, .slice (some ⟨gc, 0, none⟩) cards.length cC], .int .i64 c, .int .i64 n, .bool v] w fun e w' => e = .returned (.tuple #[.agg #[.slice (some ⟨gw, 0, none⟩) ws.length cW, .int .i64 y, .int .i64 (tryM ws y t o cards c n (measN (allF cs) c n) v).2.2.1, .int .i64 (tryM ws y t o cards c n (measN (allF cs) c n) v).2.2.2.1, .slice (some ⟨gc, 0, none⟩) cards.length cC], .int .i64 (tryM ws y t o cards c n (measN (allF cs) c n) v).2.2.2.2.2]) ∧ OM b gw cW gc cC w' (tryM ws y t o cards c n (measN (allF cs) c n) v).1 cards ∧ Ch (fun k => k = gw) w w' := by
 have hz := measN_size hb.ok c n
 have hW := want_eq hb.ok c n 20 (Nat.le_refl _)
 obtain ⟨s, hss⟩ : ∃ s, measN (allF cs) c n = s := ⟨_, rfl⟩
 rw [hss] at hs hz hW ⊢
 have HWt := Aside0.mk hW
 have HSz := Aside0.mk (show 1 ≤ s ∧ s ≤ 9 ∧ (c < 0 → 2 ≤ s) by omega)
 have HY := Aside0.mk (show (0 ≤ y ∧ y ≤ 40) ∧ (0 ≤ t ∧ t ≤ y) ∧ (y ≤ o ∧ o ≤ ws.length) ∧ (14 ≤ (ws.length : Int) - y ∧ (ws.length : Int) - y ≤ 120) from ⟨⟨hb.y0, hb.y1⟩, ⟨hb.t0, hb.t1⟩, ⟨hb.o0, hb.o1⟩, ⟨hb.n0, hb.n1⟩⟩)
 have HO := Aside0.mk h
 have HC := Aside0.mk hC
 have HCA := Aside0.mk hcA
 have HGW := Aside0.mk (show gw < w.heap.size ∧ gc < w.heap.size from ⟨h.bw.2, h.bc.2⟩)
 clear h hb hs hC hcA hz hW hss
 cases v with
 | true =>
  have hy := HY.out
  have hz := HSz.out
  obtain ⟨T, hT⟩ : ∃ T, T = o + s := ⟨_, rfl⟩
  have q1 : IntKind.i64.wrap (o + s) = T := by rw [hT]; exact IntWalk.i64_in _ (by omega)
  have q2 : IntKind.i64.wrap (T - s) = o := by rw [hT, show o + s - s = o by omega]; exact IntWalk.i64_in _ (by omega)
  by_cases cr : T ≤ (ws.length : Int)
  ·have d1 : decide (T ≤ (ws.length : Int)) = true := decide_eq_true cr
   have HT := Aside0.mk (show T = o + s ∧ T ≤ (ws.length : Int) from ⟨hT, cr⟩)
   clear hy hz hT cr
   have hM : tryM ws y t o cards c n s true = (mkW ws o c n, y, t, T, cards, o + 1) := by (have h_ := HT.out; unfold tryM tryB; dsimp only; rw [if_pos (decide_eq_true (by omega)), show o + s = T by omega])
   rw [hM]
   clear hM
   go_enter Try.func53, Try.ntmps53
   go_wp2_with (first | ((with_reducible refine gate_dst (N := 6) rfl ?_); refine box_event ?hg (N := 6) ?hd (cs := #[.slice (some ⟨gw, 0, none⟩) ws.length cW, .int .i64 y, .int .i64 t, .int .i64 o, .slice (some ⟨gc, 0, none⟩) cards.length cC]) (t := 27) ?hr ?_; (case hd => rfl); (case hg => rfl); (case hr => first | (go_simp; done) | (go_simp; rfl)); intro gp hg w1 hbox hb; have BP := Aside0.mk hbox; have HCh := Aside0.mk ((Ch.refl (fun k => k = gw) w).below hb); have HGp := Aside0.mk (show w.heap.size ≤ gp by rw [hg]; exact Nat.le_refl _); have HC0 := Aside0.mk ((Ch.refl (fun _ => False) w).below hb); clear hb hbox hg) | ((with_reducible refine gate_dst (N := 10) rfl ?_); refine box_event ?hg (N := 10) ?hd (cs := #[.slice none 0 0, .int .i64 0, .int .i64 0, .int .i64 0, .slice none 0 0]) (t := 27) ?hr ?_; (case hd => rfl); (case hg => rfl); (case hr => first | (go_simp; done) | (go_simp; rfl)); intro gr hg w2 hbox hb; have BR := Aside0.mk hbox; have HGr := Aside0.mk (show w.heap.size ≤ gr ∧ gp < gr by have := HCh.out.size; have := blk_lt BP.out; rw [hg]; exact ⟨by omega, by omega⟩); replace BP := Aside0.mk (blk_below BP.out hb); replace HCh := Aside0.mk (HCh.out.below hb); replace HC0 := Aside0.mk (HC0.out.below hb); have HO2 := Aside0.mk (HO.out.ch HC0.out (fun h => h) (fun h => h)); have HB2 := Aside0.mk (HC0.out.toBelow (Nat.le_refl _) (fun _ h => h.elim)); clear hb hbox hg) | (go_at_call 52; refine (spec_l21Want.calls 20 A cA cs c n s _ (Kd.C_below HC.out HB2.out) HCA.out HWt.out).mono ?_; rintro e w3 ⟨rfl, hb⟩; have HCh3 := Aside0.mk (HCh.out.below hb); have HO3 := Aside0.mk (HO2.out.ch ((Ch.refl (fun _ => False) _).below hb) (fun h => h) (fun h => h)); have BP3 := Aside0.mk (blk_below BP.out hb); have BR3 := Aside0.mk (blk_below BR.out hb); clear hb HCh HO2 BP BR HC0 HB2; have c0 := (blk_cell BP3.out 0).trans rfl; have c1 := (blk_cell BP3.out 1).trans rfl; have c2 := (blk_cell BP3.out 2).trans rfl; have c3 := (blk_cell BP3.out 3).trans rfl; have c4 := (blk_cell BP3.out 4).trans rfl; have fz := blk_frozen BP3.out 3) | ((with_reducible refine gate_store (t := 3) (p := 32) rfl ?_); refine store_event (t := 3) (p := 32) (v := ?vo_3) (w1 := (w3.setCell ⟨gp, 3, none⟩ (.int .i64 T))) ?hg ?ho ?hn ?hr ?_; (case ho => rfl); (case hg => rfl); (case hn => rfl); (case hr => first | (go_simp; done) | (go_simp; rfl)); intro w4 hw; have HO4 := Aside0.mk (show OM b gw cW gc cC w4 ws cards by rw [hw]; exact HO3.out.ch (Ch.set (Ch.refl (fun k => k = gp) _) (.inl rfl) _) z20 z20); have HC4 := Aside0.mk (show Ch (fun k => k = gw) w w4 by rw [hw]; exact HCh3.out.set (.inr HGp.out) _); have BP4 := Aside0.mk (show w4.heap[gp]? = some (.cells #[.slice (some ⟨gw, 0, none⟩) ws.length cW, .int .i64 y, .int .i64 t, .int .i64 T, .slice (some ⟨gc, 0, none⟩) cards.length cC] 27 (0, 0)) by rw [hw]; exact blk_put BP3.out 3 _ rfl); have BR4 := Aside0.mk (show w4.heap[gr]? = some (.cells #[.slice none 0 0, .int .i64 0, .int .i64 0, .int .i64 0, .slice none 0 0] 27 (0, 0)) by rw [hw]; exact blk_far BR3.out (by have := HGr.out; show gr ≠ gp; omega) _); clear hw HO3 HCh3 BP3 BR3 fz; clear c0 c1 c2 c3 c4; have c0 := (blk_cell BP4.out 0).trans rfl; have c1 := (blk_cell BP4.out 1).trans rfl; have c2 := (blk_cell BP4.out 2).trans rfl; have c3 := (blk_cell BP4.out 3).trans rfl; have c4 := (blk_cell BP4.out 4).trans rfl) | (go_at_call 81; refine (mk_any b gw cW gc cC ws y t T cards o c n _ HO4.out (by have := HY.out; omega) (by have := HY.out; omega) (by have := HY.out; have := HT.out; have := HSz.out; omega) (by have := HY.out; have := HT.out; have := HSz.out; omega)).mono ?_; rintro e w5 ⟨rfl, hO, hC⟩; have HO5 := Aside0.mk hO; have HC5 := Aside0.mk (HC4.out.then_ hC); have BR5 := Aside0.mk (hC.blk BR4.out z14); clear hO hC HO4 HC4 BP4 BR4; clear c0 c1 c2 c3 c4; have z0 := (blk_cell BR5.out 0).trans rfl; have z1 := (blk_cell BR5.out 1).trans rfl; have z2 := (blk_cell BR5.out 2).trans rfl; have z3 := (blk_cell BR5.out 3).trans rfl; have z4 := (blk_cell BR5.out 4).trans rfl; have y_0 := blk_frozen BR5.out 0; have y_1 := blk_frozen BR5.out 1; have y_2 := blk_frozen BR5.out 2; have y_3 := blk_frozen BR5.out 3; have y_4 := blk_frozen BR5.out 4))
   refine bodyPost_ret (results_ct rfl _ _ gr 27 #[.slice (some ⟨gw, 0, none⟩) ws.length cW, .int .i64 y, .int .i64 t, .int .i64 T, .slice (some ⟨gc, 0, none⟩) cards.length cC] (0, 0) _ rfl (blk_box5 BR5.out) Try.underlying27 rfl (by kernel_rfl)) rfl ?_
   exact ⟨rfl, HO5.out.ch (Ch.box5 (Ch.refl (fun k => k = gr) _) (.inl rfl) _ _ _ _ _) z14 z14, HC5.out.box5 (.inr HGr.out.1) _ _ _ _ _⟩
  ·have d1 : decide (T ≤ (ws.length : Int)) = false := decide_eq_false cr
   have HT := Aside0.mk (show T = o + s ∧ ¬ T ≤ (ws.length : Int) from ⟨hT, cr⟩)
   clear hy hz hT cr
   have hM : tryM ws y t o cards c n s true = (ws, y, t, o, cards, 0) := by (have h_ := HT.out; unfold tryM tryB; dsimp only; rw [if_neg (by rw [decide_eq_true_eq]; omega)])
   rw [hM]
   clear hM
   go_enter Try.func53, Try.ntmps53
   go_wp2_with (first | ((with_reducible refine gate_dst (N := 6) rfl ?_); refine box_event ?hg (N := 6) ?hd (cs := #[.slice (some ⟨gw, 0, none⟩) ws.length cW, .int .i64 y, .int .i64 t, .int .i64 o, .slice (some ⟨gc, 0, none⟩) cards.length cC]) (t := 27) ?hr ?_; (case hd => rfl); (case hg => rfl); (case hr => first | (go_simp; done) | (go_simp; rfl)); intro gp hg w1 hbox hb; have BP := Aside0.mk hbox; have HCh := Aside0.mk ((Ch.refl (fun k => k = gw) w).below hb); have HGp := Aside0.mk (show w.heap.size ≤ gp by rw [hg]; exact Nat.le_refl _); have HC0 := Aside0.mk ((Ch.refl (fun _ => False) w).below hb); clear hb hbox hg) | ((with_reducible refine gate_dst (N := 10) rfl ?_); refine box_event ?hg (N := 10) ?hd (cs := #[.slice none 0 0, .int .i64 0, .int .i64 0, .int .i64 0, .slice none 0 0]) (t := 27) ?hr ?_; (case hd => rfl); (case hg => rfl); (case hr => first | (go_simp; done) | (go_simp; rfl)); intro gr hg w2 hbox hb; have BR := Aside0.mk hbox; have HGr := Aside0.mk (show w.heap.size ≤ gr ∧ gp < gr by have := HCh.out.size; have := blk_lt BP.out; rw [hg]; exact ⟨by omega, by omega⟩); replace BP := Aside0.mk (blk_below BP.out hb); replace HCh := Aside0.mk (HCh.out.below hb); replace HC0 := Aside0.mk (HC0.out.below hb); have HO2 := Aside0.mk (HO.out.ch HC0.out (fun h => h) (fun h => h)); have HB2 := Aside0.mk (HC0.out.toBelow (Nat.le_refl _) (fun _ h => h.elim)); clear hb hbox hg) | (go_at_call 52; refine (spec_l21Want.calls 20 A cA cs c n s _ (Kd.C_below HC.out HB2.out) HCA.out HWt.out).mono ?_; rintro e w3 ⟨rfl, hb⟩; have HCh3 := Aside0.mk (HCh.out.below hb); have HO3 := Aside0.mk (HO2.out.ch ((Ch.refl (fun _ => False) _).below hb) (fun h => h) (fun h => h)); have BP3 := Aside0.mk (blk_below BP.out hb); have BR3 := Aside0.mk (blk_below BR.out hb); clear hb HCh HO2 BP BR HC0 HB2; have c0 := (blk_cell BP3.out 0).trans rfl; have c1 := (blk_cell BP3.out 1).trans rfl; have c2 := (blk_cell BP3.out 2).trans rfl; have c3 := (blk_cell BP3.out 3).trans rfl; have c4 := (blk_cell BP3.out 4).trans rfl; have z0 := (blk_cell BR3.out 0).trans rfl; have z1 := (blk_cell BR3.out 1).trans rfl; have z2 := (blk_cell BR3.out 2).trans rfl; have z3 := (blk_cell BR3.out 3).trans rfl; have z4 := (blk_cell BR3.out 4).trans rfl; have y_0 := blk_frozen BR3.out 0; have y_1 := blk_frozen BR3.out 1; have y_2 := blk_frozen BR3.out 2; have y_3 := blk_frozen BR3.out 3; have y_4 := blk_frozen BR3.out 4))
   refine bodyPost_ret (results_ct rfl _ _ gr 27 #[.slice (some ⟨gw, 0, none⟩) ws.length cW, .int .i64 y, .int .i64 t, .int .i64 o, .slice (some ⟨gc, 0, none⟩) cards.length cC] (0, 0) _ rfl (blk_box5 BR3.out) Try.underlying27 rfl (by kernel_rfl)) rfl ?_
   exact ⟨rfl, HO3.out.ch (Ch.box5 (Ch.refl (fun k => k = gr) _) (.inl rfl) _ _ _ _ _) z14 z14, HCh3.out.box5 (.inr HGr.out.1) _ _ _ _ _⟩
 | false =>
  have hy := HY.out
  have hz := HSz.out
  obtain ⟨T, hT⟩ : ∃ T, T = t + s := ⟨_, rfl⟩
  have q1 : IntKind.i64.wrap (t + s) = T := by rw [hT]; exact IntWalk.i64_in _ (by omega)
  have q2 : IntKind.i64.wrap (T - s) = t := by rw [hT, show t + s - s = t by omega]; exact IntWalk.i64_in _ (by omega)
  by_cases cr : T ≤ y
  ·have d1 : decide (T ≤ y) = true := decide_eq_true cr
   have HT := Aside0.mk (show T = t + s ∧ T ≤ y from ⟨hT, cr⟩)
   clear hy hz hT cr
   have hM : tryM ws y t o cards c n s false = (mkW ws t c n, y, T, o, cards, t + 1) := by (have h_ := HT.out; unfold tryM tryB; dsimp only; rw [if_pos (decide_eq_true (by omega)), show t + s = T by omega])
   rw [hM]
   clear hM
   go_enter Try.func53, Try.ntmps53
   go_wp2_with (first | ((with_reducible refine gate_dst (N := 6) rfl ?_); refine box_event ?hg (N := 6) ?hd (cs := #[.slice (some ⟨gw, 0, none⟩) ws.length cW, .int .i64 y, .int .i64 t, .int .i64 o, .slice (some ⟨gc, 0, none⟩) cards.length cC]) (t := 27) ?hr ?_; (case hd => rfl); (case hg => rfl); (case hr => first | (go_simp; done) | (go_simp; rfl)); intro gp hg w1 hbox hb; have BP := Aside0.mk hbox; have HCh := Aside0.mk ((Ch.refl (fun k => k = gw) w).below hb); have HGp := Aside0.mk (show w.heap.size ≤ gp by rw [hg]; exact Nat.le_refl _); have HC0 := Aside0.mk ((Ch.refl (fun _ => False) w).below hb); clear hb hbox hg) | ((with_reducible refine gate_dst (N := 10) rfl ?_); refine box_event ?hg (N := 10) ?hd (cs := #[.slice none 0 0, .int .i64 0, .int .i64 0, .int .i64 0, .slice none 0 0]) (t := 27) ?hr ?_; (case hd => rfl); (case hg => rfl); (case hr => first | (go_simp; done) | (go_simp; rfl)); intro gr hg w2 hbox hb; have BR := Aside0.mk hbox; have HGr := Aside0.mk (show w.heap.size ≤ gr ∧ gp < gr by have := HCh.out.size; have := blk_lt BP.out; rw [hg]; exact ⟨by omega, by omega⟩); replace BP := Aside0.mk (blk_below BP.out hb); replace HCh := Aside0.mk (HCh.out.below hb); replace HC0 := Aside0.mk (HC0.out.below hb); have HO2 := Aside0.mk (HO.out.ch HC0.out (fun h => h) (fun h => h)); have HB2 := Aside0.mk (HC0.out.toBelow (Nat.le_refl _) (fun _ h => h.elim)); clear hb hbox hg) | (go_at_call 52; refine (spec_l21Want.calls 20 A cA cs c n s _ (Kd.C_below HC.out HB2.out) HCA.out HWt.out).mono ?_; rintro e w3 ⟨rfl, hb⟩; have HCh3 := Aside0.mk (HCh.out.below hb); have HO3 := Aside0.mk (HO2.out.ch ((Ch.refl (fun _ => False) _).below hb) (fun h => h) (fun h => h)); have BP3 := Aside0.mk (blk_below BP.out hb); have BR3 := Aside0.mk (blk_below BR.out hb); clear hb HCh HO2 BP BR HC0 HB2; have c0 := (blk_cell BP3.out 0).trans rfl; have c1 := (blk_cell BP3.out 1).trans rfl; have c2 := (blk_cell BP3.out 2).trans rfl; have c3 := (blk_cell BP3.out 3).trans rfl; have c4 := (blk_cell BP3.out 4).trans rfl; have fz := blk_frozen BP3.out 2) | ((with_reducible refine gate_store (t := 3) (p := 58) rfl ?_); refine store_event (t := 3) (p := 58) (v := ?vo_2) (w1 := (w3.setCell ⟨gp, 2, none⟩ (.int .i64 T))) ?hg ?ho ?hn ?hr ?_; (case ho => rfl); (case hg => rfl); (case hn => rfl); (case hr => first | (go_simp; done) | (go_simp; rfl)); intro w4 hw; have HO4 := Aside0.mk (show OM b gw cW gc cC w4 ws cards by rw [hw]; exact HO3.out.ch (Ch.set (Ch.refl (fun k => k = gp) _) (.inl rfl) _) z20 z20); have HC4 := Aside0.mk (show Ch (fun k => k = gw) w w4 by rw [hw]; exact HCh3.out.set (.inr HGp.out) _); have BP4 := Aside0.mk (show w4.heap[gp]? = some (.cells #[.slice (some ⟨gw, 0, none⟩) ws.length cW, .int .i64 y, .int .i64 T, .int .i64 o, .slice (some ⟨gc, 0, none⟩) cards.length cC] 27 (0, 0)) by rw [hw]; exact blk_put BP3.out 2 _ rfl); have BR4 := Aside0.mk (show w4.heap[gr]? = some (.cells #[.slice none 0 0, .int .i64 0, .int .i64 0, .int .i64 0, .slice none 0 0] 27 (0, 0)) by rw [hw]; exact blk_far BR3.out (by have := HGr.out; show gr ≠ gp; omega) _); clear hw HO3 HCh3 BP3 BR3 fz; clear c0 c1 c2 c3 c4; have c0 := (blk_cell BP4.out 0).trans rfl; have c1 := (blk_cell BP4.out 1).trans rfl; have c2 := (blk_cell BP4.out 2).trans rfl; have c3 := (blk_cell BP4.out 3).trans rfl; have c4 := (blk_cell BP4.out 4).trans rfl) | (go_at_call 81; refine (mk_any b gw cW gc cC ws y T o cards t c n _ HO4.out (by have := HY.out; omega) (by have := HY.out; omega) (by have := HY.out; have := HT.out; have := HSz.out; omega) (by have := HY.out; have := HT.out; have := HSz.out; omega)).mono ?_; rintro e w5 ⟨rfl, hO, hC⟩; have HO5 := Aside0.mk hO; have HC5 := Aside0.mk (HC4.out.then_ hC); have BR5 := Aside0.mk (hC.blk BR4.out z14); clear hO hC HO4 HC4 BP4 BR4; clear c0 c1 c2 c3 c4; have z0 := (blk_cell BR5.out 0).trans rfl; have z1 := (blk_cell BR5.out 1).trans rfl; have z2 := (blk_cell BR5.out 2).trans rfl; have z3 := (blk_cell BR5.out 3).trans rfl; have z4 := (blk_cell BR5.out 4).trans rfl; have y_0 := blk_frozen BR5.out 0; have y_1 := blk_frozen BR5.out 1; have y_2 := blk_frozen BR5.out 2; have y_3 := blk_frozen BR5.out 3; have y_4 := blk_frozen BR5.out 4))
   refine bodyPost_ret (results_ct rfl _ _ gr 27 #[.slice (some ⟨gw, 0, none⟩) ws.length cW, .int .i64 y, .int .i64 T, .int .i64 o, .slice (some ⟨gc, 0, none⟩) cards.length cC] (0, 0) _ rfl (blk_box5 BR5.out) Try.underlying27 rfl (by kernel_rfl)) rfl ?_
   exact ⟨rfl, HO5.out.ch (Ch.box5 (Ch.refl (fun k => k = gr) _) (.inl rfl) _ _ _ _ _) z14 z14, HC5.out.box5 (.inr HGr.out.1) _ _ _ _ _⟩
  ·have d1 : decide (T ≤ y) = false := decide_eq_false cr
   have HT := Aside0.mk (show T = t + s ∧ ¬ T ≤ y from ⟨hT, cr⟩)
   clear hy hz hT cr
   have hM : tryM ws y t o cards c n s false = (ws, y, t, o, cards, 0) := by (have h_ := HT.out; unfold tryM tryB; dsimp only; rw [if_neg (by rw [decide_eq_true_eq]; omega)])
   rw [hM]
   clear hM
   go_enter Try.func53, Try.ntmps53
   go_wp2_with (first | ((with_reducible refine gate_dst (N := 6) rfl ?_); refine box_event ?hg (N := 6) ?hd (cs := #[.slice (some ⟨gw, 0, none⟩) ws.length cW, .int .i64 y, .int .i64 t, .int .i64 o, .slice (some ⟨gc, 0, none⟩) cards.length cC]) (t := 27) ?hr ?_; (case hd => rfl); (case hg => rfl); (case hr => first | (go_simp; done) | (go_simp; rfl)); intro gp hg w1 hbox hb; have BP := Aside0.mk hbox; have HCh := Aside0.mk ((Ch.refl (fun k => k = gw) w).below hb); have HGp := Aside0.mk (show w.heap.size ≤ gp by rw [hg]; exact Nat.le_refl _); have HC0 := Aside0.mk ((Ch.refl (fun _ => False) w).below hb); clear hb hbox hg) | ((with_reducible refine gate_dst (N := 10) rfl ?_); refine box_event ?hg (N := 10) ?hd (cs := #[.slice none 0 0, .int .i64 0, .int .i64 0, .int .i64 0, .slice none 0 0]) (t := 27) ?hr ?_; (case hd => rfl); (case hg => rfl); (case hr => first | (go_simp; done) | (go_simp; rfl)); intro gr hg w2 hbox hb; have BR := Aside0.mk hbox; have HGr := Aside0.mk (show w.heap.size ≤ gr ∧ gp < gr by have := HCh.out.size; have := blk_lt BP.out; rw [hg]; exact ⟨by omega, by omega⟩); replace BP := Aside0.mk (blk_below BP.out hb); replace HCh := Aside0.mk (HCh.out.below hb); replace HC0 := Aside0.mk (HC0.out.below hb); have HO2 := Aside0.mk (HO.out.ch HC0.out (fun h => h) (fun h => h)); have HB2 := Aside0.mk (HC0.out.toBelow (Nat.le_refl _) (fun _ h => h.elim)); clear hb hbox hg) | (go_at_call 52; refine (spec_l21Want.calls 20 A cA cs c n s _ (Kd.C_below HC.out HB2.out) HCA.out HWt.out).mono ?_; rintro e w3 ⟨rfl, hb⟩; have HCh3 := Aside0.mk (HCh.out.below hb); have HO3 := Aside0.mk (HO2.out.ch ((Ch.refl (fun _ => False) _).below hb) (fun h => h) (fun h => h)); have BP3 := Aside0.mk (blk_below BP.out hb); have BR3 := Aside0.mk (blk_below BR.out hb); clear hb HCh HO2 BP BR HC0 HB2; have c0 := (blk_cell BP3.out 0).trans rfl; have c1 := (blk_cell BP3.out 1).trans rfl; have c2 := (blk_cell BP3.out 2).trans rfl; have c3 := (blk_cell BP3.out 3).trans rfl; have c4 := (blk_cell BP3.out 4).trans rfl; have z0 := (blk_cell BR3.out 0).trans rfl; have z1 := (blk_cell BR3.out 1).trans rfl; have z2 := (blk_cell BR3.out 2).trans rfl; have z3 := (blk_cell BR3.out 3).trans rfl; have z4 := (blk_cell BR3.out 4).trans rfl; have y_0 := blk_frozen BR3.out 0; have y_1 := blk_frozen BR3.out 1; have y_2 := blk_frozen BR3.out 2; have y_3 := blk_frozen BR3.out 3; have y_4 := blk_frozen BR3.out 4))
   refine bodyPost_ret (results_ct rfl _ _ gr 27 #[.slice (some ⟨gw, 0, none⟩) ws.length cW, .int .i64 y, .int .i64 t, .int .i64 o, .slice (some ⟨gc, 0, none⟩) cards.length cC] (0, 0) _ rfl (blk_box5 BR3.out) Try.underlying27 rfl (by kernel_rfl)) rfl ?_
   exact ⟨rfl, HO3.out.ch (Ch.box5 (Ch.refl (fun k => k = gr) _) (.inl rfl) _ _ _ _ _) z14 z14, HCh3.out.box5 (.inr HGr.out.1) _ _ _ _ _⟩
end Go.Proofs.Ytfbkpjjnhengfaa.K
namespace Go.Proofs.Ytfbkpjjnhengfaa.Pure
open Go.RowKit Go.Proofs.Ytfbkpjjnhengfaa.K Go.Proofs.YtfbkpjjnhengfaaW.PrintWords Go.Proofs.YtfbkpjjnhengfaaW.PrintLast Go.Proofs.YtfbkpjjnhengfaaW.PrintMore
set_option linter.unusedVariables false
set_option linter.unusedSimpArgs false
def memNewR (a0 a1 : Int) : List Int × Int × Int × Int × List Bool :=
  if (0 ≤ a0 ∧ a0 ≤ 40) ∧ (14 ≤ a1 ∧ a1 ≤ 120) then (List.replicate (a0 + a1).toNat 0, a0, 0, a0, List.replicate ((a1 + 3) / 4).toNat false) else ([], 0, 0, 0, [])
theorem spec_l21Cards_eq (a : Int) (h0 : 0 ≤ a) (h : a ≤ 1000000) : spec_l21Cards.f a = some ((a + 3) / 4) := by
  unfold spec_l21Cards.f
  rw [wrap64_of (n := a + 4) (by omega) (by omega), wrap64_of (n := a + 4 - 1) (by omega) (by omega), Int.tdiv_eq_ediv_of_nonneg (by omega), show a + 4 - 1 = a + 3 from by omega, wrap64_of (by omega) (by omega)]
theorem spec_MemNew_eq (a0 a1 : Int) : spec_MemNew.f a0 a1 = some (memNewR a0 a1) := by
 unfold spec_MemNew.f memNewR
 rw [spec_l6In_eq, spec_l6In_eq]
 simp only [Option.bind_some, decide_eq_true_eq]
 by_cases h1 : 0 ≤ a0 ∧ a0 ≤ 40
 ·rw [if_pos h1]
  by_cases h2 : 14 ≤ a1 ∧ a1 ≤ 120
  ·rw [if_pos h2, if_pos (show (0 ≤ a0 ∧ a0 ≤ 40) ∧ (14 ≤ a1 ∧ a1 ≤ 120) from ⟨h1, h2⟩), wrap64_of (n := a0 + a1) (by omega) (by omega), if_pos (by omega), if_pos (by omega), spec_l21Cards_eq a1 (by omega) (by omega)]
   simp only [Option.bind_some]
   rw [if_pos (by omega), if_pos (by omega)]
  ·rw [if_neg h2, if_neg (fun h => h2 h.2)]
 ·rw [if_neg h1, if_neg (fun h => h1 h.1)]
end Go.Proofs.Ytfbkpjjnhengfaa.Pure
namespace Go.Proofs.Ytfbkpjjnhengfaa.Pure
open Go.RowKit Go.Proofs.Ytfbkpjjnhengfaa.K Go.Proofs.YtfbkpjjnhengfaaW.PrintWords Go.Proofs.YtfbkpjjnhengfaaW.PrintLast Go.Proofs.YtfbkpjjnhengfaaW.PrintMore
set_option linter.unusedVariables false
set_option linter.unusedSimpArgs false
theorem Bnd.len {cs : Cs} {ws ws' : List Int} {y t o : Int} {cards cards' : List Bool} (hb : Bnd cs ws y t o cards) (hl : ws'.length = ws.length) (hc : cards'.length = cards.length) : Bnd cs ws' y t o cards' :=
  ⟨hb.ok, hb.y0, hb.y1, by rw [hl]; exact hb.n0, by rw [hl]; exact hb.n1, hb.t0, hb.t1, hb.o0, by rw [hl]; exact hb.o1, by rw [hl, hc]; exact hb.cd⟩
theorem measN_pos {cs : Cs} (h : csOk cs = true) {c n : Int} (hc : -2 ≤ c ∧ c < cs.length) (hn : 0 ≤ n ∧ n ≤ 6) : measN (allF cs) c n ≠ 0 := by
 by_cases z : 0 ≤ c
 ·rw [measN_c n z hc.2]; omega
 ·unfold measN
  rw [if_pos (by omega), if_pos hn]; omega
theorem tryM_cases {cs : Cs} {ws : List Int} {y t o : Int} {cards : List Bool} (hb : Bnd cs ws y t o cards) {c n : Int} {v : Bool} (h0 : measN (allF cs) c n ≠ 0) {ws1 : List Int} {y1 t1 o1 : Int} {cd1 : List Bool} {a1 : Int} (hR : tryM ws y t o cards c n (measN (allF cs) c n) v = (ws1, y1, t1, o1, cd1, a1)) :
  ws1.length = ws.length ∧ ((a1 = 0 ∧ ws1 = ws ∧ t1 = t ∧ o1 = o) ∨ (1 ≤ a1 ∧ a1 ≤ ws.length ∧ Bnd cs ws1 y t1 o1 cards)) := by
 have n0 := hb.n0; have n1 := hb.n1; have y0 := hb.y0; have y1' := hb.y1; have t0 := hb.t0; have t1' := hb.t1; have o0 := hb.o0; have o1' := hb.o1
 have hz := measN_size hb.ok c n
 obtain ⟨s, hs⟩ : ∃ s, s = measN (allF cs) c n := ⟨_, rfl⟩
 rw [← hs] at hR hz h0
 have hl : ∀ i, (mkW ws i c n).length = ws.length := fun i => mkW_len ws i c n
 unfold tryM tryB at hR
 cases v with
 | true =>
  dsimp only at hR
  by_cases z : o + s ≤ (ws.length : Int)
  ·rw [if_pos (decide_eq_true z)] at hR
   obtain ⟨rfl, rfl, rfl, rfl, rfl, rfl⟩ : mkW ws o c n = ws1 ∧ y = y1 ∧ t = t1 ∧ o + s = o1 ∧ cards = cd1 ∧ o + 1 = a1 := by simpa only [Prod.mk.injEq] using hR
   exact ⟨hl o, .inr ⟨by omega, by omega, hb.ok, y0, y1', by rw [hl]; exact n0, by rw [hl]; exact n1, t0, t1', by omega, by rw [hl]; omega, by rw [hl]; exact hb.cd⟩⟩
  ·rw [if_neg (by rw [decide_eq_true_eq]; exact z)] at hR
   obtain ⟨rfl, rfl, rfl, rfl, rfl, rfl⟩ : ws = ws1 ∧ y = y1 ∧ t = t1 ∧ o = o1 ∧ cards = cd1 ∧ 0 = a1 := by simpa only [Prod.mk.injEq] using hR
   exact ⟨rfl, .inl ⟨rfl, rfl, rfl, rfl⟩⟩
 | false =>
  dsimp only at hR
  by_cases z : t + s ≤ y
  ·rw [if_pos (decide_eq_true z)] at hR
   obtain ⟨rfl, rfl, rfl, rfl, rfl, rfl⟩ : mkW ws t c n = ws1 ∧ y = y1 ∧ t + s = t1 ∧ o = o1 ∧ cards = cd1 ∧ t + 1 = a1 := by simpa only [Prod.mk.injEq] using hR
   exact ⟨hl t, .inr ⟨by omega, by omega, hb.ok, y0, y1', by rw [hl]; exact n0, by rw [hl]; exact n1, by omega, z, o0, by rw [hl]; exact o1', by rw [hl]; exact hb.cd⟩⟩
  ·rw [if_neg (by rw [decide_eq_true_eq]; exact z)] at hR
   obtain ⟨rfl, rfl, rfl, rfl, rfl, rfl⟩ : ws = ws1 ∧ y = y1 ∧ t = t1 ∧ o = o1 ∧ cards = cd1 ∧ 0 = a1 := by simpa only [Prod.mk.injEq] using hR
   exact ⟨rfl, .inl ⟨rfl, rfl, rfl, rfl⟩⟩
theorem Bnd_new {cs : Cs} (h : csOk cs = true) {y n : Int} (hy : 0 ≤ y ∧ y ≤ 40) (hn : 14 ≤ n ∧ n ≤ 120) : Bnd cs (List.replicate (y + n).toNat 0) y 0 y (List.replicate ((n + 3) / 4).toNat false) := by
  have hl : ((List.replicate (y + n).toNat (0 : Int)).length : Int) = y + n := by rw [List.length_replicate]; omega
  exact ⟨h, hy.1, hy.2, by omega, by omega, by omega, by omega, by omega, by omega, by rw [hl, List.length_replicate]; omega⟩
theorem memNew_in {y n : Int} (hy : 0 ≤ y ∧ y ≤ 40) (hn : 14 ≤ n ∧ n ≤ 120) : spec_MemNew.f y n = some (List.replicate (y + n).toNat 0, y, 0, y, List.replicate ((n + 3) / 4).toNat false) := by
  rw [spec_MemNew_eq]; unfold memNewR; rw [if_pos ⟨hy, hn⟩]
end Go.Proofs.Ytfbkpjjnhengfaa.Pure
