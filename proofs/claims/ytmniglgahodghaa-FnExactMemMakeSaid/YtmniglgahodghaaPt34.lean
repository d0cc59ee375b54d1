import Derived.Test.YtmniglgahodghaaPt24
import Derived.Test.YtmniglgahodghaaPt32
import Derived.Test.YtmniglgahodghaaPt33
import Derived.Test.YtmniglgahodghaaPt30
import Derived.Test.YtmniglgahodghaaPt31
namespace Go.Proofs.Ytmniglgahodghaa.K
open Go.RowKit Go.Proofs.YtmniglgahodghaaW.PrintWords Go.Proofs.YtmniglgahodghaaW.PrintLast Go.Proofs.YtmniglgahodghaaW.PrintMore
attribute [local go_sem] max2_int min2_int max_two min_two max_three min_three max_four min_four
set_option linter.unusedVariables false
set_option linter.unusedSimpArgs false
def Mm.setTop (m : Mm) (v : Int) : Mm := { m with top := v }
def Mm.setOld (m : Mm) (v : Int) : Mm := { m with old := v }
def Mm.setB (m : Mm) (l : List Int) : Mm := { m with begins := l }
def mkAt (m : Mm) (o : Bool) : Int := match o with | true => m.old | false => m.top
def mkRoom (m : Mm) (o : Bool) : Int := match o with | true => (m.words.length : Int) - m.old | false => m.young - m.top
def mkTop (m : Mm) (o : Bool) (t : Int) : Mm := match o with | true => m.setOld t | false => m.setTop t
def mkMem (m : Mm) (o : Bool) (x t c n : Int) : Mm := if c < 0 then ((mkTop m o t).setW x c).setW (x + 1) n else (mkTop m o t).setW x c
def memory_make.f (q : Nat) (m : Mm) (c n : Int) (o : Bool) : Option (Int × Mm) :=
  if (∀ r ∈ m.fields, r.length ≤ 1048576) ∧ m.words.length ≤ 1048576 ∧ (0 ≤ m.top ∧ m.top ≤ 1048576) ∧ (0 ≤ m.young ∧ m.young ≤ 1048576) ∧ 0 ≤ m.old ∧ m.old ≤ 1048576 then
    (if measN m.fields c n > mkRoom m o then some (0, m)
     else if mkAt m o < m.words.length ∧ (c < 0 → mkAt m o + 1 < m.words.length) ∧ m.begins.length < 1048576 then
       (slices_BinarySearch_int_int.f q m.begins (mkAt m o + 1)).bind fun i => if 0 ≤ i.1 ∧ i.1 ≤ (m.begins.length : Int) then
         some (mkAt m o + 1, (mkMem m o (mkAt m o) (mkAt m o + measN m.fields c n) c n).setB (m.begins.take i.1.toNat ++ (mkAt m o + 1) :: m.begins.drop i.1.toNat)) else none
     else none)
  else none
theorem mk_short {F : List (List Int)} (h : ∀ r ∈ F, r.length ≤ 1048576) : FShort F := fun c h0 h1 => by
 have e : rdL F c = F[c.toNat]'(by omega) := by unfold rdL; rw [List.getD_eq_getElem?_getD, List.getElem?_eq_getElem (by omega)]; rfl
 have := h (rdL F c) (by rw [e]; exact List.getElem_mem _)
 omega
theorem mk_size {F : List (List Int)} (h : ∀ r ∈ F, r.length ≤ 1048576) (c n : Int) : 0 ≤ measN F c n ∧ measN F c n ≤ 1048577 := by
 unfold measN
 split
 ·split <;> omega
 ·split
  ·next h1 =>
   have e : rdL F c = F[c.toNat]'(by omega) := by unfold rdL; rw [List.getD_eq_getElem?_getD, List.getElem?_eq_getElem (by omega)]; rfl
   have := h (rdL F c) (by rw [e]; exact List.getElem_mem _)
   omega
  ·omega
theorem MO_settop {w : World} {b g : Nat} {m : Mm} (h : MO w b g m) (v : Int) : MO (w.setCell ⟨g, 2, none⟩ (.int .i64 v)) b g (m.setTop v) := by
  obtain ⟨AW, cW, AC, cC, AF, cF, AB, cB, h0, hg, hf, h1, h2, h3, h4⟩ := h
  exact ⟨AW, cW, AC, cC, AF, cF, AB, cB, blk_put h0 2 _ rfl, hg, hf, Kd.R_far h1 (fun _ hk => hk.1.1) _, Kd.R_far h2 (fun _ hk => hk.1.1) _, Kd.F_far h3 (fun _ hk => hk.1.1.1) _, Kd.R_far h4 (fun _ hk => hk.1.1) _⟩
theorem MO_setold {w : World} {b g : Nat} {m : Mm} (h : MO w b g m) (v : Int) : MO (w.setCell ⟨g, 3, none⟩ (.int .i64 v)) b g (m.setOld v) := by
  obtain ⟨AW, cW, AC, cC, AF, cF, AB, cB, h0, hg, hf, h1, h2, h3, h4⟩ := h
  exact ⟨AW, cW, AC, cC, AF, cF, AB, cB, blk_put h0 3 _ rfl, hg, hf, Kd.R_far h1 (fun _ hk => hk.1.1) _, Kd.R_far h2 (fun _ hk => hk.1.1) _, Kd.F_far h3 (fun _ hk => hk.1.1.1) _, Kd.R_far h4 (fun _ hk => hk.1.1) _⟩
set_option maxHeartbeats 32000000 in
set_option maxRecDepth 100000 in
theorem memory_make.calls (q b g : Nat) (m : Mm) (c n : Int) (o : Bool) (r : Int × Mm) (w : World) (hm : MO w b g m) (hb : b ≤ w.heap.size) (h : memory_make.f q m c n o = some r) :
  Calls Try.prog 60 #[.pointer (some ⟨g, 0, none⟩), .int .i64 c, .int .i64 n, .bool o] w fun e w' => e = .returned (.int .i64 r.1) ∧ MO w' b g r.2 ∧ Below b w w' := by
 unfold memory_make.f at h
 split at h
 case isFalse => simp at h
 case isTrue h2 =>
 have hF := Aside0.mk (mk_short h2.1)
 have hsz := mk_size h2.1 c n
 obtain ⟨s, hs⟩ : ∃ s, measN m.fields c n = s := ⟨_, rfl⟩
 obtain ⟨ro, hro⟩ : ∃ z, mkRoom m o = z := ⟨_, rfl⟩
 obtain ⟨x, hx⟩ : ∃ z, mkAt m o = z := ⟨_, rfl⟩
 rw [hs, hro, hx] at h
 rw [hs] at hsz
 have HRO := Aside0.mk hro
 have HX := Aside0.mk hx
 have HS := Aside0.mk hs
 have H2 := Aside0.mk h2.2
 have HSZ := Aside0.mk hsz
 have HO := Aside0.mk hm
 have HBs := Aside0.mk hb
 have HH := Aside0.mk h
 clear hm hb h h2 hs hsz hro hx
 obtain ⟨AW, cW, AC, cC, AF, cF, AB, cB, g0, hg, hf, r1, r2, r3, r4⟩ := HO.out
 have G0 := Aside0.mk g0
 have HFC := Aside0.mk (Kd.F_now r3)
 have HFL := Aside0.mk hf
 have k5 := (blk_cell g0 5).trans rfl
 clear g0 hg hf r1 r2 r3 r4
 go_enter Try.func60, Try.ntmps60
 go_wp2_with fail
 go_at_call 59
 refine (measure_calls AF cF m.fields c n s _ HFC.out HFL.out hF.out HS.out).mono ?_
 rintro e w1 ⟨rfl, hb1⟩
 have HB1 := Aside0.mk (show Below w.heap.size w w1 from hb1)
 have G1 := Aside0.mk (blk_below G0.out hb1)
 clear hb1 k5 hF HFC HFL G0
 have k0 := (blk_cell G1.out 0).trans rfl; have k1 := (blk_cell G1.out 1).trans rfl; have k2 := (blk_cell G1.out 2).trans rfl; have k3 := (blk_cell G1.out 3).trans rfl; have k4 := (blk_cell G1.out 4).trans rfl
 have hh := HH.out
 clear HH
 cases o with
 | true =>
  have h2 := H2.out
  have hz := HSZ.out
  have hro : ((m.words.length : Int) - m.old) = ro := HRO.out
  have hx : m.old = x := HX.out
  subst hx
  have q1 : IntKind.i64.wrap ((m.words.length : Int) - m.old) = ro := by rw [← hro]; exact IntWalk.i64_in _ ⟨by omega, by omega⟩
  have q1' : wrap64 ((m.words.length : Int) - m.old) = ro := by unfold wrap64; omega
  by_cases c1 : s > ro
  ·rw [if_pos c1] at hh
   have HR := Aside0.mk (Option.some.inj hh)
   have d1 : decide (s > ro) = true := decide_eq_true c1
   clear hh h2 hz c1 hro
   go_wp2
   refine start_ (n := 14) (S := fun w' => w'.cell? ⟨g, 0, none⟩ = some (.slice AW m.words.length cW) ∧ w'.cell? ⟨g, 1, none⟩ = some (.int .i64 m.young) ∧ w'.cell? ⟨g, 2, none⟩ = some (.int .i64 m.top) ∧ w'.cell? ⟨g, 3, none⟩ = some (.int .i64 m.old) ∧ w'.cell? ⟨g, 4, none⟩ = some (.slice AC m.cards.length cC)) (ds := []) #[false, false, false, false, false, false, false, false, false, false, false, false, false, false] (by kernel_rfl) rfl rfl ⟨(by go_simp), (by go_simp), (by go_simp), (by go_simp), (by go_simp)⟩ (fun hHeld => ?_)
   refine pS 0 31 (lA 14 1) ?_
   refine pS 1 32 (lA 14 3) ?_
   refine pS 2 33 (lA 14 7) ?_
   refine pS 3 34 (lA 14 15) ?_
   refine pS 4 35 (lA 14 31) ?_
   refine pS 7 38 (lA 14 159) ?_
   refine pS 8 39 (lA 14 415) ?_
   refine pS 9 40 (lA 14 927) ?_
   refine pS 10 41 (lA 14 1951) ?_
   refine tS 5 36 (lA 14 1983) rfl rfl (by kernel_rfl) hHeld z11 ?_
   refine pS 6 37 (lA 14 2047) ?_
   refine tS 11 42 (lA 14 4095) rfl rfl (by kernel_rfl) hHeld z11 ?_
   refine pS 12 43 (lA 14 8191) ?_
   refine pS 13 44 (lA 14 16383) ?_
   refine done_ (by kernel_rfl) ?_
   go_wp2
   go_ret
   exact ⟨by rw [← HR.out]; rfl, by rw [← HR.out]; exact MO_below HO.out (below_drew1 HB1.out), below_then (Below.refl _ _) HBs.out (below_drew1 HB1.out)⟩
  rw [if_neg c1] at hh
  split at hh
  case isFalse => simp at hh
  case isTrue h3 =>
  obtain ⟨⟨i0, fd⟩, hi, hh⟩ := Option.bind_eq_some_iff.mp hh
  split at hh
  case isFalse => simp at hh
  case isTrue h4 =>
  obtain ⟨j, rfl⟩ := Int.eq_ofNat_of_zero_le h4.1
  have HR := Aside0.mk (Option.some.inj hh)
  have H3 := Aside0.mk h3
  have HJ := Aside0.mk (show m.begins.length + 1 ≤ 1048576 ∧ j ≤ m.begins.length from ⟨h3.2.2, Int.ofNat_le.mp h4.2⟩)
  have d1 : decide (s > ro) = false := decide_eq_false c1
  obtain ⟨y, hy⟩ : ∃ y, y = m.old + 1 := ⟨_, rfl⟩
  obtain ⟨t, ht⟩ : ∃ t, t = m.old + s := ⟨_, rfl⟩
  have HY := Aside0.mk hy
  have HT := Aside0.mk ht
  have H0 := Aside0.mk (show 0 ≤ m.old by omega)
  have q2 : IntKind.i64.wrap (m.old + s) = t := by rw [ht]; exact IntWalk.i64_in _ ⟨by omega, by omega⟩
  have q3 : IntKind.i64.wrap (m.old + 1) = y := by rw [hy]; exact IntWalk.i64_in _ ⟨by omega, by omega⟩
  have HI := Aside0.mk (show slices_BinarySearch_int_int.f q m.begins y = some ((j : Int), fd) by rw [hy]; exact hi)
  have fz := blk_frozen (blk_drew G1.out) 3
  clear hh hi h2 hz h3 h4 c1 hro hy ht
  go_wp2
  refine start_ (n := 14) (S := fun w' => w'.cell? ⟨g, 0, none⟩ = some (.slice AW m.words.length cW) ∧ w'.cell? ⟨g, 1, none⟩ = some (.int .i64 m.young) ∧ w'.cell? ⟨g, 2, none⟩ = some (.int .i64 m.top) ∧ w'.cell? ⟨g, 3, none⟩ = some (.int .i64 m.old) ∧ w'.cell? ⟨g, 4, none⟩ = some (.slice AC m.cards.length cC)) (ds := []) #[false, false, false, false, false, false, false, false, false, false, false, false, false, false] (by kernel_rfl) rfl rfl ⟨(by go_simp), (by go_simp), (by go_simp), (by go_simp), (by go_simp)⟩ (fun hHeld => ?_)
  refine pS 0 31 (lA 14 1) ?_
  refine pS 1 32 (lA 14 3) ?_
  refine pS 2 33 (lA 14 7) ?_
  refine pS 3 34 (lA 14 15) ?_
  refine pS 4 35 (lA 14 31) ?_
  refine pS 7 38 (lA 14 159) ?_
  refine pS 8 39 (lA 14 415) ?_
  refine pS 9 40 (lA 14 927) ?_
  refine pS 10 41 (lA 14 1951) ?_
  refine tS 5 36 (lA 14 1983) rfl rfl (by kernel_rfl) hHeld z11 ?_
  refine pS 6 37 (lA 14 2047) ?_
  refine tS 11 42 (lA 14 4095) rfl rfl (by kernel_rfl) hHeld z11 ?_
  refine pS 12 43 (lA 14 8191) ?_
  refine pS 13 44 (lA 14 16383) ?_
  refine done_ (by kernel_rfl) ?_
  by_cases c2 : c < 0
  ·have d2 : decide (c < 0) = true := decide_eq_true c2
   have HR2 := Aside0.mk (show r = (y, (((m.setOld t).setW m.old c).setW y n).setB (m.begins.take j ++ y :: m.begins.drop j)) from (by rw [← HR.out, HY.out, HT.out]; unfold mkMem mkTop; rw [if_pos c2]; rfl))
   have HN4 := Aside0.mk (show y < (m.words.length : Int) from by rw [HY.out]; exact H3.out.2.1 c2)
   clear c2
   go_wp2_with (first | ((with_reducible refine gate_store (t := 3) (p := 54) rfl ?_); refine store_event (t := 3) (p := 54) (v := ?vo54_w5) (w1 := (w1.drew.setCell ⟨g, 3, none⟩ (.int .i64 t))) ?hg ?ho ?hn ?hr ?_; (case ho => rfl); (case hg => rfl); (case hn => rfl); (case hr => first | (go_simp; done) | (go_simp; rfl)); intro w5 hw; have HO5 := Aside0.mk (show MO w5 b g (m.setOld t) from (by rw [hw]; exact MO_setold (MO_below HO.out (below_drew1 HB1.out)) t)); have HB5 := Aside0.mk (show Below b w w5 from (by rw [hw]; exact (below_then (Below.refl _ _) HBs.out (below_drew1 HB1.out)).setCell (MO_base HO.out) _)); clear hw k0 k1 k2 k3 k4 fz; obtain ⟨AW, cW, AC, cC, AF, cF, AB, cB, g0, hg, hf, r1, r2, r3, r4⟩ := HO5.out; have h2 := H2.out; have h3 := H3.out; have hy := HY.out; have h0_ := H0.out; have h4_ := HN4.out; obtain ⟨gw, cw, hv, hbg, _, _⟩ := Kd.R_form r1 z29; injection hv with e1 e2 e3; subst e1 e3; have HN := Aside0.mk (MO_setword m.old c g0 hg hf r1 r2 r3 r4); obtain ⟨x0, f0⟩ := Kd.R_cell (enc := Value.int .i64) (h1 := fun _ => rfl) 0 r1 m.old (by omega) z29; have HBg := Aside0.mk hbg; have p1 := eq_true (show 0 ≤ m.old by omega); have p2 := eq_true (show m.old < ((m.setOld t).words.length : Int) by simp only [Mm.setW, Mm.setOld, Mm.setTop, List.length_set]; omega); have k0 := (blk_cell g0 0).trans rfl; clear h2 h3 hy h0_ h4_ g0 hg hf r1 r2 r3 r4 hbg e2) | ((with_reducible refine gate_store (t := 3) (p := 85) rfl ?_); refine store_event (t := 3) (p := 85) (v := ?vo85_w6) (w1 := (w5.setCell ⟨gw, m.old.toNat, none⟩ (.int .i64 c))) ?hg ?ho ?hn ?hr ?_; (case ho => rfl); (case hg => rfl); (case hn => rfl); (case hr => first | (go_simp; done) | (go_simp; rfl)); intro w6 hw; have HO6 := Aside0.mk (show MO w6 b g ((m.setOld t).setW m.old c) from (by rw [hw]; exact HN.out)); have HB6 := Aside0.mk (show Below b w w6 from (by rw [hw]; exact HB5.out.setCell HBg.out _)); clear hw HN HBg x0 f0 p1 p2 k0; obtain ⟨AW, cW, AC, cC, AF, cF, AB, cB, g0, hg, hf, r1, r2, r3, r4⟩ := HO6.out; have h2 := H2.out; have h3 := H3.out; have hy := HY.out; have h0_ := H0.out; have h4_ := HN4.out; obtain ⟨gw, cw, hv, hbg, _, _⟩ := Kd.R_form r1 z29; injection hv with e1 e2 e3; subst e1 e3; have HN := Aside0.mk (MO_setword y n g0 hg hf r1 r2 r3 r4); obtain ⟨x0, f0⟩ := Kd.R_cell (enc := Value.int .i64) (h1 := fun _ => rfl) 0 r1 y (by omega) z29; have HBg := Aside0.mk hbg; have p1 := eq_true (show 0 ≤ y by omega); have p2 := eq_true (show y < (((m.setOld t).setW m.old c).words.length : Int) by simp only [Mm.setW, Mm.setOld, Mm.setTop, List.length_set]; omega); have k0 := (blk_cell g0 0).trans rfl; clear h2 h3 hy h0_ h4_ g0 hg hf r1 r2 r3 r4 hbg e2) | ((with_reducible refine gate_store (t := 3) (p := 96) rfl ?_); refine store_event (t := 3) (p := 96) (v := ?vo96_w6b) (w1 := (w6.setCell ⟨gw, y.toNat, none⟩ (.int .i64 n))) ?hg ?ho ?hn ?hr ?_; (case ho => rfl); (case hg => rfl); (case hn => rfl); (case hr => first | (go_simp; done) | (go_simp; rfl)); intro w6b hw; have HO6b := Aside0.mk (show MO w6b b g (((m.setOld t).setW m.old c).setW y n) from (by rw [hw]; exact HN.out)); have HB6b := Aside0.mk (show Below b w w6b from (by rw [hw]; exact HB6.out.setCell HBg.out _)); clear hw HN HBg x0 f0 p1 p2 k0; obtain ⟨AW, cW, AC, cC, AF, cF, AB, cB, g0, hg, hf, r1, r2, r3, r4⟩ := HO6b.out; have k6 := (show _ = some (.slice AB m.begins.length cB) from (blk_cell g0 6).trans rfl); have HL4 := Aside0.mk (Kd.R_reads' r4); clear g0 hg hf r1 r2 r3 r4) | (go_at_call 96; refine (slices_BinarySearch_int_int.calls q AB cB m.begins y j fd _ HL4.out.2.2 HL4.out.2.1 HI.out).mono ?_; rintro e w7 ⟨rfl, hd7⟩; have hb7 := hd7.below; clear hd7; have HO7 := Aside0.mk (MO_below HO6b.out hb7); have HB7 := Aside0.mk (below_then HB6b.out (Nat.le_trans HBs.out HB6b.out.size) hb7); clear hb7 k6 HL4; obtain ⟨AW, cW, AC, cC, AF, cF, AB, cB, g0, hg, hf, r1, r2, r3, r4⟩ := HO7.out; have k6 := (show _ = some (.slice AB m.begins.length cB) from (blk_cell g0 6).trans rfl); have G0 := Aside0.mk g0; have HG := Aside0.mk hg; have HF := Aside0.mk hf; have R1 := Aside0.mk r1; have R2 := Aside0.mk r2; have R3 := Aside0.mk r3; have R4 := Aside0.mk r4; clear g0 hg hf r1 r2 r3 r4) | (go_at_call 97; have G8 := Aside0.mk (blk_below G0.out (below_alloc (Below.refl w7.heap.size w7) (.cells #[.int .i64 y] 3))); have S1 := Aside0.mk (Kd.R_below R1.out (below_alloc (Below.refl w7.heap.size w7) (.cells #[.int .i64 y] 3))); have S2 := Aside0.mk (Kd.R_below R2.out (below_alloc (Below.refl w7.heap.size w7) (.cells #[.int .i64 y] 3))); have S3 := Aside0.mk (Kd.F_below R3.out (below_alloc (Below.refl w7.heap.size w7) (.cells #[.int .i64 y] 3))); have S4 := Aside0.mk (Kd.R_below R4.out (below_alloc (Below.refl w7.heap.size w7) (.cells #[.int .i64 y] 3))); refine (ins_calls (i := j) (x := y) (vb := w7.heap.size) S4.out HJ.out.2 HJ.out.1 z30 (fun k hk => ⟨⟨fun e => by have := blk_lt G8.out; omega, fun e => by have := own_lt (Kd.own_of_R (enc := Value.int .i64) (h1 := fun _ => rfl) S1.out) k e.symm; omega⟩, fun e => by have := own_lt (Kd.own_of_R (enc := Value.bool) (h1 := fun _ => rfl) S2.out) k e.symm; omega⟩) (heap_alloc_new w7 (.cells #[.int .i64 y] 3)) (fun e => by have := own_lt (Kd.own_of_R (enc := Value.int .i64) (h1 := fun _ => rfl) R4.out) _ e.symm; omega)).mono ?_; rintro e w9 ⟨AN, cN, rfl, hR, hgr, hat⟩; have g9 := blk_grown G8.out hgr (Kd.R_away S4.out (fun _ hk => hk.1.1)); clear k6; have k6 := (blk_cell g9 6).trans rfl; have f6 := blk_frozen g9 6; have HNB := Aside0.mk (MO_begins (m := ((m.setOld t).setW m.old c).setW y n) G8.out HG.out HF.out S1.out S2.out S3.out S4.out hR hgr hat); have hz8 : b ≤ (w7.alloc (.cells #[.int .i64 y] 3)).heap.size := z30; have hb8 : ∀ k, (Value.slice AB (((m.setOld t).setW m.old c).setW y n).begins.length cB).ownBlock = some k → b ≤ k := (fun k hk => own_base (Kd.own_of_R (enc := Value.int .i64) (h1 := fun _ => rfl) S4.out) k hk); have HB9 := Aside0.mk (show Below b w w9 from (HB7.out.alloc (Nat.le_trans HBs.out HB7.out.size) (.cells #[.int .i64 y] 3)).grown hgr hz8 hb8); clear hz8 hb8; clear hR hgr hat g9) | ((with_reducible refine gate_store (t := 23) (p := 118) rfl ?_); refine store_event (t := 23) (p := 118) (v := ?vo118_w10) (w1 := (w9.setCell ⟨g, 6, none⟩ (.slice AN (m.begins.take j ++ y :: m.begins.drop j).length cN))) ?hg ?ho ?hn ?hr ?_; (case ho => rfl); (case hg => rfl); (case hn => rfl); (case hr => first | (go_simp; done) | (go_simp; rfl)); intro w10 hw; have HO10 := Aside0.mk (show MO w10 b g ((((m.setOld t).setW m.old c).setW y n).setB (m.begins.take j ++ y :: m.begins.drop j)) from (by rw [hw]; exact HNB.out)); have HB10 := Aside0.mk (show Below b w w10 from (by rw [hw]; exact HB9.out.setCell HG.out _)); clear hw k6 f6))
   go_ret
   exact ⟨by rw [HR2.out]; rfl, by rw [HR2.out]; exact HO10.out, HB10.out⟩
  ·have d2 : decide (c < 0) = false := decide_eq_false c2
   have HR2 := Aside0.mk (show r = (y, ((m.setOld t).setW m.old c).setB (m.begins.take j ++ y :: m.begins.drop j)) from (by rw [← HR.out, HY.out, HT.out]; unfold mkMem mkTop; rw [if_neg c2]; rfl))
   have HN4 := Aside0.mk (show True from trivial)
   clear c2
   go_wp2_with (first | ((with_reducible refine gate_store (t := 3) (p := 54) rfl ?_); refine store_event (t := 3) (p := 54) (v := ?vo54_w5) (w1 := (w1.drew.setCell ⟨g, 3, none⟩ (.int .i64 t))) ?hg ?ho ?hn ?hr ?_; (case ho => rfl); (case hg => rfl); (case hn => rfl); (case hr => first | (go_simp; done) | (go_simp; rfl)); intro w5 hw; have HO5 := Aside0.mk (show MO w5 b g (m.setOld t) from (by rw [hw]; exact MO_setold (MO_below HO.out (below_drew1 HB1.out)) t)); have HB5 := Aside0.mk (show Below b w w5 from (by rw [hw]; exact (below_then (Below.refl _ _) HBs.out (below_drew1 HB1.out)).setCell (MO_base HO.out) _)); clear hw k0 k1 k2 k3 k4 fz; obtain ⟨AW, cW, AC, cC, AF, cF, AB, cB, g0, hg, hf, r1, r2, r3, r4⟩ := HO5.out; have h2 := H2.out; have h3 := H3.out; have hy := HY.out; have h0_ := H0.out; have h4_ := HN4.out; obtain ⟨gw, cw, hv, hbg, _, _⟩ := Kd.R_form r1 z29; injection hv with e1 e2 e3; subst e1 e3; have HN := Aside0.mk (MO_setword m.old c g0 hg hf r1 r2 r3 r4); obtain ⟨x0, f0⟩ := Kd.R_cell (enc := Value.int .i64) (h1 := fun _ => rfl) 0 r1 m.old (by omega) z29; have HBg := Aside0.mk hbg; have p1 := eq_true (show 0 ≤ m.old by omega); have p2 := eq_true (show m.old < ((m.setOld t).words.length : Int) by simp only [Mm.setW, Mm.setOld, Mm.setTop, List.length_set]; omega); have k0 := (blk_cell g0 0).trans rfl; clear h2 h3 hy h0_ h4_ g0 hg hf r1 r2 r3 r4 hbg e2) | ((with_reducible refine gate_store (t := 3) (p := 85) rfl ?_); refine store_event (t := 3) (p := 85) (v := ?vo85_w6) (w1 := (w5.setCell ⟨gw, m.old.toNat, none⟩ (.int .i64 c))) ?hg ?ho ?hn ?hr ?_; (case ho => rfl); (case hg => rfl); (case hn => rfl); (case hr => first | (go_simp; done) | (go_simp; rfl)); intro w6 hw; have HO6 := Aside0.mk (show MO w6 b g ((m.setOld t).setW m.old c) from (by rw [hw]; exact HN.out)); have HB6 := Aside0.mk (show Below b w w6 from (by rw [hw]; exact HB5.out.setCell HBg.out _)); clear hw HN HBg x0 f0 p1 p2 k0; obtain ⟨AW, cW, AC, cC, AF, cF, AB, cB, g0, hg, hf, r1, r2, r3, r4⟩ := HO6.out; have k6 := (show _ = some (.slice AB m.begins.length cB) from (blk_cell g0 6).trans rfl); have HL4 := Aside0.mk (Kd.R_reads' r4); clear g0 hg hf r1 r2 r3 r4) | (go_at_call 96; refine (slices_BinarySearch_int_int.calls q AB cB m.begins y j fd _ HL4.out.2.2 HL4.out.2.1 HI.out).mono ?_; rintro e w7 ⟨rfl, hd7⟩; have hb7 := hd7.below; clear hd7; have HO7 := Aside0.mk (MO_below HO6.out hb7); have HB7 := Aside0.mk (below_then HB6.out (Nat.le_trans HBs.out HB6.out.size) hb7); clear hb7 k6 HL4; obtain ⟨AW, cW, AC, cC, AF, cF, AB, cB, g0, hg, hf, r1, r2, r3, r4⟩ := HO7.out; have k6 := (show _ = some (.slice AB m.begins.length cB) from (blk_cell g0 6).trans rfl); have G0 := Aside0.mk g0; have HG := Aside0.mk hg; have HF := Aside0.mk hf; have R1 := Aside0.mk r1; have R2 := Aside0.mk r2; have R3 := Aside0.mk r3; have R4 := Aside0.mk r4; clear g0 hg hf r1 r2 r3 r4) | (go_at_call 97; have G8 := Aside0.mk (blk_below G0.out (below_alloc (Below.refl w7.heap.size w7) (.cells #[.int .i64 y] 3))); have S1 := Aside0.mk (Kd.R_below R1.out (below_alloc (Below.refl w7.heap.size w7) (.cells #[.int .i64 y] 3))); have S2 := Aside0.mk (Kd.R_below R2.out (below_alloc (Below.refl w7.heap.size w7) (.cells #[.int .i64 y] 3))); have S3 := Aside0.mk (Kd.F_below R3.out (below_alloc (Below.refl w7.heap.size w7) (.cells #[.int .i64 y] 3))); have S4 := Aside0.mk (Kd.R_below R4.out (below_alloc (Below.refl w7.heap.size w7) (.cells #[.int .i64 y] 3))); refine (ins_calls (i := j) (x := y) (vb := w7.heap.size) S4.out HJ.out.2 HJ.out.1 z30 (fun k hk => ⟨⟨fun e => by have := blk_lt G8.out; omega, fun e => by have := own_lt (Kd.own_of_R (enc := Value.int .i64) (h1 := fun _ => rfl) S1.out) k e.symm; omega⟩, fun e => by have := own_lt (Kd.own_of_R (enc := Value.bool) (h1 := fun _ => rfl) S2.out) k e.symm; omega⟩) (heap_alloc_new w7 (.cells #[.int .i64 y] 3)) (fun e => by have := own_lt (Kd.own_of_R (enc := Value.int .i64) (h1 := fun _ => rfl) R4.out) _ e.symm; omega)).mono ?_; rintro e w9 ⟨AN, cN, rfl, hR, hgr, hat⟩; have g9 := blk_grown G8.out hgr (Kd.R_away S4.out (fun _ hk => hk.1.1)); clear k6; have k6 := (blk_cell g9 6).trans rfl; have f6 := blk_frozen g9 6; have HNB := Aside0.mk (MO_begins (m := (m.setOld t).setW m.old c) G8.out HG.out HF.out S1.out S2.out S3.out S4.out hR hgr hat); have hz8 : b ≤ (w7.alloc (.cells #[.int .i64 y] 3)).heap.size := z30; have hb8 : ∀ k, (Value.slice AB ((m.setOld t).setW m.old c).begins.length cB).ownBlock = some k → b ≤ k := (fun k hk => own_base (Kd.own_of_R (enc := Value.int .i64) (h1 := fun _ => rfl) S4.out) k hk); have HB9 := Aside0.mk (show Below b w w9 from (HB7.out.alloc (Nat.le_trans HBs.out HB7.out.size) (.cells #[.int .i64 y] 3)).grown hgr hz8 hb8); clear hz8 hb8; clear hR hgr hat g9) | ((with_reducible refine gate_store (t := 23) (p := 118) rfl ?_); refine store_event (t := 23) (p := 118) (v := ?vo118_w10) (w1 := (w9.setCell ⟨g, 6, none⟩ (.slice AN (m.begins.take j ++ y :: m.begins.drop j).length cN))) ?hg ?ho ?hn ?hr ?_; (case ho => rfl); (case hg => rfl); (case hn => rfl); (case hr => first | (go_simp; done) | (go_simp; rfl)); intro w10 hw; have HO10 := Aside0.mk (show MO w10 b g (((m.setOld t).setW m.old c).setB (m.begins.take j ++ y :: m.begins.drop j)) from (by rw [hw]; exact HNB.out)); have HB10 := Aside0.mk (show Below b w w10 from (by rw [hw]; exact HB9.out.setCell HG.out _)); clear hw k6 f6))
   go_ret
   exact ⟨by rw [HR2.out]; rfl, by rw [HR2.out]; exact HO10.out, HB10.out⟩
 | false =>
  have h2 := H2.out
  have hz := HSZ.out
  have hro : (m.young - m.top) = ro := HRO.out
  have hx : m.top = x := HX.out
  subst hx
  have q1 : IntKind.i64.wrap (m.young - m.top) = ro := by rw [← hro]; exact IntWalk.i64_in _ ⟨by omega, by omega⟩
  have q1' : wrap64 (m.young - m.top) = ro := by unfold wrap64; omega
  by_cases c1 : s > ro
  ·rw [if_pos c1] at hh
   have HR := Aside0.mk (Option.some.inj hh)
   have d1 : decide (s > ro) = true := decide_eq_true c1
   clear hh h2 hz c1 hro
   go_wp2
   refine start_ (n := 13) (S := fun w' => w'.cell? ⟨g, 0, none⟩ = some (.slice AW m.words.length cW) ∧ w'.cell? ⟨g, 1, none⟩ = some (.int .i64 m.young) ∧ w'.cell? ⟨g, 2, none⟩ = some (.int .i64 m.top) ∧ w'.cell? ⟨g, 3, none⟩ = some (.int .i64 m.old) ∧ w'.cell? ⟨g, 4, none⟩ = some (.slice AC m.cards.length cC)) (ds := []) #[false, false, false, false, false, false, false, false, false, false, false, false, false] (by kernel_rfl) rfl rfl ⟨(by go_simp), (by go_simp), (by go_simp), (by go_simp), (by go_simp)⟩ (fun hHeld => ?_)
   refine pS 0 55 (lA 13 1) ?_
   refine pS 1 56 (lA 13 3) ?_
   refine pS 2 57 (lA 13 7) ?_
   refine pS 3 58 (lA 13 15) ?_
   refine pS 4 59 (lA 13 31) ?_
   refine pS 6 61 (lA 13 95) ?_
   refine pS 7 62 (lA 13 223) ?_
   refine pS 8 63 (lA 13 479) ?_
   refine pS 9 64 (lA 13 991) ?_
   refine tS 5 60 (lA 13 1023) rfl rfl (by kernel_rfl) hHeld z11 ?_
   refine tS 10 65 (lA 13 2047) rfl rfl (by kernel_rfl) hHeld z11 ?_
   refine pS 11 66 (lA 13 4095) ?_
   refine pS 12 67 (lA 13 8191) ?_
   refine done_ (by kernel_rfl) ?_
   go_wp2
   go_ret
   exact ⟨by rw [← HR.out]; rfl, by rw [← HR.out]; exact MO_below HO.out (below_drew1 HB1.out), below_then (Below.refl _ _) HBs.out (below_drew1 HB1.out)⟩
  rw [if_neg c1] at hh
  split at hh
  case isFalse => simp at hh
  case isTrue h3 =>
  obtain ⟨⟨i0, fd⟩, hi, hh⟩ := Option.bind_eq_some_iff.mp hh
  split at hh
  case isFalse => simp at hh
  case isTrue h4 =>
  obtain ⟨j, rfl⟩ := Int.eq_ofNat_of_zero_le h4.1
  have HR := Aside0.mk (Option.some.inj hh)
  have H3 := Aside0.mk h3
  have HJ := Aside0.mk (show m.begins.length + 1 ≤ 1048576 ∧ j ≤ m.begins.length from ⟨h3.2.2, Int.ofNat_le.mp h4.2⟩)
  have d1 : decide (s > ro) = false := decide_eq_false c1
  obtain ⟨y, hy⟩ : ∃ y, y = m.top + 1 := ⟨_, rfl⟩
  obtain ⟨t, ht⟩ : ∃ t, t = m.top + s := ⟨_, rfl⟩
  have HY := Aside0.mk hy
  have HT := Aside0.mk ht
  have H0 := Aside0.mk (show 0 ≤ m.top by omega)
  have q2 : IntKind.i64.wrap (m.top + s) = t := by rw [ht]; exact IntWalk.i64_in _ ⟨by omega, by omega⟩
  have q3 : IntKind.i64.wrap (m.top + 1) = y := by rw [hy]; exact IntWalk.i64_in _ ⟨by omega, by omega⟩
  have HI := Aside0.mk (show slices_BinarySearch_int_int.f q m.begins y = some ((j : Int), fd) by rw [hy]; exact hi)
  have fz := blk_frozen (blk_drew G1.out) 2
  clear hh hi h2 hz h3 h4 c1 hro hy ht
  go_wp2
  refine start_ (n := 13) (S := fun w' => w'.cell? ⟨g, 0, none⟩ = some (.slice AW m.words.length cW) ∧ w'.cell? ⟨g, 1, none⟩ = some (.int .i64 m.young) ∧ w'.cell? ⟨g, 2, none⟩ = some (.int .i64 m.top) ∧ w'.cell? ⟨g, 3, none⟩ = some (.int .i64 m.old) ∧ w'.cell? ⟨g, 4, none⟩ = some (.slice AC m.cards.length cC)) (ds := []) #[false, false, false, false, false, false, false, false, false, false, false, false, false] (by kernel_rfl) rfl rfl ⟨(by go_simp), (by go_simp), (by go_simp), (by go_simp), (by go_simp)⟩ (fun hHeld => ?_)
  refine pS 0 55 (lA 13 1) ?_
  refine pS 1 56 (lA 13 3) ?_
  refine pS 2 57 (lA 13 7) ?_
  refine pS 3 58 (lA 13 15) ?_
  refine pS 4 59 (lA 13 31) ?_
  refine pS 6 61 (lA 13 95) ?_
  refine pS 7 62 (lA 13 223) ?_
  refine pS 8 63 (lA 13 479) ?_
  refine pS 9 64 (lA 13 991) ?_
  refine tS 5 60 (lA 13 1023) rfl rfl (by kernel_rfl) hHeld z11 ?_
  refine tS 10 65 (lA 13 2047) rfl rfl (by kernel_rfl) hHeld z11 ?_
  refine pS 11 66 (lA 13 4095) ?_
  refine pS 12 67 (lA 13 8191) ?_
  refine done_ (by kernel_rfl) ?_
  by_cases c2 : c < 0
  ·have d2 : decide (c < 0) = true := decide_eq_true c2
   have HR2 := Aside0.mk (show r = (y, (((m.setTop t).setW m.top c).setW y n).setB (m.begins.take j ++ y :: m.begins.drop j)) from (by rw [← HR.out, HY.out, HT.out]; unfold mkMem mkTop; rw [if_pos c2]; rfl))
   have HN4 := Aside0.mk (show y < (m.words.length : Int) from by rw [HY.out]; exact H3.out.2.1 c2)
   clear c2
   go_wp2_with (first | ((with_reducible refine gate_store (t := 3) (p := 77) rfl ?_); refine store_event (t := 3) (p := 77) (v := ?vo77_w5) (w1 := (w1.drew.setCell ⟨g, 2, none⟩ (.int .i64 t))) ?hg ?ho ?hn ?hr ?_; (case ho => rfl); (case hg => rfl); (case hn => rfl); (case hr => first | (go_simp; done) | (go_simp; rfl)); intro w5 hw; have HO5 := Aside0.mk (show MO w5 b g (m.setTop t) from (by rw [hw]; exact MO_settop (MO_below HO.out (below_drew1 HB1.out)) t)); have HB5 := Aside0.mk (show Below b w w5 from (by rw [hw]; exact (below_then (Below.refl _ _) HBs.out (below_drew1 HB1.out)).setCell (MO_base HO.out) _)); clear hw k0 k1 k2 k3 k4 fz; obtain ⟨AW, cW, AC, cC, AF, cF, AB, cB, g0, hg, hf, r1, r2, r3, r4⟩ := HO5.out; have h2 := H2.out; have h3 := H3.out; have hy := HY.out; have h0_ := H0.out; have h4_ := HN4.out; obtain ⟨gw, cw, hv, hbg, _, _⟩ := Kd.R_form r1 z29; injection hv with e1 e2 e3; subst e1 e3; have HN := Aside0.mk (MO_setword m.top c g0 hg hf r1 r2 r3 r4); obtain ⟨x0, f0⟩ := Kd.R_cell (enc := Value.int .i64) (h1 := fun _ => rfl) 0 r1 m.top (by omega) z29; have HBg := Aside0.mk hbg; have p1 := eq_true (show 0 ≤ m.top by omega); have p2 := eq_true (show m.top < ((m.setTop t).words.length : Int) by simp only [Mm.setW, Mm.setOld, Mm.setTop, List.length_set]; omega); have k0 := (blk_cell g0 0).trans rfl; clear h2 h3 hy h0_ h4_ g0 hg hf r1 r2 r3 r4 hbg e2) | ((with_reducible refine gate_store (t := 3) (p := 85) rfl ?_); refine store_event (t := 3) (p := 85) (v := ?vo85_w6) (w1 := (w5.setCell ⟨gw, m.top.toNat, none⟩ (.int .i64 c))) ?hg ?ho ?hn ?hr ?_; (case ho => rfl); (case hg => rfl); (case hn => rfl); (case hr => first | (go_simp; done) | (go_simp; rfl)); intro w6 hw; have HO6 := Aside0.mk (show MO w6 b g ((m.setTop t).setW m.top c) from (by rw [hw]; exact HN.out)); have HB6 := Aside0.mk (show Below b w w6 from (by rw [hw]; exact HB5.out.setCell HBg.out _)); clear hw HN HBg x0 f0 p1 p2 k0; obtain ⟨AW, cW, AC, cC, AF, cF, AB, cB, g0, hg, hf, r1, r2, r3, r4⟩ := HO6.out; have h2 := H2.out; have h3 := H3.out; have hy := HY.out; have h0_ := H0.out; have h4_ := HN4.out; obtain ⟨gw, cw, hv, hbg, _, _⟩ := Kd.R_form r1 z29; injection hv with e1 e2 e3; subst e1 e3; have HN := Aside0.mk (MO_setword y n g0 hg hf r1 r2 r3 r4); obtain ⟨x0, f0⟩ := Kd.R_cell (enc := Value.int .i64) (h1 := fun _ => rfl) 0 r1 y (by omega) z29; have HBg := Aside0.mk hbg; have p1 := eq_true (show 0 ≤ y by omega); have p2 := eq_true (show y < (((m.setTop t).setW m.top c).words.length : Int) by simp only [Mm.setW, Mm.setOld, Mm.setTop, List.length_set]; omega); have k0 := (blk_cell g0 0).trans rfl; clear h2 h3 hy h0_ h4_ g0 hg hf r1 r2 r3 r4 hbg e2) | ((with_reducible refine gate_store (t := 3) (p := 96) rfl ?_); refine store_event (t := 3) (p := 96) (v := ?vo96_w6b) (w1 := (w6.setCell ⟨gw, y.toNat, none⟩ (.int .i64 n))) ?hg ?ho ?hn ?hr ?_; (case ho => rfl); (case hg => rfl); (case hn => rfl); (case hr => first | (go_simp; done) | (go_simp; rfl)); intro w6b hw; have HO6b := Aside0.mk (show MO w6b b g (((m.setTop t).setW m.top c).setW y n) from (by rw [hw]; exact HN.out)); have HB6b := Aside0.mk (show Below b w w6b from (by rw [hw]; exact HB6.out.setCell HBg.out _)); clear hw HN HBg x0 f0 p1 p2 k0; obtain ⟨AW, cW, AC, cC, AF, cF, AB, cB, g0, hg, hf, r1, r2, r3, r4⟩ := HO6b.out; have k6 := (show _ = some (.slice AB m.begins.length cB) from (blk_cell g0 6).trans rfl); have HL4 := Aside0.mk (Kd.R_reads' r4); clear g0 hg hf r1 r2 r3 r4) | (go_at_call 96; refine (slices_BinarySearch_int_int.calls q AB cB m.begins y j fd _ HL4.out.2.2 HL4.out.2.1 HI.out).mono ?_; rintro e w7 ⟨rfl, hd7⟩; have hb7 := hd7.below; clear hd7; have HO7 := Aside0.mk (MO_below HO6b.out hb7); have HB7 := Aside0.mk (below_then HB6b.out (Nat.le_trans HBs.out HB6b.out.size) hb7); clear hb7 k6 HL4; obtain ⟨AW, cW, AC, cC, AF, cF, AB, cB, g0, hg, hf, r1, r2, r3, r4⟩ := HO7.out; have k6 := (show _ = some (.slice AB m.begins.length cB) from (blk_cell g0 6).trans rfl); have G0 := Aside0.mk g0; have HG := Aside0.mk hg; have HF := Aside0.mk hf; have R1 := Aside0.mk r1; have R2 := Aside0.mk r2; have R3 := Aside0.mk r3; have R4 := Aside0.mk r4; clear g0 hg hf r1 r2 r3 r4) | (go_at_call 97; have G8 := Aside0.mk (blk_below G0.out (below_alloc (Below.refl w7.heap.size w7) (.cells #[.int .i64 y] 3))); have S1 := Aside0.mk (Kd.R_below R1.out (below_alloc (Below.refl w7.heap.size w7) (.cells #[.int .i64 y] 3))); have S2 := Aside0.mk (Kd.R_below R2.out (below_alloc (Below.refl w7.heap.size w7) (.cells #[.int .i64 y] 3))); have S3 := Aside0.mk (Kd.F_below R3.out (below_alloc (Below.refl w7.heap.size w7) (.cells #[.int .i64 y] 3))); have S4 := Aside0.mk (Kd.R_below R4.out (below_alloc (Below.refl w7.heap.size w7) (.cells #[.int .i64 y] 3))); refine (ins_calls (i := j) (x := y) (vb := w7.heap.size) S4.out HJ.out.2 HJ.out.1 z30 (fun k hk => ⟨⟨fun e => by have := blk_lt G8.out; omega, fun e => by have := own_lt (Kd.own_of_R (enc := Value.int .i64) (h1 := fun _ => rfl) S1.out) k e.symm; omega⟩, fun e => by have := own_lt (Kd.own_of_R (enc := Value.bool) (h1 := fun _ => rfl) S2.out) k e.symm; omega⟩) (heap_alloc_new w7 (.cells #[.int .i64 y] 3)) (fun e => by have := own_lt (Kd.own_of_R (enc := Value.int .i64) (h1 := fun _ => rfl) R4.out) _ e.symm; omega)).mono ?_; rintro e w9 ⟨AN, cN, rfl, hR, hgr, hat⟩; have g9 := blk_grown G8.out hgr (Kd.R_away S4.out (fun _ hk => hk.1.1)); clear k6; have k6 := (blk_cell g9 6).trans rfl; have f6 := blk_frozen g9 6; have HNB := Aside0.mk (MO_begins (m := ((m.setTop t).setW m.top c).setW y n) G8.out HG.out HF.out S1.out S2.out S3.out S4.out hR hgr hat); have hz8 : b ≤ (w7.alloc (.cells #[.int .i64 y] 3)).heap.size := z30; have hb8 : ∀ k, (Value.slice AB (((m.setTop t).setW m.top c).setW y n).begins.length cB).ownBlock = some k → b ≤ k := (fun k hk => own_base (Kd.own_of_R (enc := Value.int .i64) (h1 := fun _ => rfl) S4.out) k hk); have HB9 := Aside0.mk (show Below b w w9 from (HB7.out.alloc (Nat.le_trans HBs.out HB7.out.size) (.cells #[.int .i64 y] 3)).grown hgr hz8 hb8); clear hz8 hb8; clear hR hgr hat g9) | ((with_reducible refine gate_store (t := 23) (p := 118) rfl ?_); refine store_event (t := 23) (p := 118) (v := ?vo118_w10) (w1 := (w9.setCell ⟨g, 6, none⟩ (.slice AN (m.begins.take j ++ y :: m.begins.drop j).length cN))) ?hg ?ho ?hn ?hr ?_; (case ho => rfl); (case hg => rfl); (case hn => rfl); (case hr => first | (go_simp; done) | (go_simp; rfl)); intro w10 hw; have HO10 := Aside0.mk (show MO w10 b g ((((m.setTop t).setW m.top c).setW y n).setB (m.begins.take j ++ y :: m.begins.drop j)) from (by rw [hw]; exact HNB.out)); have HB10 := Aside0.mk (show Below b w w10 from (by rw [hw]; exact HB9.out.setCell HG.out _)); clear hw k6 f6))
   go_ret
   exact ⟨by rw [HR2.out]; rfl, by rw [HR2.out]; exact HO10.out, HB10.out⟩
  ·have d2 : decide (c < 0) = false := decide_eq_false c2
   have HR2 := Aside0.mk (show r = (y, ((m.setTop t).setW m.top c).setB (m.begins.take j ++ y :: m.begins.drop j)) from (by rw [← HR.out, HY.out, HT.out]; unfold mkMem mkTop; rw [if_neg c2]; rfl))
   have HN4 := Aside0.mk (show True from trivial)
   clear c2
   go_wp2_with (first | ((with_reducible refine gate_store (t := 3) (p := 77) rfl ?_); refine store_event (t := 3) (p := 77) (v := ?vo77_w5) (w1 := (w1.drew.setCell ⟨g, 2, none⟩ (.int .i64 t))) ?hg ?ho ?hn ?hr ?_; (case ho => rfl); (case hg => rfl); (case hn => rfl); (case hr => first | (go_simp; done) | (go_simp; rfl)); intro w5 hw; have HO5 := Aside0.mk (show MO w5 b g (m.setTop t) from (by rw [hw]; exact MO_settop (MO_below HO.out (below_drew1 HB1.out)) t)); have HB5 := Aside0.mk (show Below b w w5 from (by rw [hw]; exact (below_then (Below.refl _ _) HBs.out (below_drew1 HB1.out)).setCell (MO_base HO.out) _)); clear hw k0 k1 k2 k3 k4 fz; obtain ⟨AW, cW, AC, cC, AF, cF, AB, cB, g0, hg, hf, r1, r2, r3, r4⟩ := HO5.out; have h2 := H2.out; have h3 := H3.out; have hy := HY.out; have h0_ := H0.out; have h4_ := HN4.out; obtain ⟨gw, cw, hv, hbg, _, _⟩ := Kd.R_form r1 z29; injection hv with e1 e2 e3; subst e1 e3; have HN := Aside0.mk (MO_setword m.top c g0 hg hf r1 r2 r3 r4); obtain ⟨x0, f0⟩ := Kd.R_cell (enc := Value.int .i64) (h1 := fun _ => rfl) 0 r1 m.top (by omega) z29; have HBg := Aside0.mk hbg; have p1 := eq_true (show 0 ≤ m.top by omega); have p2 := eq_true (show m.top < ((m.setTop t).words.length : Int) by simp only [Mm.setW, Mm.setOld, Mm.setTop, List.length_set]; omega); have k0 := (blk_cell g0 0).trans rfl; clear h2 h3 hy h0_ h4_ g0 hg hf r1 r2 r3 r4 hbg e2) | ((with_reducible refine gate_store (t := 3) (p := 85) rfl ?_); refine store_event (t := 3) (p := 85) (v := ?vo85_w6) (w1 := (w5.setCell ⟨gw, m.top.toNat, none⟩ (.int .i64 c))) ?hg ?ho ?hn ?hr ?_; (case ho => rfl); (case hg => rfl); (case hn => rfl); (case hr => first | (go_simp; done) | (go_simp; rfl)); intro w6 hw; have HO6 := Aside0.mk (show MO w6 b g ((m.setTop t).setW m.top c) from (by rw [hw]; exact HN.out)); have HB6 := Aside0.mk (show Below b w w6 from (by rw [hw]; exact HB5.out.setCell HBg.out _)); clear hw HN HBg x0 f0 p1 p2 k0; obtain ⟨AW, cW, AC, cC, AF, cF, AB, cB, g0, hg, hf, r1, r2, r3, r4⟩ := HO6.out; have k6 := (show _ = some (.slice AB m.begins.length cB) from (blk_cell g0 6).trans rfl); have HL4 := Aside0.mk (Kd.R_reads' r4); clear g0 hg hf r1 r2 r3 r4) | (go_at_call 96; refine (slices_BinarySearch_int_int.calls q AB cB m.begins y j fd _ HL4.out.2.2 HL4.out.2.1 HI.out).mono ?_; rintro e w7 ⟨rfl, hd7⟩; have hb7 := hd7.below; clear hd7; have HO7 := Aside0.mk (MO_below HO6.out hb7); have HB7 := Aside0.mk (below_then HB6.out (Nat.le_trans HBs.out HB6.out.size) hb7); clear hb7 k6 HL4; obtain ⟨AW, cW, AC, cC, AF, cF, AB, cB, g0, hg, hf, r1, r2, r3, r4⟩ := HO7.out; have k6 := (show _ = some (.slice AB m.begins.length cB) from (blk_cell g0 6).trans rfl); have G0 := Aside0.mk g0; have HG := Aside0.mk hg; have HF := Aside0.mk hf; have R1 := Aside0.mk r1; have R2 := Aside0.mk r2; have R3 := Aside0.mk r3; have R4 := Aside0.mk r4; clear g0 hg hf r1 r2 r3 r4) | (go_at_call 97; have G8 := Aside0.mk (blk_below G0.out (below_alloc (Below.refl w7.heap.size w7) (.cells #[.int .i64 y] 3))); have S1 := Aside0.mk (Kd.R_below R1.out (below_alloc (Below.refl w7.heap.size w7) (.cells #[.int .i64 y] 3))); have S2 := Aside0.mk (Kd.R_below R2.out (below_alloc (Below.refl w7.heap.size w7) (.cells #[.int .i64 y] 3))); have S3 := Aside0.mk (Kd.F_below R3.out (below_alloc (Below.refl w7.heap.size w7) (.cells #[.int .i64 y] 3))); have S4 := Aside0.mk (Kd.R_below R4.out (below_alloc (Below.refl w7.heap.size w7) (.cells #[.int .i64 y] 3))); refine (ins_calls (i := j) (x := y) (vb := w7.heap.size) S4.out HJ.out.2 HJ.out.1 z30 (fun k hk => ⟨⟨fun e => by have := blk_lt G8.out; omega, fun e => by have := own_lt (Kd.own_of_R (enc := Value.int .i64) (h1 := fun _ => rfl) S1.out) k e.symm; omega⟩, fun e => by have := own_lt (Kd.own_of_R (enc := Value.bool) (h1 := fun _ => rfl) S2.out) k e.symm; omega⟩) (heap_alloc_new w7 (.cells #[.int .i64 y] 3)) (fun e => by have := own_lt (Kd.own_of_R (enc := Value.int .i64) (h1 := fun _ => rfl) R4.out) _ e.symm; omega)).mono ?_; rintro e w9 ⟨AN, cN, rfl, hR, hgr, hat⟩; have g9 := blk_grown G8.out hgr (Kd.R_away S4.out (fun _ hk => hk.1.1)); clear k6; have k6 := (blk_cell g9 6).trans rfl; have f6 := blk_frozen g9 6; have HNB := Aside0.mk (MO_begins (m := (m.setTop t).setW m.top c) G8.out HG.out HF.out S1.out S2.out S3.out S4.out hR hgr hat); have hz8 : b ≤ (w7.alloc (.cells #[.int .i64 y] 3)).heap.size := z30; have hb8 : ∀ k, (Value.slice AB ((m.setTop t).setW m.top c).begins.length cB).ownBlock = some k → b ≤ k := (fun k hk => own_base (Kd.own_of_R (enc := Value.int .i64) (h1 := fun _ => rfl) S4.out) k hk); have HB9 := Aside0.mk (show Below b w w9 from (HB7.out.alloc (Nat.le_trans HBs.out HB7.out.size) (.cells #[.int .i64 y] 3)).grown hgr hz8 hb8); clear hz8 hb8; clear hR hgr hat g9) | ((with_reducible refine gate_store (t := 23) (p := 118) rfl ?_); refine store_event (t := 23) (p := 118) (v := ?vo118_w10) (w1 := (w9.setCell ⟨g, 6, none⟩ (.slice AN (m.begins.take j ++ y :: m.begins.drop j).length cN))) ?hg ?ho ?hn ?hr ?_; (case ho => rfl); (case hg => rfl); (case hn => rfl); (case hr => first | (go_simp; done) | (go_simp; rfl)); intro w10 hw; have HO10 := Aside0.mk (show MO w10 b g (((m.setTop t).setW m.top c).setB (m.begins.take j ++ y :: m.begins.drop j)) from (by rw [hw]; exact HNB.out)); have HB10 := Aside0.mk (show Below b w w10 from (by rw [hw]; exact HB9.out.setCell HG.out _)); clear hw k6 f6))
   go_ret
   exact ⟨by rw [HR2.out]; rfl, by rw [HR2.out]; exact HO10.out, HB10.out⟩
end Go.Proofs.Ytmniglgahodghaa.K
namespace Go.Proofs.Ytmniglgahodghaa.K
open Go.RowKit Go.Proofs.YtmniglgahodghaaW.PrintWords Go.Proofs.YtmniglgahodghaaW.PrintLast Go.Proofs.YtmniglgahodghaaW.PrintMore
attribute [local go_sem] max2_int min2_int max_two min_two max_three min_three max_four min_four
set_option linter.unusedVariables false
set_option linter.unusedSimpArgs false
end Go.Proofs.Ytmniglgahodghaa.K
namespace Go.Proofs.Ytmniglgahodghaa.K
open Go.RowKit Go.Proofs.YtmniglgahodghaaW.PrintWords Go.Proofs.YtmniglgahodghaaW.PrintLast Go.Proofs.YtmniglgahodghaaW.PrintMore
attribute [local go_sem] max2_int min2_int max_two min_two max_three min_three max_four min_four
set_option linter.unusedVariables false
set_option linter.unusedSimpArgs false
def memBox (w : World) (g : Nat) (a b c d e : Value) : World := ((((w.setCell ⟨g, 0, none⟩ a).setCell ⟨g, 1, none⟩ b).setCell ⟨g, 2, none⟩ c).setCell ⟨g, 3, none⟩ d).setCell ⟨g, 4, none⟩ e
theorem blk_box5 {w : World} {g : Nat} {t : TypeId} {c0 c1 c2 c3 c4 a b c d e : Value} (h : w.heap[g]? = some (.cells #[c0, c1, c2, c3, c4] t (0, 0))) : (memBox w g a b c d e).heap[g]? = some (.cells #[a, b, c, d, e] t (0, 0)) :=
  blk_put (blk_put (blk_put (blk_put (blk_put h 0 _ rfl) 1 _ rfl) 2 _ rfl) 3 _ rfl) 4 _ rfl
theorem box5_far {w : World} {g k : Nat} {a b c d e : Value} (hk : k ≠ g) : (memBox w g a b c d e).heap[k]? = w.heap[k]? := by
  unfold memBox
  rw [Below.heap_setCell _ _ _ k hk, Below.heap_setCell _ _ _ k hk, Below.heap_setCell _ _ _ k hk, Below.heap_setCell _ _ _ k hk, Below.heap_setCell _ _ _ k hk]
theorem below_box5 {w0 w : World} {g : Nat} {a b c d e : Value} (h : Below w0.heap.size w0 w) (hg : w0.heap.size ≤ g) : Below w0.heap.size w0 (memBox w g a b c d e) :=
  below_set (below_set (below_set (below_set (below_set h hg) hg) hg) hg) hg
theorem R_box5 {α : Type} {K : Kd α} {q : TypeId} {w : World} {base base' g : Nat} {ok : Nat → Prop} {v : Value} {xs : List α} {a b c d e : Value} (h : K.R q w base ok v xs) (hg : g < base) (hb : base' ≤ base) : K.R q (memBox w g a b c d e) base' (fun _ => True) v xs := by
 refine Kd.R_lower (Kd.R_mono (Kd.R_step (Kd.R_bound h) (fun k hk hlt => ?_)) (fun _ _ => trivial)) hb
 obtain ⟨_, h1, _⟩ := hk
 exact box5_far (by omega)
theorem alloc_two (w : World) (a b : Obj) : ((w.alloc a).alloc b).heap[w.heap.size + 1]? = some b := by
  have h := blk_new (w.alloc a) b
  rwa [show (w.alloc a).heap.size = w.heap.size + 1 by simp] at h
theorem R_box5n {α : Type} {K : Kd α} {q : TypeId} {w : World} {base g : Nat} {ok : Nat → Prop} {v : Value} {xs : List α} {a b c d e : Value} (h : K.R q w base ok v xs) (hg : ∀ k, ok k → k ≠ g) : K.R q (memBox w g a b c d e) base ok v xs :=
  Kd.R_step h (fun k hk _ => box5_far (hg k hk))
end Go.Proofs.Ytmniglgahodghaa.K
namespace Go.Proofs.Ytmniglgahodghaa.K
open Go.RowKit Go.Proofs.YtmniglgahodghaaW.PrintWords Go.Proofs.YtmniglgahodghaaW.PrintLast Go.Proofs.YtmniglgahodghaaW.PrintMore
attribute [local go_sem] max2_int min2_int max_two min_two max_three min_three max_four min_four
set_option linter.unusedVariables false
set_option linter.unusedSimpArgs false
def makeOf (k : Nat) (a2 a3 : Int) (a4 : Bool) : Option Mm → Option (List Int × Int × Int × Int × List Bool × Int)
  | none => some ([], 0, 0, 0, [], 0)
  | some m => if ∀ r ∈ m.fields, r.length ≤ 1048576 then (if measN m.fields a2 a3 = 0 then some ([], 0, 0, 0, [], 0) else (memory_make.f k m a2 a3 a4).bind fun p => some (p.2.words, p.2.young, p.2.top, p.2.old, p.2.cards, p.1)) else none
def impl_MemMake.f (k : Nat) (l0 : List (S69)) (l1_0 : List Int) (a1_1 : Int) (a1_2 : Int) (a1_3 : Int) (l1_4 : List Bool) (a2 a3 : Int) (a4 : Bool) : Option (List Int × Int × Int × Int × List Bool × Int) := (mopen k k l0 l1_0 a1_1 a1_2 a1_3 l1_4).bind fun r => makeOf k a2 a3 a4 r
theorem make_some {m : Mm} {a : Int} {r1 : List Int} {r2 r3 r4 : Int} {r5 : List Bool} {r6 : Int} (h : some (m.words, m.young, m.top, m.old, m.cards, a) = some (r1, r2, r3, r4, r5, r6)) : m.words = r1 ∧ m.young = r2 ∧ m.top = r3 ∧ m.old = r4 ∧ m.cards = r5 ∧ a = r6 := by
  simpa only [Option.some.injEq, Prod.mk.injEq] using h
theorem make_zero {r1 : List Int} {r2 r3 r4 : Int} {r5 : List Bool} {r6 : Int} (h : some (([] : List Int), (0 : Int), (0 : Int), (0 : Int), ([] : List Bool), (0 : Int)) = some (r1, r2, r3, r4, r5, r6)) : [] = r1 ∧ 0 = r2 ∧ 0 = r3 ∧ 0 = r4 ∧ [] = r5 ∧ 0 = r6 := by
  simpa only [Option.some.injEq, Prod.mk.injEq] using h
set_option maxHeartbeats 8000000 in
set_option maxRecDepth 100000 in
theorem impl_MemMake.calls (k : Nat) (A0 : Option Addr) (c0 : Nat) (l0 : List (S69)) (A1_0 : Option Addr) (c1_0 : Nat) (l1_0 : List Int) (a1_1 : Int) (a1_2 : Int) (a1_3 : Int) (A1_4 : Option Addr) (c1_4 : Nat) (l1_4 : List Bool) (a2 a3 : Int) (a4 : Bool) (r1 : List Int) (r2 r3 r4 : Int) (r5 : List Bool) (r6 : Int) (w : World) (hr0 : Kd.C k69 w A0 l0.length l0) (hc0 : l0.length ≤ c0) (hr1_0 : Kd.C (Kd.int .i64) w A1_0 l1_0.length l1_0) (hc1_0 : l1_0.length ≤ c1_0) (hr1_4 : Kd.C Kd.bool w A1_4 l1_4.length l1_4) (hc1_4 : l1_4.length ≤ c1_4) (h : impl_MemMake.f k l0 l1_0 a1_1 a1_2 a1_3 l1_4 a2 a3 a4 = some (r1, r2, r3, r4, r5, r6)) :
  Calls Try.prog 24 #[.slice A0 l0.length c0, .agg #[.slice A1_0 l1_0.length c1_0, .int .i64 a1_1, .int .i64 a1_2, .int .i64 a1_3, .slice A1_4 l1_4.length c1_4], .int .i64 a2, .int .i64 a3, .bool a4] w fun e w' => ∃ v0_ v4_ : Value, e = .returned (.tuple #[.agg #[v0_, .int .i64 r2, .int .i64 r3, .int .i64 r4, v4_], .int .i64 r6]) ∧ Kd.R (Kd.int .i64) 3 w' w.heap.size (fun _ => True) v0_ r1 ∧ Kd.R Kd.bool 4 w' w.heap.size (fun _ => True) v4_ r5 ∧ Below w.heap.size w w' := by
 unfold impl_MemMake.f at h
 obtain ⟨m, hm, h⟩ := Option.bind_eq_some_iff.mp h
 have HM := Aside0.mk hm
 have HR0 := Aside0.mk hr0
 have HC0 := Aside0.mk hc0
 have HR1 := Aside0.mk hr1_0
 have HC1 := Aside0.mk hc1_0
 have HR4 := Aside0.mk hr1_4
 have HC4 := Aside0.mk hc1_4
 have HB := Aside0.mk (below_alloc (below_alloc (Below.refl w.heap.size w) (.cells #[.slice A1_0 l1_0.length c1_0, .int .i64 a1_1, .int .i64 a1_2, .int .i64 a1_3, .slice A1_4 l1_4.length c1_4] 29 (0, 0))) (.cells #[.slice none 0 0, .int .i64 0, .int .i64 0, .int .i64 0, .slice none 0 0] 29 (0, 0)))
 have BR := Aside0.mk (alloc_two w (.cells #[.slice A1_0 l1_0.length c1_0, .int .i64 a1_1, .int .i64 a1_2, .int .i64 a1_3, .slice A1_4 l1_4.length c1_4] 29 (0, 0)) (.cells #[.slice none 0 0, .int .i64 0, .int .i64 0, .int .i64 0, .slice none 0 0] 29 (0, 0)))
 have HS := Aside0.mk (show w.heap.size + 1 < ((w.alloc (.cells #[.slice A1_0 l1_0.length c1_0, .int .i64 a1_1, .int .i64 a1_2, .int .i64 a1_3, .slice A1_4 l1_4.length c1_4] 29 (0, 0))).alloc (.cells #[.slice none 0 0, .int .i64 0, .int .i64 0, .int .i64 0, .slice none 0 0] 29 (0, 0))).heap.size by simp)
 have HH := Aside0.mk h
 clear hr0 hc0 hr1_0 hc1_0 hr1_4 hc1_4 h hm
 go_enter Try.func24, Try.ntmps24
 go_wp2_with fail
 go_at_call 45
 refine (memOpen.calls k k A0 c0 l0 A1_0 c1_0 l1_0 a1_1 a1_2 a1_3 A1_4 c1_4 l1_4 m _ (Kd.C_below HR0.out HB.out) HC0.out (Kd.C_below HR1.out HB.out) HC1.out (Kd.C_below HR4.out HB.out) HC4.out HM.out).mono ?_
 cases m with
 | none =>
  rintro e w1 ⟨rfl, hb⟩
  have HB1 := Aside0.mk (below_step HB.out hb)
  replace BR := Aside0.mk (blk_below BR.out hb)
  clear hb HM
  have hz := HH.out
  obtain ⟨rfl, rfl, rfl, rfl, rfl, rfl⟩ := make_zero hz
  have z0 := (blk_cell BR.out 0).trans rfl; have z1 := (blk_cell BR.out 1).trans rfl; have z2 := (blk_cell BR.out 2).trans rfl; have z3 := (blk_cell BR.out 3).trans rfl; have z4 := (blk_cell BR.out 4).trans rfl
  have y0 := blk_frozen BR.out 0; have y1 := blk_frozen BR.out 1; have y2 := blk_frozen BR.out 2; have y3 := blk_frozen BR.out 3; have y4 := blk_frozen BR.out 4
  go_wp2
  refine bodyPost_ret (results_ct rfl _ _ (w.heap.size + 1) 29 #[.slice none 0 0, .int .i64 0, .int .i64 0, .int .i64 0, .slice none 0 0] (0, 0) _ rfl (blk_box5 BR.out) Try.underlying29 rfl (by kernel_rfl)) rfl ?_
  exact ⟨_, _, rfl, Kd.R_nil _ _ _ _ _, Kd.R_nil _ _ _ _ _, below_box5 HB1.out (by omega)⟩
 | some m =>
  rintro e w1 ⟨g, rfl, hmo, hb⟩
  have HB1 := Aside0.mk (below_step HB.out hb)
  replace BR := Aside0.mk (blk_below BR.out hb)
  have HMO := Aside0.mk hmo
  obtain ⟨bb, hbb⟩ : ∃ bb, bb = ((w.alloc (.cells #[.slice A1_0 l1_0.length c1_0, .int .i64 a1_1, .int .i64 a1_2, .int .i64 a1_3, .slice A1_4 l1_4.length c1_4] 29 (0, 0))).alloc (.cells #[.slice none 0 0, .int .i64 0, .int .i64 0, .int .i64 0, .slice none 0 0] 29 (0, 0))).heap.size := ⟨_, rfl⟩
  rw [← hbb] at HS HMO
  have HSb := Aside0.mk (show bb ≤ w1.heap.size by rw [hbb]; exact below_size hb)
  have hh := HH.out
  unfold makeOf at hh
  dsimp only at hh
  split at hh
  case isFalse => simp at hh
  case isTrue hF0 =>
  have hF := Aside0.mk (mk_short hF0)
  obtain ⟨s, hs⟩ : ∃ s, measN m.fields a2 a3 = s := ⟨_, rfl⟩
  have HSz := Aside0.mk hs
  rw [hs] at hh
  clear hb HM HH hmo hbb hF0 hs
  by_cases cz : s = 0
  ·rw [if_pos cz] at hh
   have HH := Aside0.mk hh
   clear hh
   obtain ⟨AW, cW, AC, cC, AF, cF, AB, cB, g0, hg, hf, q1, q2, q3, q4⟩ := HMO.out
   have HFC := Aside0.mk (Kd.F_now q3)
   have HFL := Aside0.mk hf
   have k5 := (blk_cell g0 5).trans rfl
   clear g0 hg hf q1 q2 q3 q4
   have dz : decide (s = 0) = true := decide_eq_true cz
   have dz2 : (s == 0) = true := beq_iff_eq.mpr cz
   clear cz
   go_wp2_with fail
   (go_at_call 59; refine (measure_calls AF cF m.fields a2 a3 s _ HFC.out HFL.out hF.out HSz.out).mono ?_; rintro e w2 ⟨rfl, hd⟩; have HB2 := Aside0.mk (below_step HB1.out hd); have BRn := Aside0.mk (blk_below BR.out hd); clear BR; have BR := BRn; clear BRn; have HMO2 := Aside0.mk (MO_below HMO.out hd); have HSn := Aside0.mk (Nat.le_trans HSb.out (below_size hd)); clear hd HSb; have HSb := HSn; clear HSn)
   have hz := HH.out
   obtain ⟨rfl, rfl, rfl, rfl, rfl, rfl⟩ := make_zero hz
   have z0 := (blk_cell BR.out 0).trans rfl; have z1 := (blk_cell BR.out 1).trans rfl; have z2 := (blk_cell BR.out 2).trans rfl; have z3 := (blk_cell BR.out 3).trans rfl; have z4 := (blk_cell BR.out 4).trans rfl
   have y0 := blk_frozen BR.out 0; have y1 := blk_frozen BR.out 1; have y2 := blk_frozen BR.out 2; have y3 := blk_frozen BR.out 3; have y4 := blk_frozen BR.out 4
   go_wp2
   refine bodyPost_ret (results_ct rfl _ _ (w.heap.size + 1) 29 #[.slice none 0 0, .int .i64 0, .int .i64 0, .int .i64 0, .slice none 0 0] (0, 0) _ rfl (blk_box5 BR.out) Try.underlying29 rfl (by kernel_rfl)) rfl ?_
   exact ⟨_, _, rfl, Kd.R_nil _ _ _ _ _, Kd.R_nil _ _ _ _ _, below_box5 HB2.out (by omega)⟩
  ·rw [if_neg cz] at hh
   obtain ⟨⟨at_, m2⟩, hp, hh⟩ := Option.bind_eq_some_iff.mp hh
   have HP := Aside0.mk hp
   clear hp
   obtain ⟨AW, cW, AC, cC, AF, cF, AB, cB, g0, hg, hf, q1, q2, q3, q4⟩ := HMO.out
   have HFC := Aside0.mk (Kd.F_now q3)
   have HFL := Aside0.mk hf
   have k5 := (blk_cell g0 5).trans rfl
   clear g0 hg hf q1 q2 q3 q4
   have dz : decide (s = 0) = false := decide_eq_false cz
   have dz2 : (s == 0) = false := beq_eq_false_iff_ne.mpr cz
   clear cz
   go_wp2_with fail
   (go_at_call 59; refine (measure_calls AF cF m.fields a2 a3 s _ HFC.out HFL.out hF.out HSz.out).mono ?_; rintro e w2 ⟨rfl, hd⟩; have HB2 := Aside0.mk (below_step HB1.out hd); have BRn := Aside0.mk (blk_below BR.out hd); clear BR; have BR := BRn; clear BRn; have HMO2 := Aside0.mk (MO_below HMO.out hd); have HSn := Aside0.mk (Nat.le_trans HSb.out (below_size hd)); clear hd HSb; have HSb := HSn; clear HSn)
   clear k5 HFC HFL
   go_wp2_with fail
   go_at_call 60
   refine (memory_make.calls k bb g m a2 a3 a4 (at_, m2) _ HMO2.out HSb.out HP.out).mono ?_
   rintro e w3 ⟨rfl, hmo3, hd⟩
   have HMO3 := Aside0.mk (show MO w3 bb g m2 from hmo3)
   have HB3 := Aside0.mk (show Below w.heap.size w w3 from HB2.out.trans (hd.mono (by have := HS.out; omega)))
   have BRn := Aside0.mk ((hd.block _ HS.out).trans BR.out)
   clear BR
   have BR := BRn
   clear BRn hd hmo3 HSb HMO2 HMO HB1 HB2
   obtain ⟨rfl, rfl, rfl, rfl, rfl, rfl⟩ : m2.words = r1 ∧ m2.young = r2 ∧ m2.top = r3 ∧ m2.old = r4 ∧ m2.cards = r5 ∧ at_ = r6 := make_some hh
   clear hh
   obtain ⟨AW, cW, AC, cC, AF, cF, AB, cB, g0, hg, hf, r1, r2, r3, r4⟩ := HMO3.out
   have R1 := Aside0.mk r1
   have R2 := Aside0.mk r2
   have hgr := HS.out
   have k0 := (blk_cell g0 0).trans rfl; have k1 := (blk_cell g0 1).trans rfl; have k2 := (blk_cell g0 2).trans rfl; have k3 := (blk_cell g0 3).trans rfl; have k4 := (blk_cell g0 4).trans rfl
   have z0 := (blk_cell BR.out 0).trans rfl; have z1 := (blk_cell BR.out 1).trans rfl; have z2 := (blk_cell BR.out 2).trans rfl; have z3 := (blk_cell BR.out 3).trans rfl; have z4 := (blk_cell BR.out 4).trans rfl
   have y0 := blk_frozen BR.out 0; have y1 := blk_frozen BR.out 1; have y2 := blk_frozen BR.out 2; have y3 := blk_frozen BR.out 3; have y4 := blk_frozen BR.out 4
   clear g0 hg hf r1 r2 r3 r4
   go_wp2
   refine bodyPost_ret (results_ct rfl _ _ (w.heap.size + 1) 29 #[.slice AW m2.words.length cW, .int .i64 m2.young, .int .i64 m2.top, .int .i64 m2.old, .slice AC m2.cards.length cC] (0, 0) _ rfl (blk_box5 BR.out) Try.underlying29 rfl (by kernel_rfl)) rfl ?_
   exact ⟨_, _, rfl, R_box5 R1.out hgr (by omega), R_box5 R2.out hgr (by omega), below_box5 HB3.out (by omega)⟩
end Go.Proofs.Ytmniglgahodghaa.K
namespace Go.Proofs.Ytmniglgahodghaa.K
open Go.RowKit Go.Proofs.YtmniglgahodghaaW.PrintWords Go.Proofs.YtmniglgahodghaaW.PrintLast Go.Proofs.YtmniglgahodghaaW.PrintMore
attribute [local go_sem] max2_int min2_int max_two min_two max_three min_three max_four min_four
set_option linter.unusedVariables false
set_option linter.unusedSimpArgs false
def laws_szIntS.f (l0 : List Int) (a1 : Int) : Option (Int) := if (wrap64 (a1 - (l0.length : Int))) < 0 then (some (-1)) else (some (wrap64 (a1 - (l0.length : Int))))
set_option maxHeartbeats 8000000 in
set_option maxRecDepth 100000 in
theorem laws_szIntS.calls (A0 : Option Addr) (c0 : Nat) (l0 : List Int) (a1 : Int) (r : Int) (w : World) (hr0 : Kd.C (Kd.int .i64) w A0 l0.length l0) (hc0 : l0.length ≤ c0) (h : laws_szIntS.f l0 a1 = some r) :
  Calls Try.prog 32 #[.slice A0 l0.length c0, .int .i64 a1] w fun e w' => e = .returned (.int .i64 r) ∧ Drawn0 w w' := by
 have HR0 := Aside0.mk hr0
 have HC0 := Aside0.mk hc0
 clear hr0 hc0
 have H : (if (wrap64 (a1 - (l0.length : Int))) < 0 then (some (-1)) else (some (wrap64 (a1 - (l0.length : Int))))) = some r := h
 clear h
 by_cases c3 : (wrap64 (a1 - (l0.length : Int))) < 0
 ·rw [if_pos c3] at H
  have c3b0 : decide ((wrap64 (a1 - (l0.length : Int))) < 0) = true := decide_eq_true c3
  clear c3
  obtain rfl := Option.some.inj H
  go_enter Try.func32, Try.ntmps32
  go_wp2
  go_ret
  exact ⟨by first | rfl | (simp; done) | (simp [*]; done), by repeat (first | exact Drawn0.refl _ | apply Drawn0.step)⟩
 ·rw [if_neg c3] at H
  have c3b0 : decide ((wrap64 (a1 - (l0.length : Int))) < 0) = false := decide_eq_false c3
  clear c3
  obtain rfl := Option.some.inj H
  go_enter Try.func32, Try.ntmps32
  go_wp2
  go_ret
  exact ⟨by first | rfl | (simp; done) | (simp [*]; done), by repeat (first | exact Drawn0.refl _ | apply Drawn0.step)⟩
end Go.Proofs.Ytmniglgahodghaa.K
namespace Go.Proofs.Ytmniglgahodghaa.K
open Go.RowKit Go.Proofs.YtmniglgahodghaaW.PrintWords Go.Proofs.YtmniglgahodghaaW.PrintLast Go.Proofs.YtmniglgahodghaaW.PrintMore
attribute [local go_sem] max2_int min2_int max_two min_two max_three min_three max_four min_four
set_option linter.unusedVariables false
set_option linter.unusedSimpArgs false
def laws_szClass.f (a0_0 : Int) (l0_1 : List Int) (a1 : Int) : Option (Int) := (laws_szIntS.f l0_1 a1).bind fun t102 => (if t102 < 0 then (some (-1)) else (some t102))
set_option maxHeartbeats 8000000 in
set_option maxRecDepth 100000 in
theorem laws_szClass.calls (a0_0 : Int) (A0_1 : Option Addr) (c0_1 : Nat) (l0_1 : List Int) (a1 : Int) (r : Int) (w : World) (hr0_1 : Kd.C (Kd.int .i64) w A0_1 l0_1.length l0_1) (hc0_1 : l0_1.length ≤ c0_1) (h : laws_szClass.f a0_0 l0_1 a1 = some r) :
  Calls Try.prog 31 #[.agg #[.int .i64 a0_0, .slice A0_1 l0_1.length c0_1], .int .i64 a1] w fun e w' => e = .returned (.int .i64 r) ∧ Below w.heap.size w w' := by
 have hu56 := Try.underlying56
 have HR0_1 := Aside0.mk hr0_1
 have HC0_1 := Aside0.mk hc0_1
 clear hr0_1 hc0_1
 have HB := Aside0.mk (Below.refl w.heap.size w)
 have H : ((laws_szIntS.f l0_1 a1).bind fun t102 => (if t102 < 0 then (some (-1)) else (some t102))) = some r := h
 clear h
 replace H := Option.bind_eq_some_iff.mp H
 obtain ⟨t102, A30, H⟩ := H
 try dsimp only at H
 have A3 := Aside0.mk A30
 clear A30
 by_cases c4 : t102 < 0
 ·rw [if_pos c4] at H
  have c4b0 : decide (t102 < 0) = true := decide_eq_true c4
  clear c4
  obtain rfl := Option.some.inj H
  go_enter Try.func31, Try.ntmps31
  go_wp2_with (first | ((with_reducible refine gate_dst (N := 2) rfl ?_); refine box_event ?hg (N := 2) ?hd (cs := #[.int .i64 a0_0, .slice A0_1 l0_1.length c0_1]) (t := 56) ?hr ?_; (case hd => rfl); (case hg => rfl); (case hr => first | (go_simp; done) | (go_simp; rfl)); intro gb101 hg w5 hbox hb; have BK101 := Aside0.mk (hbox); have GW101 := Aside0.mk ((by rw [hg]; exact (below_size z1) : w.heap.size ≤ gb101)); have GE101 := Aside0.mk ((by rw [hg]; exact (below_size z1) : w.heap.size ≤ gb101)); replace HB := Aside0.mk (below_step z1 hb); clear hb hbox hg; obtain ⟨hcz6_0, hcz6_1, hfz6_0, hfz6_1⟩ := cbf2 BK101) | ((with_reducible refine gate_callee (f := 32) rfl ?_); refine goesL_ (some 8) rfl rfl Try.func32 (by kernel_rfl) rfl #[.slice A0_1 l0_1.length c0_1, .int .i64 a1] rfl z2 ?_; (with_reducible refine (laws_szIntS.calls _ _ l0_1 a1 t102 _ ?side1 ?side2 A3.out).mono ?_); (case side1 => repeat (first | exact (Kd.C_below HR0_1.out HB.out) | (with_reducible refine Kd.C_alloc ?_ _) | (with_reducible refine Kd.C_drewN ?_ _) | (with_reducible refine Kd.C_drew ?_))); (case side2 => exact HC0_1.out); rintro e w' ⟨rfl, ⟨nd, rfl⟩⟩; refine ⟨_, rfl, ?_⟩))
  go_ret
  exact ⟨by first | rfl | (simp [errW_none, errW_some] <;> rfl) | (simp [*, errW_none, errW_some] <;> rfl), by repeat (first | (with_reducible first | exact HB.out | apply below_alloc | apply pw_below_drewN | apply below_drew1 | refine below_set ?_ GE101.out) | exact HB.out)⟩
 ·rw [if_neg c4] at H
  have c4b0 : decide (t102 < 0) = false := decide_eq_false c4
  clear c4
  obtain rfl := Option.some.inj H
  go_enter Try.func31, Try.ntmps31
  go_wp2_with (first | ((with_reducible refine gate_dst (N := 2) rfl ?_); refine box_event ?hg (N := 2) ?hd (cs := #[.int .i64 a0_0, .slice A0_1 l0_1.length c0_1]) (t := 56) ?hr ?_; (case hd => rfl); (case hg => rfl); (case hr => first | (go_simp; done) | (go_simp; rfl)); intro gb101 hg w7 hbox hb; have BK101 := Aside0.mk (hbox); have GW101 := Aside0.mk ((by rw [hg]; exact (below_size z1) : w.heap.size ≤ gb101)); have GE101 := Aside0.mk ((by rw [hg]; exact (below_size z1) : w.heap.size ≤ gb101)); replace HB := Aside0.mk (below_step z1 hb); clear hb hbox hg; obtain ⟨hcz8_0, hcz8_1, hfz8_0, hfz8_1⟩ := cbf2 BK101) | ((with_reducible refine gate_callee (f := 32) rfl ?_); refine goesL_ (some 8) rfl rfl Try.func32 (by kernel_rfl) rfl #[.slice A0_1 l0_1.length c0_1, .int .i64 a1] rfl z2 ?_; (with_reducible refine (laws_szIntS.calls _ _ l0_1 a1 t102 _ ?side1 ?side2 A3.out).mono ?_); (case side1 => repeat (first | exact (Kd.C_below HR0_1.out HB.out) | (with_reducible refine Kd.C_alloc ?_ _) | (with_reducible refine Kd.C_drewN ?_ _) | (with_reducible refine Kd.C_drew ?_))); (case side2 => exact HC0_1.out); rintro e w' ⟨rfl, ⟨nd, rfl⟩⟩; refine ⟨_, rfl, ?_⟩))
  go_ret
  exact ⟨by first | rfl | (simp [errW_none, errW_some] <;> rfl) | (simp [*, errW_none, errW_some] <;> rfl), by repeat (first | (with_reducible first | exact HB.out | apply below_alloc | apply pw_below_drewN | apply below_drew1 | refine below_set ?_ GE101.out) | exact HB.out)⟩
end Go.Proofs.Ytmniglgahodghaa.K
namespace Go.Proofs.Ytmniglgahodghaa.K
open Go.RowKit Go.Proofs.YtmniglgahodghaaW.PrintWords Go.Proofs.YtmniglgahodghaaW.PrintLast Go.Proofs.YtmniglgahodghaaW.PrintMore
attribute [local go_sem] max2_int min2_int max_two min_two max_three min_three max_four min_four
set_option linter.unusedVariables false
set_option linter.unusedSimpArgs false
def laws_szClassS.l0 : Nat → List (S56) → Int → Int → Option (Int)
  | 0, _, _, _ => none
  | k + 1, x0, x1, x5 => if x5 < (x0.length : Int) then (if 0 ≤ x5 then ((laws_szClass.f ((rd_T56 x0 x5).f0) ((rd_T56 x0 x5).f1) x1).bind fun t104 => (if t104 < 0 then (some (-1)) else (laws_szClassS.l0 k x0 t104 (wrap64 (x5 + 1))))) else (none)) else (some x1)
def laws_szClassS.f (k : Nat) (l0 : List (S56)) (a1 : Int) : Option (Int) := if (wrap64 (a1 - (l0.length : Int))) < 0 then (some (-1)) else (laws_szClassS.l0 k l0 (wrap64 (a1 - (l0.length : Int))) 0)
theorem laws_szClassS.mono_l : ∀ k, (∀ y0 y1 y2, LeO (laws_szClassS.l0 k y0 y1 y2) (laws_szClassS.l0 (k + 1) y0 y1 y2))
 | 0 => fun _ _ _ r h => by simp [laws_szClassS.l0] at h
 | k + 1 => by
  have ih0 := laws_szClassS.mono_l k
  ·intro y0 y1 y2
   unfold laws_szClassS.l0
   repeat' first
   | (with_reducible exact ih0 _ _ _)
   | (with_reducible exact LeO.refl _)
   | (with_reducible exact LeO.none _)
   | (with_reducible refine LeO.ite ?_ ?_)
   | (with_reducible refine LeO.bind ?_ (fun _ => ?_))
   | exact ih0 _ _ _
   | exact LeO.none _
   | refine LeO.ite ?_ ?_
   | refine LeO.bind ?_ (fun _ => ?_)
theorem laws_szClassS.mono : ∀ a0 a1 k, LeO (laws_szClassS.f k a0 a1) (laws_szClassS.f (k + 1) a0 a1) := by
  intro a0 a1 k
  have ih0 := laws_szClassS.mono_l k
  unfold laws_szClassS.f
  repeat' first
      | (with_reducible exact ih0 _ _ _)
      | (with_reducible exact LeO.refl _)
      | (with_reducible exact LeO.none _)
      | (with_reducible refine LeO.ite ?_ ?_)
      | (with_reducible refine LeO.bind ?_ (fun _ => ?_))
      | exact ih0 _ _ _
      | exact LeO.none _
      | refine LeO.ite ?_ ?_
      | refine LeO.bind ?_ (fun _ => ?_)
set_option maxHeartbeats 8000000 in
set_option maxRecDepth 100000 in
theorem laws_szClassS.calls (k : Nat) (A0 : Option Addr) (c0 : Nat) (l0 : List (S56)) (a1 : Int) (r : Int) (w : World) (hr0 : Kd.C k56 w A0 l0.length l0) (hc0 : l0.length ≤ c0) (h : laws_szClassS.f k l0 a1 = some r) :
  Calls Try.prog 7 #[.slice A0 l0.length c0, .int .i64 a1] w fun e w' => e = .returned (.int .i64 r) ∧ Below w.heap.size w w' := by
 have hu56 := Try.underlying56
 have HR0 := Aside0.mk hr0
 have HC0 := Aside0.mk hc0
 clear hr0 hc0
 have HB := Aside0.mk (Below.refl w.heap.size w)
 have H : (if (wrap64 (a1 - (l0.length : Int))) < 0 then (some (-1)) else (laws_szClassS.l0 k l0 (wrap64 (a1 - (l0.length : Int))) 0)) = some r := h
 clear h
 by_cases c3 : (wrap64 (a1 - (l0.length : Int))) < 0
 ·rw [if_pos c3] at H
  have c3b0 : decide ((wrap64 (a1 - (l0.length : Int))) < 0) = true := decide_eq_true c3
  clear c3
  obtain rfl := Option.some.inj H
  go_enter Try.func7, Try.ntmps7
  go_wp2
  go_ret
  exact ⟨by first | rfl | (simp [errW_none, errW_some] <;> rfl) | (simp [*, errW_none, errW_some] <;> rfl), by repeat (first | (with_reducible first | exact HB.out | apply below_alloc | apply pw_below_drewN | apply below_drew1) | exact HB.out)⟩
 ·rw [if_neg c3] at H
  have c3b0 : decide ((wrap64 (a1 - (l0.length : Int))) < 0) = false := decide_eq_false c3
  clear c3
  have H' := Aside0.mk H
  clear H
  go_enter Try.func7, Try.ntmps7
  go_wp2
  go_loopg [1, 5] k (fun kq v1 v5 w' => ∃ (x1_1 : Int) (x5_1 : Int), v1 = .int .i64 x1_1 ∧ v5 = .int .i64 x5_1 ∧ Aside0 (laws_szClassS.l0 kq l0 x1_1 x5_1 = some r) ∧ Aside0 (kq ≤ k) ∧ Aside0 (Below w.heap.size w w'))
  case atStart => exact ⟨(wrap64 (a1 - (l0.length : Int))), (0), z6, z6, H', ⟨Nat.le_refl _⟩, ⟨by repeat (first | (with_reducible first | exact HB.out | apply below_alloc | apply pw_below_drewN | apply below_drew1) | exact HB.out)⟩⟩
  case round =>
   clear H'
   try clear p2
   try clear c3
   try clear c3b0
   obtain ⟨x1_1, x5_1, rfl, rfl, HA, HK1, HB⟩ := hrel
   cases gk with
   | zero => exact absurd HA.out (by simp [laws_szClassS.l0])
   | succ k1 =>
    have H := HA.out
    clear HA
    simp only [laws_szClassS.l0] at H
    by_cases c4 : x5_1 < (l0.length : Int)
    ·rw [if_pos c4] at H
     have c4b0 : decide (x5_1 < (l0.length : Int)) = true := decide_eq_true c4
     clear c4
     by_cases c5 : 0 ≤ x5_1
     ·rw [if_pos c5] at H
      have c5b0 : decide (0 ≤ x5_1) = true := decide_eq_true c5
      clear c5
      replace H := Option.bind_eq_some_iff.mp H
      obtain ⟨t104, A60, H⟩ := H
      try dsimp only at H
      have A6 := Aside0.mk A60
      clear A60
      by_cases c7 : t104 < 0
      ·rw [if_pos c7] at H
       have c7b0 : decide (t104 < 0) = true := decide_eq_true c7
       clear c7
       obtain rfl := Option.some.inj H
       have p103 : 0 ≤ (x5_1 : Int) := of_decide_eq_true z3
       have q103 : x5_1 < (l0.length : Int) := of_decide_eq_true z3
       obtain ⟨ad103, A103_1, c103_1, e103, hx103_0, hx103_1, hl103_1, hi103_1⟩ := at_T56 HR0.out x5_1 p103 q103
       cases e103
       replace hx103_0 := (HB.out.cell (World.block_lt_of_cell? w _ hx103_0)).trans hx103_0
       replace hx103_1 := (HB.out.cell (World.block_lt_of_cell? w _ hx103_1)).trans hx103_1
       have HR103_1 := Aside0.mk hi103_1
       have HC103_1 := Aside0.mk hl103_1
       clear hi103_1 hl103_1
       replace p103 := eq_true p103
       replace q103 := eq_true q103
       go_wp2_with (first | ((with_reducible refine gate_callee (f := 31) rfl ?_); refine goesL_ (some 23) rfl rfl Try.func31 (by kernel_rfl) rfl #[.agg #[.int .i64 ((rd_T56 l0 x5_1).f0), .slice A103_1 ((rd_T56 l0 x5_1).f1).length c103_1], .int .i64 x1_1] rfl z2 ?_; (with_reducible refine (laws_szClass.calls ((rd_T56 l0 x5_1).f0) _ _ ((rd_T56 l0 x5_1).f1) x1_1 t104 _ ?side1 ?side2 A6.out).mono ?_); (case side1 => repeat (first | exact (Kd.C_below HR103_1.out HB.out) | (with_reducible refine Kd.C_alloc ?_ _) | (with_reducible refine Kd.C_drewN ?_ _) | (with_reducible refine Kd.C_drew ?_))); (case side2 => exact HC103_1.out); rintro e w8 ⟨rfl, hb⟩; refine ⟨_, rfl, ?_⟩; replace HB := Aside0.mk (below_step z1 hb); (try clear hb); (try clear hb2); (try clear hk); (try clear hi)))
       go_ret
       exact ⟨by first | rfl | (simp [errW_none, errW_some] <;> rfl) | (simp [*, errW_none, errW_some] <;> rfl), by repeat (first | (with_reducible first | exact HB.out | apply below_alloc | apply pw_below_drewN | apply below_drew1) | exact HB.out)⟩
      ·rw [if_neg c7] at H
       have c7b0 : decide (t104 < 0) = false := decide_eq_false c7
       clear c7
       have H' := Aside0.mk H
       clear H
       have p103 : 0 ≤ (x5_1 : Int) := of_decide_eq_true z3
       have q103 : x5_1 < (l0.length : Int) := of_decide_eq_true z3
       obtain ⟨ad103, A103_1, c103_1, e103, hx103_0, hx103_1, hl103_1, hi103_1⟩ := at_T56 HR0.out x5_1 p103 q103
       cases e103
       replace hx103_0 := (HB.out.cell (World.block_lt_of_cell? w _ hx103_0)).trans hx103_0
       replace hx103_1 := (HB.out.cell (World.block_lt_of_cell? w _ hx103_1)).trans hx103_1
       have HR103_1 := Aside0.mk hi103_1
       have HC103_1 := Aside0.mk hl103_1
       clear hi103_1 hl103_1
       replace p103 := eq_true p103
       replace q103 := eq_true q103
       go_wp2_with (first | ((with_reducible refine gate_callee (f := 31) rfl ?_); refine goesL_ (some 23) rfl rfl Try.func31 (by kernel_rfl) rfl #[.agg #[.int .i64 ((rd_T56 l0 x5_1).f0), .slice A103_1 ((rd_T56 l0 x5_1).f1).length c103_1], .int .i64 x1_1] rfl z2 ?_; (with_reducible refine (laws_szClass.calls ((rd_T56 l0 x5_1).f0) _ _ ((rd_T56 l0 x5_1).f1) x1_1 t104 _ ?side1 ?side2 A6.out).mono ?_); (case side1 => repeat (first | exact (Kd.C_below HR103_1.out HB.out) | (with_reducible refine Kd.C_alloc ?_ _) | (with_reducible refine Kd.C_drewN ?_ _) | (with_reducible refine Kd.C_drew ?_))); (case side2 => exact HC103_1.out); rintro e w9 ⟨rfl, hb⟩; refine ⟨_, rfl, ?_⟩; replace HB := Aside0.mk (below_step z1 hb); (try clear hb); (try clear hb2); (try clear hk); (try clear hi)))
       go_roundg k1
       case measure => have := HK1.out; omega
       case rel => exact ⟨(t104), (wrap64 (x5_1 + 1)), z6, z6, H', ⟨by have := HK1.out; omega⟩, ⟨by repeat (first | (with_reducible first | exact HB.out | apply below_alloc | apply pw_below_drewN | apply below_drew1) | exact HB.out)⟩⟩
     ·rw [if_neg c5] at H
      exact absurd H (by simp)
    ·rw [if_neg c4] at H
     have c4b0 : decide (x5_1 < (l0.length : Int)) = false := decide_eq_false c4
     clear c4
     obtain rfl := Option.some.inj H
     go_wp2
     go_ret
     exact ⟨by first | rfl | (simp [errW_none, errW_some] <;> rfl) | (simp [*, errW_none, errW_some] <;> rfl), by repeat (first | (with_reducible first | exact HB.out | apply below_alloc | apply pw_below_drewN | apply below_drew1) | exact HB.out)⟩
end Go.Proofs.Ytmniglgahodghaa.K
namespace Go.Proofs.Ytmniglgahodghaa.K
open Go.RowKit Go.Proofs.YtmniglgahodghaaW.PrintWords Go.Proofs.YtmniglgahodghaaW.PrintLast Go.Proofs.YtmniglgahodghaaW.PrintMore
attribute [local go_sem] max2_int min2_int max_two min_two max_three min_three max_four min_four
set_option linter.unusedVariables false
set_option linter.unusedSimpArgs false
def laws_szBoolS.f (l0 : List Bool) (a1 : Int) : Option (Int) := if (wrap64 (a1 - (l0.length : Int))) < 0 then (some (-1)) else (some (wrap64 (a1 - (l0.length : Int))))
set_option maxHeartbeats 8000000 in
set_option maxRecDepth 100000 in
theorem laws_szBoolS.calls (A0 : Option Addr) (c0 : Nat) (l0 : List Bool) (a1 : Int) (r : Int) (w : World) (hr0 : Kd.C Kd.bool w A0 l0.length l0) (hc0 : l0.length ≤ c0) (h : laws_szBoolS.f l0 a1 = some r) :
  Calls Try.prog 33 #[.slice A0 l0.length c0, .int .i64 a1] w fun e w' => e = .returned (.int .i64 r) ∧ Drawn0 w w' := by
 have HR0 := Aside0.mk hr0
 have HC0 := Aside0.mk hc0
 clear hr0 hc0
 have H : (if (wrap64 (a1 - (l0.length : Int))) < 0 then (some (-1)) else (some (wrap64 (a1 - (l0.length : Int))))) = some r := h
 clear h
 by_cases c3 : (wrap64 (a1 - (l0.length : Int))) < 0
 ·rw [if_pos c3] at H
  have c3b0 : decide ((wrap64 (a1 - (l0.length : Int))) < 0) = true := decide_eq_true c3
  clear c3
  obtain rfl := Option.some.inj H
  go_enter Try.func33, Try.ntmps33
  go_wp2
  go_ret
  exact ⟨by first | rfl | (simp; done) | (simp [*]; done), by repeat (first | exact Drawn0.refl _ | apply Drawn0.step)⟩
 ·rw [if_neg c3] at H
  have c3b0 : decide ((wrap64 (a1 - (l0.length : Int))) < 0) = false := decide_eq_false c3
  clear c3
  obtain rfl := Option.some.inj H
  go_enter Try.func33, Try.ntmps33
  go_wp2
  go_ret
  exact ⟨by first | rfl | (simp; done) | (simp [*]; done), by repeat (first | exact Drawn0.refl _ | apply Drawn0.step)⟩
end Go.Proofs.Ytmniglgahodghaa.K
namespace Go.Proofs.Ytmniglgahodghaa.K
open Go.RowKit Go.Proofs.YtmniglgahodghaaW.PrintWords Go.Proofs.YtmniglgahodghaaW.PrintLast Go.Proofs.YtmniglgahodghaaW.PrintMore
attribute [local go_sem] max2_int min2_int max_two min_two max_three min_three max_four min_four
set_option linter.unusedVariables false
set_option linter.unusedSimpArgs false
def laws_szMem.f (l0_0 : List Int) (a0_1 : Int) (a0_2 : Int) (a0_3 : Int) (l0_4 : List Bool) (a1 : Int) : Option (Int) := (laws_szIntS.f l0_0 a1).bind fun t106 => (if t106 < 0 then (some (-1)) else ((laws_szBoolS.f l0_4 t106).bind fun t107 => (if t107 < 0 then (some (-1)) else (some t107))))
set_option maxHeartbeats 8000000 in
set_option maxRecDepth 100000 in
theorem laws_szMem.calls (A0_0 : Option Addr) (c0_0 : Nat) (l0_0 : List Int) (a0_1 : Int) (a0_2 : Int) (a0_3 : Int) (A0_4 : Option Addr) (c0_4 : Nat) (l0_4 : List Bool) (a1 : Int) (r : Int) (w : World) (hr0_0 : Kd.C (Kd.int .i64) w A0_0 l0_0.length l0_0) (hc0_0 : l0_0.length ≤ c0_0) (hr0_4 : Kd.C Kd.bool w A0_4 l0_4.length l0_4) (hc0_4 : l0_4.length ≤ c0_4) (h : laws_szMem.f l0_0 a0_1 a0_2 a0_3 l0_4 a1 = some r) :
  Calls Try.prog 8 #[.agg #[.slice A0_0 l0_0.length c0_0, .int .i64 a0_1, .int .i64 a0_2, .int .i64 a0_3, .slice A0_4 l0_4.length c0_4], .int .i64 a1] w fun e w' => e = .returned (.int .i64 r) ∧ Below w.heap.size w w' := by
 have hu26 := Try.underlying26
 have HR0_0 := Aside0.mk hr0_0
 have HC0_0 := Aside0.mk hc0_0
 clear hr0_0 hc0_0
 have HR0_4 := Aside0.mk hr0_4
 have HC0_4 := Aside0.mk hc0_4
 clear hr0_4 hc0_4
 have HB := Aside0.mk (Below.refl w.heap.size w)
 have H : ((laws_szIntS.f l0_0 a1).bind fun t106 => (if t106 < 0 then (some (-1)) else ((laws_szBoolS.f l0_4 t106).bind fun t107 => (if t107 < 0 then (some (-1)) else (some t107))))) = some r := h
 clear h
 replace H := Option.bind_eq_some_iff.mp H
 obtain ⟨t106, A30, H⟩ := H
 try dsimp only at H
 have A3 := Aside0.mk A30
 clear A30
 by_cases c4 : t106 < 0
 ·rw [if_pos c4] at H
  have c4b0 : decide (t106 < 0) = true := decide_eq_true c4
  clear c4
  obtain rfl := Option.some.inj H
  go_enter Try.func8, Try.ntmps8
  go_wp2_with (first | ((with_reducible refine gate_dst (N := 2) rfl ?_); refine box_event ?hg (N := 2) ?hd (cs := #[.slice A0_0 l0_0.length c0_0, .int .i64 a0_1, .int .i64 a0_2, .int .i64 a0_3, .slice A0_4 l0_4.length c0_4]) (t := 26) ?hr ?_; (case hd => rfl); (case hg => rfl); (case hr => first | (go_simp; done) | (go_simp; rfl)); intro gb105 hg w5 hbox hb; have BK105 := Aside0.mk (hbox); have GW105 := Aside0.mk ((by rw [hg]; exact (below_size z1) : w.heap.size ≤ gb105)); have GE105 := Aside0.mk ((by rw [hg]; exact (below_size z1) : w.heap.size ≤ gb105)); replace HB := Aside0.mk (below_step z1 hb); clear hb hbox hg; obtain ⟨hcz6_0, hcz6_1, hcz6_2, hcz6_3, hcz6_4, hfz6_0, hfz6_1, hfz6_2, hfz6_3, hfz6_4⟩ := cbf5 BK105) | ((with_reducible refine gate_callee (f := 32) rfl ?_); refine goesL_ (some 8) rfl rfl Try.func32 (by kernel_rfl) rfl #[.slice A0_0 l0_0.length c0_0, .int .i64 a1] rfl z2 ?_; (with_reducible refine (laws_szIntS.calls _ _ l0_0 a1 t106 _ ?side1 ?side2 A3.out).mono ?_); (case side1 => repeat (first | exact (Kd.C_below HR0_0.out HB.out) | (with_reducible refine Kd.C_alloc ?_ _) | (with_reducible refine Kd.C_drewN ?_ _) | (with_reducible refine Kd.C_drew ?_))); (case side2 => exact HC0_0.out); rintro e w' ⟨rfl, ⟨nd, rfl⟩⟩; refine ⟨_, rfl, ?_⟩))
  go_ret
  exact ⟨by first | rfl | (simp [errW_none, errW_some] <;> rfl) | (simp [*, errW_none, errW_some] <;> rfl), by repeat (first | (with_reducible first | exact HB.out | apply below_alloc | apply pw_below_drewN | apply below_drew1 | refine below_set ?_ GE105.out) | exact HB.out)⟩
 ·rw [if_neg c4] at H
  have c4b0 : decide (t106 < 0) = false := decide_eq_false c4
  clear c4
  replace H := Option.bind_eq_some_iff.mp H
  obtain ⟨t107, A70, H⟩ := H
  try dsimp only at H
  have A7 := Aside0.mk A70
  clear A70
  by_cases c8 : t107 < 0
  ·rw [if_pos c8] at H
   have c8b0 : decide (t107 < 0) = true := decide_eq_true c8
   clear c8
   obtain rfl := Option.some.inj H
   go_enter Try.func8, Try.ntmps8
   go_wp2_with (first | ((with_reducible refine gate_dst (N := 2) rfl ?_); refine box_event ?hg (N := 2) ?hd (cs := #[.slice A0_0 l0_0.length c0_0, .int .i64 a0_1, .int .i64 a0_2, .int .i64 a0_3, .slice A0_4 l0_4.length c0_4]) (t := 26) ?hr ?_; (case hd => rfl); (case hg => rfl); (case hr => first | (go_simp; done) | (go_simp; rfl)); intro gb105 hg w9 hbox hb; have BK105 := Aside0.mk (hbox); have GW105 := Aside0.mk ((by rw [hg]; exact (below_size z1) : w.heap.size ≤ gb105)); have GE105 := Aside0.mk ((by rw [hg]; exact (below_size z1) : w.heap.size ≤ gb105)); replace HB := Aside0.mk (below_step z1 hb); clear hb hbox hg; obtain ⟨hcz10_0, hcz10_1, hcz10_2, hcz10_3, hcz10_4, hfz10_0, hfz10_1, hfz10_2, hfz10_3, hfz10_4⟩ := cbf5 BK105) | ((with_reducible refine gate_callee (f := 32) rfl ?_); refine goesL_ (some 8) rfl rfl Try.func32 (by kernel_rfl) rfl #[.slice A0_0 l0_0.length c0_0, .int .i64 a1] rfl z2 ?_; (with_reducible refine (laws_szIntS.calls _ _ l0_0 a1 t106 _ ?side1 ?side2 A3.out).mono ?_); (case side1 => repeat (first | exact (Kd.C_below HR0_0.out HB.out) | (with_reducible refine Kd.C_alloc ?_ _) | (with_reducible refine Kd.C_drewN ?_ _) | (with_reducible refine Kd.C_drew ?_))); (case side2 => exact HC0_0.out); rintro e w' ⟨rfl, ⟨nd, rfl⟩⟩; refine ⟨_, rfl, ?_⟩) | ((with_reducible refine gate_callee (f := 33) rfl ?_); refine goesL_ (some 14) rfl rfl Try.func33 (by kernel_rfl) rfl #[.slice A0_4 l0_4.length c0_4, .int .i64 t106] rfl z2 ?_; (with_reducible refine (laws_szBoolS.calls _ _ l0_4 t106 t107 _ ?side1 ?side2 A7.out).mono ?_); (case side1 => repeat (first | exact (Kd.C_below HR0_4.out (by repeat (first | (with_reducible first | exact HB.out | apply below_alloc | apply pw_below_drewN | apply below_drew1 | refine below_set ?_ GE105.out) | exact HB.out))) | (with_reducible refine Kd.C_alloc ?_ _) | (with_reducible refine Kd.C_drewN ?_ _) | (with_reducible refine Kd.C_drew ?_))); (case side2 => exact HC0_4.out); rintro e w' ⟨rfl, ⟨nd, rfl⟩⟩; refine ⟨_, rfl, ?_⟩))
   go_ret
   exact ⟨by first | rfl | (simp [errW_none, errW_some] <;> rfl) | (simp [*, errW_none, errW_some] <;> rfl), by repeat (first | (with_reducible first | exact HB.out | apply below_alloc | apply pw_below_drewN | apply below_drew1 | refine below_set ?_ GE105.out) | exact HB.out)⟩
  ·rw [if_neg c8] at H
   have c8b0 : decide (t107 < 0) = false := decide_eq_false c8
   clear c8
   obtain rfl := Option.some.inj H
   go_enter Try.func8, Try.ntmps8
   go_wp2_with (first | ((with_reducible refine gate_dst (N := 2) rfl ?_); refine box_event ?hg (N := 2) ?hd (cs := #[.slice A0_0 l0_0.length c0_0, .int .i64 a0_1, .int .i64 a0_2, .int .i64 a0_3, .slice A0_4 l0_4.length c0_4]) (t := 26) ?hr ?_; (case hd => rfl); (case hg => rfl); (case hr => first | (go_simp; done) | (go_simp; rfl)); intro gb105 hg w11 hbox hb; have BK105 := Aside0.mk (hbox); have GW105 := Aside0.mk ((by rw [hg]; exact (below_size z1) : w.heap.size ≤ gb105)); have GE105 := Aside0.mk ((by rw [hg]; exact (below_size z1) : w.heap.size ≤ gb105)); replace HB := Aside0.mk (below_step z1 hb); clear hb hbox hg; obtain ⟨hcz12_0, hcz12_1, hcz12_2, hcz12_3, hcz12_4, hfz12_0, hfz12_1, hfz12_2, hfz12_3, hfz12_4⟩ := cbf5 BK105) | ((with_reducible refine gate_callee (f := 32) rfl ?_); refine goesL_ (some 8) rfl rfl Try.func32 (by kernel_rfl) rfl #[.slice A0_0 l0_0.length c0_0, .int .i64 a1] rfl z2 ?_; (with_reducible refine (laws_szIntS.calls _ _ l0_0 a1 t106 _ ?side1 ?side2 A3.out).mono ?_); (case side1 => repeat (first | exact (Kd.C_below HR0_0.out HB.out) | (with_reducible refine Kd.C_alloc ?_ _) | (with_reducible refine Kd.C_drewN ?_ _) | (with_reducible refine Kd.C_drew ?_))); (case side2 => exact HC0_0.out); rintro e w' ⟨rfl, ⟨nd, rfl⟩⟩; refine ⟨_, rfl, ?_⟩) | ((with_reducible refine gate_callee (f := 33) rfl ?_); refine goesL_ (some 14) rfl rfl Try.func33 (by kernel_rfl) rfl #[.slice A0_4 l0_4.length c0_4, .int .i64 t106] rfl z2 ?_; (with_reducible refine (laws_szBoolS.calls _ _ l0_4 t106 t107 _ ?side1 ?side2 A7.out).mono ?_); (case side1 => repeat (first | exact (Kd.C_below HR0_4.out (by repeat (first | (with_reducible first | exact HB.out | apply below_alloc | apply pw_below_drewN | apply below_drew1 | refine below_set ?_ GE105.out) | exact HB.out))) | (with_reducible refine Kd.C_alloc ?_ _) | (with_reducible refine Kd.C_drewN ?_ _) | (with_reducible refine Kd.C_drew ?_))); (case side2 => exact HC0_4.out); rintro e w' ⟨rfl, ⟨nd, rfl⟩⟩; refine ⟨_, rfl, ?_⟩))
   go_ret
   exact ⟨by first | rfl | (simp [errW_none, errW_some] <;> rfl) | (simp [*, errW_none, errW_some] <;> rfl), by repeat (first | (with_reducible first | exact HB.out | apply below_alloc | apply pw_below_drewN | apply below_drew1 | refine below_set ?_ GE105.out) | exact HB.out)⟩
end Go.Proofs.Ytmniglgahodghaa.K
