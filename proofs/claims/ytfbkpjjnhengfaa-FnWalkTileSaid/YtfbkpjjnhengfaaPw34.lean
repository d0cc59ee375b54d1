import Derived.Test.YtfbkpjjnhengfaaPw24
import Derived.Test.YtfbkpjjnhengfaaPw26
import Derived.Test.YtfbkpjjnhengfaaPw31
import Derived.Test.YtfbkpjjnhengfaaPw32
import Derived.Test.YtfbkpjjnhengfaaPw33
namespace Go.Proofs.Ytfbkpjjnhengfaa.K
open Go.RowKit Go.Proofs.YtfbkpjjnhengfaaW.PrintWords Go.Proofs.YtfbkpjjnhengfaaW.PrintLast Go.Proofs.YtfbkpjjnhengfaaW.PrintMore
attribute [local go_sem] max2_int min2_int max_two min_two max_three min_three max_four min_four
set_option linter.unusedVariables false
set_option linter.unusedSimpArgs false
open Go.Proofs.Ytfbkpjjnhengfaa.Pure
def FillP (M : Int) (cs : Cs) (w0 w : World) (g : Nat) (e : Ending) (w' : World) : Prop := ∃ (gw cW gc cC : Nat) (ws : List Int) (y t o : Int) (cards : List Bool) (v7 : Value) (rt : List Int), e = .returned (.tuple #[.agg #[.slice (some ⟨gw, 0, none⟩) ws.length cW, .int .i64 y, .int .i64 t, .int .i64 o, .slice (some ⟨gc, 0, none⟩) cards.length cC], v7]) ∧ Bnd cs ws y t o cards ∧ rt.length ≤ 60 ∧ OM w.heap.size gw cW gc cC w' ws cards ∧ Kd.R (Kd.int .i64) 3 w' w.heap.size (fun k => k ≠ gw) v7 rt ∧ Rdr (M + 4000) w0 w' g ∧ Ch (fun k => k = g) w w'
theorem try_any2 (b gw cW gc cC : Nat) (ws : List Int) (y t o : Int) (cards : List Bool) (A : Option Addr) (cA : Nat) (cs : Cs) (c n : Int) (v : Bool) (w : World) (h : OM b gw cW gc cC w ws cards) (hb : Bnd cs ws y t o cards) (hs : measN (allF cs) c n ≠ 0) (hC : Kd.C k99 w A cs.length cs) (hcA : cs.length ≤ cA) {ws1 : List Int} {y1 t1 o1 : Int} {cd1 : List Bool} {a1 : Int} (hR : tryM ws y t o cards c n (measN (allF cs) c n) v = (ws1, y1, t1, o1, cd1, a1)) :
  Calls Try.prog 53 #[.slice A cs.length cA, .agg #[.slice (some ⟨gw, 0, none⟩) ws.length cW, .int .i64 y, .int .i64 t, .int .i64 o, .slice (some ⟨gc, 0, none⟩) cards.length cC], .int .i64 c, .int .i64 n, .bool v] w fun e w' => e = .returned (.tuple #[.agg #[.slice (some ⟨gw, 0, none⟩) ws.length cW, .int .i64 y, .int .i64 t1, .int .i64 o1, .slice (some ⟨gc, 0, none⟩) cards.length cC], .int .i64 a1]) ∧ OM b gw cW gc cC w' ws1 cards ∧ Ch (fun k => k = gw) w w' := by
 have h2 := try_any b gw cW gc cC ws y t o cards A cA cs c n v w h hb hs hC hcA
 rw [hR] at h2
 exact h2
set_option maxHeartbeats 32000000 in
set_option maxRecDepth 100000 in
theorem fill_any (M : Int) (g : Nat) (A : Option Addr) (cA : Nat) (cs : Cs) (w0 w : World) (hi : Rdr M w0 w g) (hM : M ≤ 600000) (hok : csOk cs = true) (hC : ∀ W', KeepBut w W' g none → Kd.C k99 W' A cs.length cs) (hcA : cs.length ≤ cA) :
  Calls Try.prog 70 #[.pointer (some ⟨g, 0, none⟩), .slice A cs.length cA] w (FillP M cs w0 w g) := by
 obtain ⟨b0, hb0⟩ : ∃ b, b = w.heap.size := ⟨_, rfl⟩
 have HG := Aside0.mk (show g < b0 ∧ w0.heap.size ≤ b0 by have h1 := hi.lt; have h2 := hi.ge; rw [hb0]; omega)
 have HBW := Aside0.mk hb0
 have HI := Aside0.mk hi
 have HM := Aside0.mk hM
 have HOk := Aside0.mk hok
 have HC := Aside0.mk hC
 have HCA := Aside0.mk hcA
 have HL := Aside0.mk (csOk_len hok)
 have HCh := Aside0.mk (Ch.refl (fun k => k = g) w)
 clear hi hM hok hC hcA hb0
 go_enter Try.func70, Try.ntmps70
 go_wp2_with ((with_reducible refine gate_dst (N := 4) rfl ?_); refine Classical.byContradiction (fun hng => ?_))
 refine hng ?_
 clear hng
 refine box_event ?hg (N := 4) ?hd (cs := #[.slice none 0 0, .int .i64 0, .int .i64 0, .int .i64 0, .slice none 0 0]) (t := 27) ?hr ?_
 (case hd => rfl)
 (case hg => rfl)
 (case hr => first | (go_simp; done) | (go_simp; rfl))
 intro gz hg w1 hbox hb
 have BZ1 := Aside0.mk hbox
 have HI1 := Aside0.mk (HI.out.below hb)
 have HCh1 := Aside0.mk (HCh.out.below hb)
 have HGz := Aside0.mk (show b0 ≤ gz by rw [hg, HBW.out]; exact Nat.le_refl _)
 clear hb hbox hg HI HCh
 go_wp2_with (go_at_call 39; refine Classical.byContradiction (fun hng => ?_))
 refine hng ?_
 clear hng
 refine (pick_any _ g 24 w0 _ HI1.out z26 z25 z25).mono ?_
 rintro e w2 ⟨y, rfl, hy, hi, hk⟩
 have hst := HI1.out.step hi hk
 have HI2 := Aside0.mk hi
 have HCh2 := Aside0.mk (HCh1.out.then_ hst)
 have BZ2 := Aside0.mk (hst.blk BZ1.out (by have := HG.out; have := HGz.out; omega))
 have HY := Aside0.mk hy
 clear hy BZ1
 clear hst hi hk HI1 HCh1
 go_wp2_with (go_at_call 39; refine Classical.byContradiction (fun hng => ?_))
 refine hng ?_
 clear hng
 refine (pick_any _ g 50 w0 _ HI2.out z26 z25 z25).mono ?_
 rintro e w3 ⟨n0, rfl, hn, hi, hk⟩
 have hst := HI2.out.step hi hk
 have HI3 := Aside0.mk hi
 have HCh3 := Aside0.mk (HCh2.out.then_ hst)
 have BZ3 := Aside0.mk (hst.blk BZ2.out (by have := HG.out; have := HGz.out; omega))
 obtain ⟨n, hn_⟩ : ∃ n, n = 14 + n0 := ⟨_, rfl⟩
 have qn : IntKind.i64.wrap (14 + n0) = n := by rw [hn_]; exact IntWalk.i64_in _ (by omega)
 have HN := Aside0.mk (show 14 ≤ n ∧ n ≤ 63 by omega)
 clear hn hn_ BZ2
 clear hst hi hk HI2 HCh2
 go_wp2_with (go_at_call 96; refine Classical.byContradiction (fun hng => ?_))
 refine hng ?_
 clear hng
 refine (spec_MemNew.calls y n (List.replicate (y + n).toNat 0) y 0 y (List.replicate ((n + 3) / 4).toNat false) _ (memNew_in (by have := HY.out; omega) (by have := HN.out; omega))).mono ?_
 rintro e w4 ⟨v0, v4, rfl, hr0, hr4, hb⟩
 have HB0 := Aside0.mk (Bnd_new HOk.out (y := y) (n := n) (by have := HY.out; omega) (by have := HN.out; omega))
 have HLn := Aside0.mk (show ((List.replicate (y + n).toNat (0 : Int)).length : Int) = y + n ∧ 4 ≤ (List.replicate ((n + 3) / 4).toNat false).length by have := HY.out; have := HN.out; rw [List.length_replicate, List.length_replicate]; omega)
 obtain ⟨ws, hws⟩ : ∃ l, l = List.replicate (y + n).toNat (0 : Int) := ⟨_, rfl⟩
 obtain ⟨cards, hcd⟩ : ∃ l, l = List.replicate ((n + 3) / 4).toNat false := ⟨_, rfl⟩
 rw [← hws] at hr0 HB0 HLn
 rw [← hcd] at hr4 HB0 HLn
 clear hws hcd
 have hle := HCh3.out.size
 rw [← HBW.out] at hle
 obtain ⟨gw, cW, e0, hgw, hgl, _⟩ := Kd.R_form hr0 (by have := HLn.out; have := HY.out; have := HN.out; omega)
 subst e0
 obtain ⟨gc, cC, e4, hgc, hgl4, _⟩ := Kd.R_form hr4 (by have := HLn.out; omega)
 subst e4
 have HO4 := Aside0.mk (show OM b0 gw cW gc cC w4 ws cards from ⟨Kd.R_mono (Kd.R_tight rfl (Kd.R_lower hr0 hle)) (fun k hk => by simpa [Value.ownBlock] using hk), Kd.R_mono (Kd.R_tight rfl (Kd.R_lower hr4 hle)) (fun k hk => by simpa [Value.ownBlock] using hk), fun e => by (obtain ⟨c1, h1⟩ := Kd.R_typed hr0 gw (by simp [Value.ownBlock]); obtain ⟨c2, h2⟩ := Kd.R_typed hr4 gc (by simp [Value.ownBlock]); rw [e] at h1; rw [h1] at h2; cases h2)⟩)
 have BZ4 := Aside0.mk (blk_below BZ3.out hb)
 have HI4 := Aside0.mk (HI3.out.below hb)
 have HCh4 := Aside0.mk (HCh3.out.below hb)
 clear hr0 hr4 hb hle hgw hgl hgc hgl4 HI3 HCh3 BZ3
 go_wp2_with ((with_reducible refine gate_dst (N := 6) rfl ?_); refine Classical.byContradiction (fun hng => ?_))
 refine hng ?_
 clear hng
 refine box_event ?hg (N := 6) ?hd (cs := #[.slice none 0 0, .int .i64 0, .int .i64 0, .int .i64 0, .slice none 0 0]) (t := 27) ?hr ?_
 (case hd => rfl)
 (case hg => rfl)
 (case hr => first | (go_simp; done) | (go_simp; rfl))
 intro gm hg w5 hbox hb
 have HO5 := Aside0.mk (HO4.out.ch ((Ch.refl (fun _ => False) _).below hb) (fun h => h) (fun h => h))
 have BZ5 := Aside0.mk (blk_below BZ4.out hb)
 have HI5 := Aside0.mk (HI4.out.below hb)
 have HCh5 := Aside0.mk (HCh4.out.below hb)
 have HGm := Aside0.mk (show gz < gm by rw [hg]; exact blk_lt BZ4.out)
 have BM5 := Aside0.mk hbox
 clear hb hbox hg HO4 BZ4 HI4 HCh4
 have c0 := (blk_cell BM5.out 0).trans rfl; have c1 := (blk_cell BM5.out 1).trans rfl; have c2 := (blk_cell BM5.out 2).trans rfl; have c3 := (blk_cell BM5.out 3).trans rfl; have c4 := (blk_cell BM5.out 4).trans rfl
 have f0 := blk_frozen BM5.out 0; have f1 := blk_frozen BM5.out 1; have f2 := blk_frozen BM5.out 2; have f3 := blk_frozen BM5.out 3; have f4 := blk_frozen BM5.out 4
 go_wp2_with ((with_reducible refine gate_store (t := 27) (p := 6) rfl ?_); refine Classical.byContradiction (fun hng => ?_))
 refine hng ?_
 clear hng
 refine store_event (t := 27) (p := 6) (v := ?vm1) (w1 := (memBox w5 gm (.slice (some ⟨gw, 0, none⟩) ws.length cW) (.int .i64 y) (.int .i64 0) (.int .i64 y) (.slice (some ⟨gc, 0, none⟩) cards.length cC))) ?hg ?ho ?hn ?hr ?_
 (case ho => rfl)
 (case hg => rfl)
 (case hn => rfl)
 (case hr => first | (go_simp; done) | (go_simp; rfl))
 intro w6 hw
 have n5 := HO5.out.nbox BM5.out
 have HO6 := Aside0.mk (show OM b0 gw cW gc cC w6 ws cards by rw [hw]; exact HO5.out.ch (Ch.box5 (Ch.refl (fun k => k = gm) _) (.inl rfl) _ _ _ _ _) n5.1 n5.2)
 have BM6 := Aside0.mk (show w6.heap[gm]? = some (.cells #[.slice (some ⟨gw, 0, none⟩) ws.length cW, .int .i64 y, .int .i64 0, .int .i64 y, .slice (some ⟨gc, 0, none⟩) cards.length cC] 27 (0, 0)) by rw [hw]; exact blk_box5 BM5.out)
 have BZ6 := Aside0.mk (show w6.heap[gz]? = some (.cells #[.slice none 0 0, .int .i64 0, .int .i64 0, .int .i64 0, .slice none 0 0] 27 (0, 0)) by rw [hw]; exact (box5_far (by have := HGm.out; omega)).trans BZ5.out)
 have HI6 := Aside0.mk (show Rdr (M + 1 + 1) w0 w6 g by rw [hw]; exact HI5.out.ch (Ch.box5 (Ch.refl (fun k => k = gm) _) (.inl rfl) _ _ _ _ _) (by have := HG.out; have := HGz.out; have := HGm.out; omega) (fun k hk => by have := HG.out; have := HGz.out; have := HGm.out; omega))
 have HCh6 := Aside0.mk (show Ch (fun k => k = g) w w6 by rw [hw]; exact HCh5.out.box5 (.inr (by have := HGz.out; have := HGm.out; rw [← HBW.out]; omega)) _ _ _ _ _)
 clear hw n5 HO5 BM5 BZ5 HI5 HCh5
 clear c0 c1 c2 c3 c4
 clear f0 f1 f2 f3 f4
 go_wp2_with ((with_reducible refine gate_dst (N := 21) rfl ?_); refine Classical.byContradiction (fun hng => ?_))
 refine hng ?_
 clear hng
 refine Kd.R_lit (Kd.int .i64) _ 3 ?hg (N := 21) ?hd (xs := ([] : List Int)) (inner := []) (ok := fun _ => True) (okp := fun _ => True) ?hr ?hp (fun _ hk => hk) trivial (Below.refl _ _) (Nat.le_refl _) (by simp) ?_
 (case hd => rfl)
 (case hg => rfl)
 (case hr => first | (go_simp; done) | (go_simp; rfl))
 (case hp => exact (Reps.none _ _))
 intro v7 w7 ho hb hg_ hnew_
 have HO7 := Aside0.mk (HO6.out.ch ((Ch.refl (fun _ => False) _).below hb) (fun h => h) (fun h => h))
 have BM7 := Aside0.mk (blk_below BM6.out hb)
 have BZ7 := Aside0.mk (blk_below BZ6.out hb)
 have HI7 := Aside0.mk (HI6.out.below hb)
 have HCh7 := Aside0.mk (HCh6.out.below hb)
 have hsz : b0 ≤ w6.heap.size := by have := HO6.out.bw; omega
 have HR7 := Aside0.mk (show Kd.R (Kd.int .i64) 3 w7 b0 (fun k => (b0 ≤ k ∧ k ≠ gw) ∧ k < w7.heap.size) v7 [] from Kd.R_mono (Kd.R_bound (Kd.R_lower ho hsz |> fun _ => Kd.R_lower (Kd.R_mono (Kd.R_bound ho) (fun k hk => show w6.heap.size ≤ k from hk.2.1)) hsz)) (fun k hk => ⟨⟨by have := hk.1; omega, by have := hk.1; have := HO6.out.bw; omega⟩, hk.2.2.1⟩))
 clear ho hb hg_ hnew_ hsz HO6 BM6 BZ6 HI6 HCh6
 go_wp2_with ((with_reducible refine gate_dst (N := 22) rfl ?_); refine Classical.byContradiction (fun hng => ?_))
 refine hng ?_
 clear hng
 refine Kd.R_lit (Kd.int .i64) _ 3 ?hg (N := 22) ?hd (xs := ([0] : List Int)) (inner := [.int .i64 0]) (ok := fun _ => True) (okp := fun _ => True) ?hr ?hp (fun _ hk => hk) trivial (Below.refl _ _) (Nat.le_refl _) (by simp) ?_
 (case hd => rfl)
 (case hg => rfl)
 (case hr => first | (go_simp; done) | (go_simp; rfl))
 (case hp => exact (Reps.one (show Kd.M (Kd.int .i64) _ _ _ 0 [.int .i64 0] from rfl) (Reps.none _ _)))
 intro v8 w8 ho hb hg_ hnew_
 have HO8 := Aside0.mk (HO7.out.ch ((Ch.refl (fun _ => False) _).below hb) (fun h => h) (fun h => h))
 have BM8 := Aside0.mk (blk_below BM7.out hb)
 have BZ8 := Aside0.mk (blk_below BZ7.out hb)
 have HI8 := Aside0.mk (HI7.out.below hb)
 have HCh8 := Aside0.mk (HCh7.out.below hb)
 have hsz : b0 ≤ w7.heap.size := by have := HO7.out.bw; omega
 have HR8 := Aside0.mk (show Kd.R (Kd.int .i64) 3 w8 b0 (fun k => w7.heap.size ≤ k) v8 [0] from Kd.R_lower (Kd.R_mono (Kd.R_bound ho) (fun k hk => hk.2.1)) hsz)
 have HF8 := Aside0.mk (show Fl b0 gz gm gw cW gc cC w8 v7 v8 ws y 0 y cards [0] [] from ⟨HO8.out, BM8.out, BZ8.out, Kd.R_mono HR8.out (fun k hk => ⟨⟨by omega, by have := HO7.out.bw; omega⟩, fun e => by have := HR7.out.1 k e.symm; omega⟩), Kd.R_mono (Kd.R_below HR7.out hb) (fun k hk => ⟨hk.1, fun e => by have := HR8.out.1 k e.symm; omega⟩), ⟨HGz.out, HGm.out⟩⟩)
 clear ho hb hg_ hnew_ hsz HO7 BM7 BZ7 HI7 HCh7 HR7 HR8 HO8 BM8 BZ8
 go_wp2_with (go_at_call 39; refine Classical.byContradiction (fun hng => ?_))
 refine hng ?_
 clear hng
 refine (pick_any _ g 22 w0 _ HI8.out z26 z25 z25).mono ?_
 rintro e w9 ⟨x0, rfl, hx0, hi, hk⟩
 have hst := HI8.out.step hi hk
 have HI9 := Aside0.mk hi
 have HCh9 := Aside0.mk (HCh8.out.then_ hst)
 have HF9 := Aside0.mk (HF8.out.ch hst (fun k hk => by have := HG.out; omega))
 have HX0 := Aside0.mk hx0
 clear hx0
 clear hst hi hk HI8 HCh8 HF8
 go_wp2
 go_loopw [7, 8, 9] (fun v7 v8 v9 wr => ∃ (x : Int) (ws : List Int) (t o : Int) (cards : List Bool) (pl rt : List Int), v9 = .int .i64 x ∧ Aside0 (Fl b0 gz gm gw cW gc cC wr v7 v8 ws y t o cards pl rt) ∧ Aside0 (Bnd cs ws y t o cards ∧ (∀ z ∈ pl, 0 ≤ z ∧ z ≤ y + n) ∧ (ws.length : Int) = y + n) ∧ Aside0 (0 ≤ x ∧ x ≤ 22 ∧ 1 ≤ pl.length ∧ pl.length + x ≤ 25 ∧ rt.length + x ≤ 25) ∧ Aside0 (Rdr (M + 10 + 100 * (22 - x)) w0 wr g) ∧ Aside0 (Ch (fun k => k = g) w wr)) (fun _ _ v9 _ => (intOf v9).toNat)
 case atStart => exact ⟨x0, ws, 0, y, cards, [0], [], rfl, HF9, ⟨HB0.out, fun z hz => by have := HY.out; have := HN.out; simp at hz; omega, HLn.out.1⟩, ⟨by have := HX0.out; simp; omega⟩, ⟨HI9.out.le (by have := HX0.out; omega)⟩, HCh9⟩
 case round =>
  clear HF9 HI9 HCh9 HX0 HB0 HLn
  obtain ⟨x, ws, t, o, cards, pl, rt, rfl, HF, HB, HX, HI, HCh⟩ := hrel
  by_cases cx : 0 < x
  ·have d0 : decide (0 < x) = true := decide_eq_true cx
   have HX2 := Aside0.mk (show 0 < x ∧ x ≤ 22 ∧ 1 ≤ pl.length ∧ pl.length + x ≤ 25 ∧ rt.length + x ≤ 25 by have := HX.out; omega)
   have q0 : IntKind.i64.wrap (x - 1) = x - 1 := IntWalk.i64_in _ (by have := HX.out; omega)
   have q1 : IntKind.i64.wrap ((cs.length : Int) + 2) = (cs.length : Int) + 2 := IntWalk.i64_in _ z25
   clear cx HX
   go_wp2_with fail
   go_at_call 39
   refine (pick_any _ g ((cs.length : Int) + 2) w0 _ HI.out z30 z25 z25).mono ?_
   rintro e w1 ⟨c0, rfl, hc0, hi, hk⟩
   have hst := HI.out.step hi hk
   have HI1 := Aside0.mk hi
   have HCh1 := Aside0.mk (HCh.out.then_ hst)
   have HF1 := Aside0.mk (HF.out.ch hst (fun k hk => by have := HG.out; omega))
   obtain ⟨c, hc⟩ : ∃ c, c = c0 - 2 := ⟨_, rfl⟩
   have q2 : IntKind.i64.wrap (c0 - 2) = c := by rw [hc]; exact IntWalk.i64_in _ z25
   have HCc := Aside0.mk (show -2 ≤ c ∧ c < cs.length by omega)
   clear hc hc0
   clear hst hi hk HI HCh HF
   go_wp2
   replace HI1 := Aside0.mk HI1.out.drew
   replace HCh1 := Aside0.mk HCh1.out.drew
   replace HF1 := Aside0.mk (HF1.out.ch (Ch.drew (Ch.refl (fun _ => False) _)) (fun _ h => h.elim))
   have HF0 := HF1
   have HI0 := HI1
   have HCh0 := HCh1
   clear HF1 HI1 HCh1
   refine start_ (n := 15) (S := fun w' => w'.cell? ⟨gm, 0, none⟩ = some (.slice (some ⟨gw, 0, none⟩) ws.length cW) ∧ w'.cell? ⟨gm, 1, none⟩ = some (.int .i64 y) ∧ w'.cell? ⟨gm, 2, none⟩ = some (.int .i64 t) ∧ w'.cell? ⟨gm, 3, none⟩ = some (.int .i64 o) ∧ w'.cell? ⟨gm, 4, none⟩ = some (.slice (some ⟨gc, 0, none⟩) cards.length cC)) (ds := [13]) #[false, false, false, false, false, false, false, false, false, false, false, false, false, false, false] (by kernel_rfl) rfl rfl ⟨((blk_cell HF0.out.bx 0).trans rfl), ((blk_cell HF0.out.bx 1).trans rfl), ((blk_cell HF0.out.bx 2).trans rfl), ((blk_cell HF0.out.bx 3).trans rfl), ((blk_cell HF0.out.bx 4).trans rfl)⟩ (fun hHeld => ?_)
   generalize w1.drew = w1a at HF0 HI0 HCh0 hHeld ⊢
   refine pS 0 36 (lA 15 1) ?_
   refine pS 2 38 (lA 15 5) ?_
   refine pS 3 39 (lA 15 13) ?_
   refine pS 5 41 (lA 15 45) ?_
   refine tS 1 37 (lA 15 47) rfl rfl (by kernel_rfl) hHeld z8 ?_
   refine join_ (σ := Nat × List Int × Int × Int × Int × Int × Int) 2 (lA 15 8191) (fun s => [(40, .int .i64 s.2.2.2.2.2.1), (42, .int .i64 s.2.2.2.2.2.2), (43, .bool (s.2.2.2.2.2.2 == 0)), (44, .tuple #[.agg #[.slice (some ⟨gw, 0, none⟩) ws.length cW, .int .i64 y, .int .i64 s.2.2.1, .int .i64 s.2.2.2.1, .slice (some ⟨gc, 0, none⟩) cards.length cC], .int .i64 s.2.2.2.2.1]), (35, .tuple #[.agg #[.slice (some ⟨gw, 0, none⟩) ws.length cW, .int .i64 y, .int .i64 s.2.2.1, .int .i64 s.2.2.2.1, .slice (some ⟨gc, 0, none⟩) cards.length cC], .int .i64 s.2.2.2.2.1]), (45, .agg #[.slice (some ⟨gw, 0, none⟩) ws.length cW, .int .i64 y, .int .i64 s.2.2.1, .int .i64 s.2.2.2.1, .slice (some ⟨gc, 0, none⟩) cards.length cC]), (46, .int .i64 s.2.2.2.2.1), (11, .pointer (some ⟨s.1, 0, none⟩))]) (fun s w' => Fl b0 gz gm gw cW gc cC w' u7 u8 s.2.1 y t o cards pl rt ∧ w'.heap[s.1]? = some (.cells #[.slice none 0 0, .int .i64 0, .int .i64 0, .int .i64 0, .slice none 0 0] 27 (0, 0)) ∧ (b0 ≤ s.1 ∧ gm < s.1) ∧ Rdr (M + 10 + 100 * (22 - x) + 1 + 1 + 1) w0 w' g ∧ Ch (fun k => k = g) w w' ∧ (s.2.1.length = ws.length ∧ ((s.2.2.2.2.1 = 0 ∧ s.2.1 = ws ∧ s.2.2.1 = t ∧ s.2.2.2.1 = o) ∨ (1 ≤ s.2.2.2.2.1 ∧ s.2.2.2.2.1 ≤ ws.length ∧ Bnd cs s.2.1 y s.2.2.1 s.2.2.2.1 cards))) ∧ (w'.cell? ⟨gm, 0, none⟩ = some (.slice (some ⟨gw, 0, none⟩) ws.length cW) ∧ w'.cell? ⟨gm, 1, none⟩ = some (.int .i64 y) ∧ w'.cell? ⟨gm, 2, none⟩ = some (.int .i64 t) ∧ w'.cell? ⟨gm, 3, none⟩ = some (.int .i64 o) ∧ w'.cell? ⟨gm, 4, none⟩ = some (.slice (some ⟨gc, 0, none⟩) cards.length cC))) ?_ ?_
   rotate_left
   ·intro hCont
    refine two_ (i := 4) (j := 12) (Ni := some 40) (Nj := some 11) (lA 15 63) (lA 15 4143) rfl rfl rfl rfl (by kernel_rfl) (by decide) (by decide) (fun K hK => ?_) (fun K hK => ?_)
    ·skip
     refine goes_ Try.func39 (by kernel_rfl) rfl #[.pointer (some ⟨g, 0, none⟩), .int .i64 4] (by rfl) rfl rfl z5 ?_
     with_reducible refine (pick_any _ g 4 w0 _ HI0.out z30 (by omega) (by omega)).mono ?_
     rintro e wc1 ⟨n4, rfl, hn4, hi, hk⟩
     refine ⟨_, rfl, ?_⟩
     have hst := HI0.out.step hi hk
     have HI1 := Aside0.mk hi
     have HCh1 := Aside0.mk (HCh0.out.then_ hst)
     have HF1 := Aside0.mk (HF0.out.ch hst (fun k hk => by have := HG.out; omega))
     have HN4 := Aside0.mk hn4
     clear hn4
     clear hst hi hk HI0 HCh0 HF0
     refine hK.out _ _ ⟨((blk_cell HF1.out.bx 0).trans rfl), ((blk_cell HF1.out.bx 1).trans rfl), ((blk_cell HF1.out.bx 2).trans rfl), ((blk_cell HF1.out.bx 3).trans rfl), ((blk_cell HF1.out.bx 4).trans rfl)⟩ (fun hHeld => ?_)
     clear hK K
     refine norm_ (a' := ?_) ?_ ?_
     rotate_left
     ·show Act.put _ (some 40) _ = _
      simp only [Act.put, lA1, lA2, lA3, i64_w, i32_w]
      rfl
     refine two_ (i := 6) (j := 12) (Ni := some 42) (Nj := some 11) (lA 15 127) (lA 15 4159) rfl rfl rfl rfl (by kernel_rfl) (by decide) (by decide) (fun K hK => ?_) (fun K hK => ?_)
     ·skip
      refine goes_ Try.func39 (by kernel_rfl) rfl #[.pointer (some ⟨g, 0, none⟩), .int .i64 3] (by rfl) rfl rfl z5 ?_
      with_reducible refine (pick_any _ g 3 w0 _ HI1.out z30 (by omega) (by omega)).mono ?_
      rintro e wc2 ⟨q3, rfl, hq3, hi, hk⟩
      refine ⟨_, rfl, ?_⟩
      have hst := HI1.out.step hi hk
      have HI2 := Aside0.mk hi
      have HCh2 := Aside0.mk (HCh1.out.then_ hst)
      have HF2 := Aside0.mk (HF1.out.ch hst (fun k hk => by have := HG.out; omega))
      clear hq3
      clear hst hi hk HI1 HCh1 HF1
      refine hK.out _ _ ⟨((blk_cell HF2.out.bx 0).trans rfl), ((blk_cell HF2.out.bx 1).trans rfl), ((blk_cell HF2.out.bx 2).trans rfl), ((blk_cell HF2.out.bx 3).trans rfl), ((blk_cell HF2.out.bx 4).trans rfl)⟩ (fun hHeld => ?_)
      clear hK K
      refine norm_ (a' := ?_) ?_ ?_
      rotate_left
      ·show Act.put _ (some 42) _ = _
       simp only [Act.put, lA1, lA2, lA3, i64_w, i32_w]
       rfl
      refine pS 7 43 (lA 15 255) ?_
      refine two_ (i := 8) (j := 12) (Ni := some 44) (Nj := some 11) (lA 15 511) (lA 15 4351) rfl rfl rfl rfl (by kernel_rfl) (by decide) (by decide) (fun K hK => ?_) (fun K hK => ?_)
      ·skip
       obtain ⟨⟨ws1, y1, t1, o1, cd1, a1⟩, hR⟩ : ∃ R, tryM ws y t o cards c n4 (measN (allF cs) c n4) (q3 == 0) = R := ⟨_, rfl⟩
       have HMs := Aside0.mk (measN_pos HOk.out HCc.out (show 0 ≤ n4 ∧ n4 ≤ 6 by have := HN4.out; omega))
       have HR := Aside0.mk (tryM_cases HB.out.1 HMs.out hR)
       refine goes_ Try.func53 (by kernel_rfl) rfl #[.slice A cs.length cA, .agg #[.slice (some ⟨gw, 0, none⟩) ws.length cW, .int .i64 y, .int .i64 t, .int .i64 o, .slice (some ⟨gc, 0, none⟩) cards.length cC], .int .i64 c, .int .i64 n4, .bool (q3 == 0)] (by rfl) rfl rfl z5 ?_
       with_reducible refine (try_any2 b0 gw cW gc cC ws y t o cards A cA cs c n4 (q3 == 0) _ HF2.out.om HB.out.1 HMs.out (HC.out _ HCh2.out.keep) HCA.out hR).mono ?_
       rintro e wc3 ⟨rfl, hO, hc⟩
       refine ⟨_, rfl, ?_⟩
       have HF3 := Aside0.mk (HF2.out.try_ hc hO HR.out.1)
       have HI3 := Aside0.mk (HI2.out.ch hc (by have := HF2.out.om.bw; have := HG.out; omega) (fun k hk => by have := HF2.out.om.bw; have := HG.out; omega))
       have HCh3 := Aside0.mk (HCh2.out.trans hc (fun k hk => .inr (by have := HF2.out.om.bw; have := HBW.out; omega)))
       have BG := Aside0.mk (show wc3.heap[gm]? = some (.cells #[.slice (some ⟨gw, 0, none⟩) ws.length cW, .int .i64 y, .int .i64 t, .int .i64 o, .slice (some ⟨gc, 0, none⟩) cards.length cC] 27 (0, 0)) by have h_ := HF3.out.bx; rw [HR.out.1] at h_; exact h_)
       clear hO hc hR HMs HI2 HCh2 HF2
       refine hK.out _ _ ⟨((blk_cell BG.out 0).trans rfl), ((blk_cell BG.out 1).trans rfl), ((blk_cell BG.out 2).trans rfl), ((blk_cell BG.out 3).trans rfl), ((blk_cell BG.out 4).trans rfl)⟩ (fun hHeld => ?_)
       clear hK K
       refine norm_ (a' := ?_) ?_ ?_
       rotate_left
       ·show Act.put _ (some 44) _ = _
        simp only [Act.put, lA1, lA2, lA3, i64_w, i32_w]
        rfl
       refine pS 9 35 (lA 15 1023) ?_
       refine pS 10 45 (lA 15 2047) ?_
       refine pS 11 46 (lA 15 4095) ?_
       refine one_ (i := 12) (N := some 11) (lA 15 8191) rfl rfl (by kernel_rfl) (by decide) (fun K hK => ?_)
       have HGx := Aside0.mk (show b0 ≤ wc3.heap.size ∧ gm < wc3.heap.size by have := blk_lt HF3.out.bx; have := HF3.out.gm0; omega)
       have BX4 := Aside0.mk (blk_new wc3 (.cells #[.slice none 0 0, .int .i64 0, .int .i64 0, .int .i64 0, .slice none 0 0] 27 (0, 0)))
       have HF4 := Aside0.mk (HF3.out.below (below_alloc (Below.refl _ _) (.cells #[.slice none 0 0, .int .i64 0, .int .i64 0, .int .i64 0, .slice none 0 0] 27 (0, 0))))
       have HI4 := Aside0.mk (HI3.out.alloc (.cells #[.slice none 0 0, .int .i64 0, .int .i64 0, .int .i64 0, .slice none 0 0] 27 (0, 0)))
       have HCh4 := Aside0.mk (HCh3.out.alloc (.cells #[.slice none 0 0, .int .i64 0, .int .i64 0, .int .i64 0, .slice none 0 0] 27 (0, 0)))
       refine value_ (w1 := ?_) (v := ?_) (by rfl) rfl ?_ ?_
       rotate_left 2
       ·go_simp
        constructor
        ·rfl
        ·rfl
       refine hK.out _ _ ⟨((blk_cell (blk_alloc BG.out (.cells #[.slice none 0 0, .int .i64 0, .int .i64 0, .int .i64 0, .slice none 0 0] 27 (0, 0))) 0).trans rfl), ((blk_cell (blk_alloc BG.out (.cells #[.slice none 0 0, .int .i64 0, .int .i64 0, .int .i64 0, .slice none 0 0] 27 (0, 0))) 1).trans rfl), ((blk_cell (blk_alloc BG.out (.cells #[.slice none 0 0, .int .i64 0, .int .i64 0, .int .i64 0, .slice none 0 0] 27 (0, 0))) 2).trans rfl), ((blk_cell (blk_alloc BG.out (.cells #[.slice none 0 0, .int .i64 0, .int .i64 0, .int .i64 0, .slice none 0 0] 27 (0, 0))) 3).trans rfl), ((blk_cell (blk_alloc BG.out (.cells #[.slice none 0 0, .int .i64 0, .int .i64 0, .int .i64 0, .slice none 0 0] 27 (0, 0))) 4).trans rfl)⟩ (fun hHeld => ?_)
       clear hK K
       refine norm_ (a' := ?_) ?_ ?_
       rotate_left
       ·show Act.put _ (some 11) _ = _
        simp only [Act.put, lA1, lA2, lA3, i64_w, i32_w]
        rfl
       exact norm_ z16 (hCont (wc3.heap.size, ws1, t1, o1, a1, n4, q3) _ ⟨HF4.out, BX4.out, HGx.out, HI4.out, HCh4.out, HR.out, hHeld⟩)
      ·skip
       have HGx := Aside0.mk (show b0 ≤ wc2.heap.size ∧ gm < wc2.heap.size by have := blk_lt HF2.out.bx; have := HF2.out.gm0; omega)
       have BX3 := Aside0.mk (blk_new wc2 (.cells #[.slice none 0 0, .int .i64 0, .int .i64 0, .int .i64 0, .slice none 0 0] 27 (0, 0)))
       have HF3 := Aside0.mk (HF2.out.below (below_alloc (Below.refl _ _) (.cells #[.slice none 0 0, .int .i64 0, .int .i64 0, .int .i64 0, .slice none 0 0] 27 (0, 0))))
       have HI3 := Aside0.mk (HI2.out.alloc (.cells #[.slice none 0 0, .int .i64 0, .int .i64 0, .int .i64 0, .slice none 0 0] 27 (0, 0)))
       have HCh3 := Aside0.mk (HCh2.out.alloc (.cells #[.slice none 0 0, .int .i64 0, .int .i64 0, .int .i64 0, .slice none 0 0] 27 (0, 0)))
       refine value_ (w1 := ?_) (v := ?_) (by rfl) rfl ?_ ?_
       rotate_left 2
       ·go_simp
        constructor
        ·rfl
        ·rfl
       refine hK.out _ _ ⟨((blk_cell (blk_alloc HF2.out.bx (.cells #[.slice none 0 0, .int .i64 0, .int .i64 0, .int .i64 0, .slice none 0 0] 27 (0, 0))) 0).trans rfl), ((blk_cell (blk_alloc HF2.out.bx (.cells #[.slice none 0 0, .int .i64 0, .int .i64 0, .int .i64 0, .slice none 0 0] 27 (0, 0))) 1).trans rfl), ((blk_cell (blk_alloc HF2.out.bx (.cells #[.slice none 0 0, .int .i64 0, .int .i64 0, .int .i64 0, .slice none 0 0] 27 (0, 0))) 2).trans rfl), ((blk_cell (blk_alloc HF2.out.bx (.cells #[.slice none 0 0, .int .i64 0, .int .i64 0, .int .i64 0, .slice none 0 0] 27 (0, 0))) 3).trans rfl), ((blk_cell (blk_alloc HF2.out.bx (.cells #[.slice none 0 0, .int .i64 0, .int .i64 0, .int .i64 0, .slice none 0 0] 27 (0, 0))) 4).trans rfl)⟩ (fun hHeld => ?_)
       clear hK K
       refine norm_ (a' := ?_) ?_ ?_
       rotate_left
       ·show Act.put _ (some 11) _ = _
        simp only [Act.put, lA1, lA2, lA3, i64_w, i32_w]
        rfl
       refine one_ (i := 8) (N := some 44) (lA 15 4607) rfl rfl (by kernel_rfl) (by decide) (fun K hK => ?_)
       obtain ⟨⟨ws1, y1, t1, o1, cd1, a1⟩, hR⟩ : ∃ R, tryM ws y t o cards c n4 (measN (allF cs) c n4) (q3 == 0) = R := ⟨_, rfl⟩
       have HMs := Aside0.mk (measN_pos HOk.out HCc.out (show 0 ≤ n4 ∧ n4 ≤ 6 by have := HN4.out; omega))
       have HR := Aside0.mk (tryM_cases HB.out.1 HMs.out hR)
       refine goes_ Try.func53 (by kernel_rfl) rfl #[.slice A cs.length cA, .agg #[.slice (some ⟨gw, 0, none⟩) ws.length cW, .int .i64 y, .int .i64 t, .int .i64 o, .slice (some ⟨gc, 0, none⟩) cards.length cC], .int .i64 c, .int .i64 n4, .bool (q3 == 0)] (by rfl) rfl rfl z5 ?_
       with_reducible refine (try_any2 b0 gw cW gc cC ws y t o cards A cA cs c n4 (q3 == 0) _ HF3.out.om HB.out.1 HMs.out (HC.out _ HCh3.out.keep) HCA.out hR).mono ?_
       rintro e wc4 ⟨rfl, hO, hc⟩
       refine ⟨_, rfl, ?_⟩
       have HF4 := Aside0.mk (HF3.out.try_ hc hO HR.out.1)
       have HI4 := Aside0.mk (HI3.out.ch hc (by have := HF3.out.om.bw; have := HG.out; omega) (fun k hk => by have := HF3.out.om.bw; have := HG.out; omega))
       have HCh4 := Aside0.mk (HCh3.out.trans hc (fun k hk => .inr (by have := HF3.out.om.bw; have := HBW.out; omega)))
       have BG := Aside0.mk (show wc4.heap[gm]? = some (.cells #[.slice (some ⟨gw, 0, none⟩) ws.length cW, .int .i64 y, .int .i64 t, .int .i64 o, .slice (some ⟨gc, 0, none⟩) cards.length cC] 27 (0, 0)) by have h_ := HF4.out.bx; rw [HR.out.1] at h_; exact h_)
       have BX4 := Aside0.mk (hc.blk BX3.out (by have := HF3.out.om.nbox BX3.out; omega))
       clear hO hc hR HMs HI3 HCh3 HF3 BX3
       refine hK.out _ _ ⟨((blk_cell BG.out 0).trans rfl), ((blk_cell BG.out 1).trans rfl), ((blk_cell BG.out 2).trans rfl), ((blk_cell BG.out 3).trans rfl), ((blk_cell BG.out 4).trans rfl)⟩ (fun hHeld => ?_)
       clear hK K
       refine norm_ (a' := ?_) ?_ ?_
       rotate_left
       ·show Act.put _ (some 44) _ = _
        simp only [Act.put, lA1, lA2, lA3, i64_w, i32_w]
        rfl
       refine pS 9 35 (lA 15 5119) ?_
       refine pS 10 45 (lA 15 6143) ?_
       refine pS 11 46 (lA 15 8191) ?_
       exact norm_ z16 (hCont (wc2.heap.size, ws1, t1, o1, a1, n4, q3) _ ⟨HF4.out, BX4.out, HGx.out, HI4.out, HCh4.out, HR.out, hHeld⟩)
     ·skip
      have HGx := Aside0.mk (show b0 ≤ wc1.heap.size ∧ gm < wc1.heap.size by have := blk_lt HF1.out.bx; have := HF1.out.gm0; omega)
      have BX2 := Aside0.mk (blk_new wc1 (.cells #[.slice none 0 0, .int .i64 0, .int .i64 0, .int .i64 0, .slice none 0 0] 27 (0, 0)))
      have HF2 := Aside0.mk (HF1.out.below (below_alloc (Below.refl _ _) (.cells #[.slice none 0 0, .int .i64 0, .int .i64 0, .int .i64 0, .slice none 0 0] 27 (0, 0))))
      have HI2 := Aside0.mk (HI1.out.alloc (.cells #[.slice none 0 0, .int .i64 0, .int .i64 0, .int .i64 0, .slice none 0 0] 27 (0, 0)))
      have HCh2 := Aside0.mk (HCh1.out.alloc (.cells #[.slice none 0 0, .int .i64 0, .int .i64 0, .int .i64 0, .slice none 0 0] 27 (0, 0)))
      refine value_ (w1 := ?_) (v := ?_) (by rfl) rfl ?_ ?_
      rotate_left 2
      ·go_simp
       constructor
       ·rfl
       ·rfl
      refine hK.out _ _ ⟨((blk_cell (blk_alloc HF1.out.bx (.cells #[.slice none 0 0, .int .i64 0, .int .i64 0, .int .i64 0, .slice none 0 0] 27 (0, 0))) 0).trans rfl), ((blk_cell (blk_alloc HF1.out.bx (.cells #[.slice none 0 0, .int .i64 0, .int .i64 0, .int .i64 0, .slice none 0 0] 27 (0, 0))) 1).trans rfl), ((blk_cell (blk_alloc HF1.out.bx (.cells #[.slice none 0 0, .int .i64 0, .int .i64 0, .int .i64 0, .slice none 0 0] 27 (0, 0))) 2).trans rfl), ((blk_cell (blk_alloc HF1.out.bx (.cells #[.slice none 0 0, .int .i64 0, .int .i64 0, .int .i64 0, .slice none 0 0] 27 (0, 0))) 3).trans rfl), ((blk_cell (blk_alloc HF1.out.bx (.cells #[.slice none 0 0, .int .i64 0, .int .i64 0, .int .i64 0, .slice none 0 0] 27 (0, 0))) 4).trans rfl)⟩ (fun hHeld => ?_)
      clear hK K
      refine norm_ (a' := ?_) ?_ ?_
      rotate_left
      ·show Act.put _ (some 11) _ = _
       simp only [Act.put, lA1, lA2, lA3, i64_w, i32_w]
       rfl
      refine one_ (i := 6) (N := some 42) (lA 15 4223) rfl rfl (by kernel_rfl) (by decide) (fun K hK => ?_)
      refine goes_ Try.func39 (by kernel_rfl) rfl #[.pointer (some ⟨g, 0, none⟩), .int .i64 3] (by rfl) rfl rfl z5 ?_
      with_reducible refine (pick_any _ g 3 w0 _ HI2.out z30 (by omega) (by omega)).mono ?_
      rintro e wc3 ⟨q3, rfl, hq3, hi, hk⟩
      refine ⟨_, rfl, ?_⟩
      have hst := HI2.out.step hi hk
      have HI3 := Aside0.mk hi
      have HCh3 := Aside0.mk (HCh2.out.then_ hst)
      have HF3 := Aside0.mk (HF2.out.ch hst (fun k hk => by have := HG.out; omega))
      have BX3 := Aside0.mk (hst.blk BX2.out (by have := HG.out; have := HGx.out; omega))
      clear hq3
      clear hst hi hk HI2 HCh2 HF2 BX2
      refine hK.out _ _ ⟨((blk_cell HF3.out.bx 0).trans rfl), ((blk_cell HF3.out.bx 1).trans rfl), ((blk_cell HF3.out.bx 2).trans rfl), ((blk_cell HF3.out.bx 3).trans rfl), ((blk_cell HF3.out.bx 4).trans rfl)⟩ (fun hHeld => ?_)
      clear hK K
      refine norm_ (a' := ?_) ?_ ?_
      rotate_left
      ·show Act.put _ (some 42) _ = _
       simp only [Act.put, lA1, lA2, lA3, i64_w, i32_w]
       rfl
      refine pS 7 43 (lA 15 4351) ?_
      refine one_ (i := 8) (N := some 44) (lA 15 4607) rfl rfl (by kernel_rfl) (by decide) (fun K hK => ?_)
      obtain ⟨⟨ws1, y1, t1, o1, cd1, a1⟩, hR⟩ : ∃ R, tryM ws y t o cards c n4 (measN (allF cs) c n4) (q3 == 0) = R := ⟨_, rfl⟩
      have HMs := Aside0.mk (measN_pos HOk.out HCc.out (show 0 ≤ n4 ∧ n4 ≤ 6 by have := HN4.out; omega))
      have HR := Aside0.mk (tryM_cases HB.out.1 HMs.out hR)
      refine goes_ Try.func53 (by kernel_rfl) rfl #[.slice A cs.length cA, .agg #[.slice (some ⟨gw, 0, none⟩) ws.length cW, .int .i64 y, .int .i64 t, .int .i64 o, .slice (some ⟨gc, 0, none⟩) cards.length cC], .int .i64 c, .int .i64 n4, .bool (q3 == 0)] (by rfl) rfl rfl z5 ?_
      with_reducible refine (try_any2 b0 gw cW gc cC ws y t o cards A cA cs c n4 (q3 == 0) _ HF3.out.om HB.out.1 HMs.out (HC.out _ HCh3.out.keep) HCA.out hR).mono ?_
      rintro e wc4 ⟨rfl, hO, hc⟩
      refine ⟨_, rfl, ?_⟩
      have HF4 := Aside0.mk (HF3.out.try_ hc hO HR.out.1)
      have HI4 := Aside0.mk (HI3.out.ch hc (by have := HF3.out.om.bw; have := HG.out; omega) (fun k hk => by have := HF3.out.om.bw; have := HG.out; omega))
      have HCh4 := Aside0.mk (HCh3.out.trans hc (fun k hk => .inr (by have := HF3.out.om.bw; have := HBW.out; omega)))
      have BG := Aside0.mk (show wc4.heap[gm]? = some (.cells #[.slice (some ⟨gw, 0, none⟩) ws.length cW, .int .i64 y, .int .i64 t, .int .i64 o, .slice (some ⟨gc, 0, none⟩) cards.length cC] 27 (0, 0)) by have h_ := HF4.out.bx; rw [HR.out.1] at h_; exact h_)
      have BX4 := Aside0.mk (hc.blk BX3.out (by have := HF3.out.om.nbox BX3.out; omega))
      clear hO hc hR HMs HI3 HCh3 HF3 BX3
      refine hK.out _ _ ⟨((blk_cell BG.out 0).trans rfl), ((blk_cell BG.out 1).trans rfl), ((blk_cell BG.out 2).trans rfl), ((blk_cell BG.out 3).trans rfl), ((blk_cell BG.out 4).trans rfl)⟩ (fun hHeld => ?_)
      clear hK K
      refine norm_ (a' := ?_) ?_ ?_
      rotate_left
      ·show Act.put _ (some 44) _ = _
       simp only [Act.put, lA1, lA2, lA3, i64_w, i32_w]
       rfl
      refine pS 9 35 (lA 15 5119) ?_
      refine pS 10 45 (lA 15 6143) ?_
      refine pS 11 46 (lA 15 8191) ?_
      exact norm_ z16 (hCont (wc1.heap.size, ws1, t1, o1, a1, n4, q3) _ ⟨HF4.out, BX4.out, HGx.out, HI4.out, HCh4.out, HR.out, hHeld⟩)
    ·skip
     have HGx := Aside0.mk (show b0 ≤ w1a.heap.size ∧ gm < w1a.heap.size by have := blk_lt HF0.out.bx; have := HF0.out.gm0; omega)
     have BX1 := Aside0.mk (blk_new w1a (.cells #[.slice none 0 0, .int .i64 0, .int .i64 0, .int .i64 0, .slice none 0 0] 27 (0, 0)))
     have HF1 := Aside0.mk (HF0.out.below (below_alloc (Below.refl _ _) (.cells #[.slice none 0 0, .int .i64 0, .int .i64 0, .int .i64 0, .slice none 0 0] 27 (0, 0))))
     have HI1 := Aside0.mk (HI0.out.alloc (.cells #[.slice none 0 0, .int .i64 0, .int .i64 0, .int .i64 0, .slice none 0 0] 27 (0, 0)))
     have HCh1 := Aside0.mk (HCh0.out.alloc (.cells #[.slice none 0 0, .int .i64 0, .int .i64 0, .int .i64 0, .slice none 0 0] 27 (0, 0)))
     refine value_ (w1 := ?_) (v := ?_) (by rfl) rfl ?_ ?_
     rotate_left 2
     ·go_simp
      constructor
      ·rfl
      ·rfl
     refine hK.out _ _ ⟨((blk_cell (blk_alloc HF0.out.bx (.cells #[.slice none 0 0, .int .i64 0, .int .i64 0, .int .i64 0, .slice none 0 0] 27 (0, 0))) 0).trans rfl), ((blk_cell (blk_alloc HF0.out.bx (.cells #[.slice none 0 0, .int .i64 0, .int .i64 0, .int .i64 0, .slice none 0 0] 27 (0, 0))) 1).trans rfl), ((blk_cell (blk_alloc HF0.out.bx (.cells #[.slice none 0 0, .int .i64 0, .int .i64 0, .int .i64 0, .slice none 0 0] 27 (0, 0))) 2).trans rfl), ((blk_cell (blk_alloc HF0.out.bx (.cells #[.slice none 0 0, .int .i64 0, .int .i64 0, .int .i64 0, .slice none 0 0] 27 (0, 0))) 3).trans rfl), ((blk_cell (blk_alloc HF0.out.bx (.cells #[.slice none 0 0, .int .i64 0, .int .i64 0, .int .i64 0, .slice none 0 0] 27 (0, 0))) 4).trans rfl)⟩ (fun hHeld => ?_)
     clear hK K
     refine norm_ (a' := ?_) ?_ ?_
     rotate_left
     ·show Act.put _ (some 11) _ = _
      simp only [Act.put, lA1, lA2, lA3, i64_w, i32_w]
      rfl
     refine one_ (i := 4) (N := some 40) (lA 15 4159) rfl rfl (by kernel_rfl) (by decide) (fun K hK => ?_)
     refine goes_ Try.func39 (by kernel_rfl) rfl #[.pointer (some ⟨g, 0, none⟩), .int .i64 4] (by rfl) rfl rfl z5 ?_
     with_reducible refine (pick_any _ g 4 w0 _ HI1.out z30 (by omega) (by omega)).mono ?_
     rintro e wc2 ⟨n4, rfl, hn4, hi, hk⟩
     refine ⟨_, rfl, ?_⟩
     have hst := HI1.out.step hi hk
     have HI2 := Aside0.mk hi
     have HCh2 := Aside0.mk (HCh1.out.then_ hst)
     have HF2 := Aside0.mk (HF1.out.ch hst (fun k hk => by have := HG.out; omega))
     have BX2 := Aside0.mk (hst.blk BX1.out (by have := HG.out; have := HGx.out; omega))
     have HN4 := Aside0.mk hn4
     clear hn4
     clear hst hi hk HI1 HCh1 HF1 BX1
     refine hK.out _ _ ⟨((blk_cell HF2.out.bx 0).trans rfl), ((blk_cell HF2.out.bx 1).trans rfl), ((blk_cell HF2.out.bx 2).trans rfl), ((blk_cell HF2.out.bx 3).trans rfl), ((blk_cell HF2.out.bx 4).trans rfl)⟩ (fun hHeld => ?_)
     clear hK K
     refine norm_ (a' := ?_) ?_ ?_
     rotate_left
     ·show Act.put _ (some 40) _ = _
      simp only [Act.put, lA1, lA2, lA3, i64_w, i32_w]
      rfl
     refine one_ (i := 6) (N := some 42) (lA 15 4223) rfl rfl (by kernel_rfl) (by decide) (fun K hK => ?_)
     refine goes_ Try.func39 (by kernel_rfl) rfl #[.pointer (some ⟨g, 0, none⟩), .int .i64 3] (by rfl) rfl rfl z5 ?_
     with_reducible refine (pick_any _ g 3 w0 _ HI2.out z30 (by omega) (by omega)).mono ?_
     rintro e wc3 ⟨q3, rfl, hq3, hi, hk⟩
     refine ⟨_, rfl, ?_⟩
     have hst := HI2.out.step hi hk
     have HI3 := Aside0.mk hi
     have HCh3 := Aside0.mk (HCh2.out.then_ hst)
     have HF3 := Aside0.mk (HF2.out.ch hst (fun k hk => by have := HG.out; omega))
     have BX3 := Aside0.mk (hst.blk BX2.out (by have := HG.out; have := HGx.out; omega))
     clear hq3
     clear hst hi hk HI2 HCh2 HF2 BX2
     refine hK.out _ _ ⟨((blk_cell HF3.out.bx 0).trans rfl), ((blk_cell HF3.out.bx 1).trans rfl), ((blk_cell HF3.out.bx 2).trans rfl), ((blk_cell HF3.out.bx 3).trans rfl), ((blk_cell HF3.out.bx 4).trans rfl)⟩ (fun hHeld => ?_)
     clear hK K
     refine norm_ (a' := ?_) ?_ ?_
     rotate_left
     ·show Act.put _ (some 42) _ = _
      simp only [Act.put, lA1, lA2, lA3, i64_w, i32_w]
      rfl
     refine pS 7 43 (lA 15 4351) ?_
     refine one_ (i := 8) (N := some 44) (lA 15 4607) rfl rfl (by kernel_rfl) (by decide) (fun K hK => ?_)
     obtain ⟨⟨ws1, y1, t1, o1, cd1, a1⟩, hR⟩ : ∃ R, tryM ws y t o cards c n4 (measN (allF cs) c n4) (q3 == 0) = R := ⟨_, rfl⟩
     have HMs := Aside0.mk (measN_pos HOk.out HCc.out (show 0 ≤ n4 ∧ n4 ≤ 6 by have := HN4.out; omega))
     have HR := Aside0.mk (tryM_cases HB.out.1 HMs.out hR)
     refine goes_ Try.func53 (by kernel_rfl) rfl #[.slice A cs.length cA, .agg #[.slice (some ⟨gw, 0, none⟩) ws.length cW, .int .i64 y, .int .i64 t, .int .i64 o, .slice (some ⟨gc, 0, none⟩) cards.length cC], .int .i64 c, .int .i64 n4, .bool (q3 == 0)] (by rfl) rfl rfl z5 ?_
     with_reducible refine (try_any2 b0 gw cW gc cC ws y t o cards A cA cs c n4 (q3 == 0) _ HF3.out.om HB.out.1 HMs.out (HC.out _ HCh3.out.keep) HCA.out hR).mono ?_
     rintro e wc4 ⟨rfl, hO, hc⟩
     refine ⟨_, rfl, ?_⟩
     have HF4 := Aside0.mk (HF3.out.try_ hc hO HR.out.1)
     have HI4 := Aside0.mk (HI3.out.ch hc (by have := HF3.out.om.bw; have := HG.out; omega) (fun k hk => by have := HF3.out.om.bw; have := HG.out; omega))
     have HCh4 := Aside0.mk (HCh3.out.trans hc (fun k hk => .inr (by have := HF3.out.om.bw; have := HBW.out; omega)))
     have BG := Aside0.mk (show wc4.heap[gm]? = some (.cells #[.slice (some ⟨gw, 0, none⟩) ws.length cW, .int .i64 y, .int .i64 t, .int .i64 o, .slice (some ⟨gc, 0, none⟩) cards.length cC] 27 (0, 0)) by have h_ := HF4.out.bx; rw [HR.out.1] at h_; exact h_)
     have BX4 := Aside0.mk (hc.blk BX3.out (by have := HF3.out.om.nbox BX3.out; omega))
     clear hO hc hR HMs HI3 HCh3 HF3 BX3
     refine hK.out _ _ ⟨((blk_cell BG.out 0).trans rfl), ((blk_cell BG.out 1).trans rfl), ((blk_cell BG.out 2).trans rfl), ((blk_cell BG.out 3).trans rfl), ((blk_cell BG.out 4).trans rfl)⟩ (fun hHeld => ?_)
     clear hK K
     refine norm_ (a' := ?_) ?_ ?_
     rotate_left
     ·show Act.put _ (some 44) _ = _
      simp only [Act.put, lA1, lA2, lA3, i64_w, i32_w]
      rfl
     refine pS 9 35 (lA 15 5119) ?_
     refine pS 10 45 (lA 15 6143) ?_
     refine pS 11 46 (lA 15 8191) ?_
     exact norm_ z16 (hCont (w1a.heap.size, ws1, t1, o1, a1, n4, q3) _ ⟨HF4.out, BX4.out, HGx.out, HI4.out, HCh4.out, HR.out, hHeld⟩)
   rintro ⟨gx, ws1, t1, o1, a1, n4, q3⟩ w4 ⟨hF, hX, hgx, hi, hc, hR, hHeld⟩
   dsimp only at hF hX hgx hR
   have HF4 := Aside0.mk hF
   have BX5 := Aside0.mk hX
   have HGx := Aside0.mk hgx
   have HI4 := Aside0.mk hi
   have HCh4 := Aside0.mk hc
   have HR := Aside0.mk hR
   clear hF hX hgx hi hc hR HF0 HI0 HCh0
   have z0 := (blk_cell BX5.out 0).trans rfl
   have z1 := (blk_cell BX5.out 1).trans rfl
   have z2 := (blk_cell BX5.out 2).trans rfl
   have z3 := (blk_cell BX5.out 3).trans rfl
   have z4 := (blk_cell BX5.out 4).trans rfl
   have y0_ := blk_frozen BX5.out 0
   have y1_ := blk_frozen BX5.out 1
   have y2_ := blk_frozen BX5.out 2
   have y3_ := blk_frozen BX5.out 3
   have y4_ := blk_frozen BX5.out 4
   refine norm_ (a' := ?_) ?_ ?_
   rotate_left
   ·simp only [putAll, Act.put, List.setIfInBounds_toArray, List.set_cons_zero, List.set_cons_succ]
    rfl
   refine last_ (i := 13) (N := none) (lA 15 16383) rfl rfl (by kernel_rfl) (by decide) (fun K hK => ?_)
   refine skip_ (w1 := ?_) (by rfl) rfl ?_ ?_
   rotate_left
   ·go_simp
    rfl
   refine hK.out _ _ ?_
   clear hK K
   refine pS 14 12 (lA 15 32767) ?_
   refine done_ (by kernel_rfl) ?_
   have HF9 := Aside0.mk (show Fl b0 gz gm gw cW gc cC (memBox w4 gx (.slice (some ⟨gw, 0, none⟩) ws.length cW) (.int .i64 y) (.int .i64 t1) (.int .i64 o1) (.slice (some ⟨gc, 0, none⟩) cards.length cC)) u7 u8 ws1 y t o cards pl rt from HF4.out.other BX5.out HGx.out.2 _ _ _ _ _)
   have BX9 := Aside0.mk (show (memBox w4 gx (.slice (some ⟨gw, 0, none⟩) ws.length cW) (.int .i64 y) (.int .i64 t1) (.int .i64 o1) (.slice (some ⟨gc, 0, none⟩) cards.length cC)).heap[gx]? = some (.cells #[.slice (some ⟨gw, 0, none⟩) ws1.length cW, .int .i64 y, .int .i64 t1, .int .i64 o1, .slice (some ⟨gc, 0, none⟩) cards.length cC] 27 (0, 0)) by rw [HR.out.1]; exact blk_box5 BX5.out)
   have hcx : Ch (fun k => k = gx) w4 (memBox w4 gx (.slice (some ⟨gw, 0, none⟩) ws.length cW) (.int .i64 y) (.int .i64 t1) (.int .i64 o1) (.slice (some ⟨gc, 0, none⟩) cards.length cC)) := (Ch.refl (fun k => k = gx) w4).box5 (.inl rfl) _ _ _ _ _
   have HI9 := Aside0.mk (HI4.out.ch hcx (by have := HGx.out; have := HG.out; omega) (fun k hk => by have := HGx.out; have := HG.out; omega))
   have HCh9 := Aside0.mk (HCh4.out.trans hcx (fun k hk => .inr (by have := HGx.out; have := HBW.out; omega)))
   obtain ⟨w9, hw9⟩ : ∃ z, z = memBox w4 gx (.slice (some ⟨gw, 0, none⟩) ws.length cW) (.int .i64 y) (.int .i64 t1) (.int .i64 o1) (.slice (some ⟨gc, 0, none⟩) cards.length cC) := ⟨_, rfl⟩
   rw [← hw9] at HF9 BX9 HI9 HCh9
   unfold memBox at hw9
   rw [← hw9]
   clear hcx hw9 HF4 HI4 HCh4 BX5 z0 z1 z2 z3 z4 y0_ y1_ y2_ y3_ y4_
   rcases HR.out.2 with ⟨ra, rw_, rt_, ro_⟩ | ⟨ra1, ra2, rB⟩
   ·subst ra rw_ rt_ ro_
    go_wp2
    go_roundw
    case rel => exact ⟨x - 1, _, _, _, cards, pl, rt, by first | rfl | rw [q0], HF9, ⟨HB.out.1, HB.out.2.1, HB.out.2.2⟩, ⟨by have := HX2.out; (try simp); omega⟩, ⟨HI9.out.le (by have := HX2.out; omega)⟩, HCh9⟩
    case measure => have := HX2.out; simp only [intOf]; omega
   ·have da : (a1 == 0) = false := beq_eq_false_iff_ne.mpr (by omega)
    have da' : decide (a1 = 0) = false := decide_eq_false (by omega)
    have HA := Aside0.mk (show 1 ≤ a1 ∧ a1 ≤ ws.length from ⟨ra1, ra2⟩)
    have HB1 := Aside0.mk rB
    have HW1 := Aside0.mk HR.out.1
    clear ra1 ra2 rB HR
    have c0 := (blk_cell BX9.out 0).trans rfl; have c1 := (blk_cell BX9.out 1).trans rfl; have c2 := (blk_cell BX9.out 2).trans rfl; have c3 := (blk_cell BX9.out 3).trans rfl; have c4 := (blk_cell BX9.out 4).trans rfl
    obtain ⟨AP, cP, eP⟩ := Kd.R_slice HF9.out.hp
    subst eP
    go_wp2_with (go_at_call 97; refine Classical.byContradiction (fun hng => ?_))
    refine hng ?_
    clear hng
    refine (inside_any b0 gw cW gc cC ws1 y t1 o1 cards _ g A cA cs a1 AP cP pl w0 _ HF9.out.om HI9.out z30 HOk.out (fun W' hk => HC.out W' (Kept.keepG HCh9.out.keep hk (fun k hs => by have := HF9.out.om.bw; have := HF9.out.om.bc; have := HBW.out; omega))) HCA.out (HF9.out.plC HG.out.1) (Kd.R_reads' HF9.out.hp).2.1 (by have := HX2.out; omega) (by have := HA.out; omega) (by have := HA.out; have := HW1.out; omega) (by have := HB.out.2.2; have := HB1.out.n1; have := HB1.out.y1; omega) ⟨HB1.out.y0, HB1.out.y1⟩ HB1.out.cd (by have := HF9.out.om.bw; have := HF9.out.om.bc; have := HG.out; omega) (by have := HF9.out.om.bw; have := HF9.out.om.bc; have := HG.out; omega)).mono ?_
    rintro e wA ⟨ws2, cards2, rfl, hl, hO, hi, hc⟩
    have HLw := Aside0.mk hl
    have HOA := Aside0.mk hO
    have HIA := Aside0.mk hi
    have HcA := Aside0.mk hc
    have BMA := Aside0.mk (hc.blk HF9.out.bx (by have := HF9.out.om.nbox HF9.out.bx; have := HF9.out.gm0; have := HG.out; omega))
    clear hl hO hi hc
    clear c0 c1 c2 c3 c4
    have c0 := (blk_cell BMA.out 0).trans rfl; have c1 := (blk_cell BMA.out 1).trans rfl; have c2 := (blk_cell BMA.out 2).trans rfl; have c3 := (blk_cell BMA.out 3).trans rfl; have c4 := (blk_cell BMA.out 4).trans rfl
    have f0 := blk_frozen BMA.out 0; have f1 := blk_frozen BMA.out 1; have f2 := blk_frozen BMA.out 2; have f3 := blk_frozen BMA.out 3; have f4 := blk_frozen BMA.out 4
    go_wp2_with ((with_reducible refine gate_store (t := 27) (p := 6) rfl ?_); refine Classical.byContradiction (fun hng => ?_))
    refine hng ?_
    clear hng
    refine store_event (t := 27) (p := 6) (v := ?vm2) (w1 := (memBox wA gm (.slice (some ⟨gw, 0, none⟩) ws1.length cW) (.int .i64 y) (.int .i64 t1) (.int .i64 o1) (.slice (some ⟨gc, 0, none⟩) cards.length cC))) ?hg ?ho ?hn ?hr ?_
    (case ho => rfl)
    (case hg => rfl)
    (case hn => rfl)
    (case hr => first | (go_simp; done) | (go_simp; rfl))
    intro wB hw
    have HFB := Aside0.mk (show Fl b0 gz gm gw cW gc cC wB u7 (.slice AP pl.length cP) ws2 y t1 o1 cards2 pl rt by rw [hw]; exact HF9.out.stored HcA.out HOA.out HLw.out HG.out.1 t1 o1)
    have HIB := Aside0.mk (show Rdr _ w0 wB g by rw [hw]; exact HIA.out.ch (Ch.box5 (Ch.refl (fun k => k = gm) _) (.inl rfl) _ _ _ _ _) (by have := HF9.out.gm0; have := HG.out; omega) (fun k hk => by have := HF9.out.gm0; have := HG.out; omega))
    have HChB := Aside0.mk (show Ch (fun k => k = g) w wB by rw [hw]; exact (HCh9.out.trans HcA.out (fun k hk => by have := HF9.out.om.bw; have := HF9.out.om.bc; have := HBW.out; omega)).box5 (.inr (by have := HF9.out.gm0; have := HBW.out; omega)) _ _ _ _ _)
    clear hw HF9 HIA HcA HOA HCh9 BMA HI9 BX9
    clear c0 c1 c2 c3 c4
    clear f0 f1 f2 f3 f4
    go_wp2_with ((with_reducible refine gate_builtin (b := .append) (xs := #[.tmp 55, .tmp 57]) rfl ?_); refine Classical.byContradiction (fun hng => ?_))
    refine hng ?_
    clear hng
    at_builtin
    refine Kd.R_append (Kd.int .i64) (w0 := wB) b0 rfl (.tmp 55) (.tmp 57) 24 3 (.int .i64 0) 8 rfl Try.underlying24 info3 rfl (by decide) (by omega) (.slice AP pl.length cP) pl a1 [.int .i64 a1] (fun k => (b0 ≤ k ∧ k ≠ gw) ∧ some k ≠ u7.ownBlock) (fun _ => False) rfl (by first | rfl | (go_simp; done) | (go_simp; rfl)) ?aP (fun _ hk => hk.elim) ?aF ?aO ?aB ?aS ?aL ?_
    (case aP => exact rfl)
    (case aB => exact Below.refl _ _)
    (case aF => exact HFB.out.freshP)
    (case aO => exact HFB.out.hp)
    (case aS => have := HFB.out.om.bw; omega)
    (case aL => have := HX2.out; omega)
    intro v8n wC ho hbn hgr hat
    have HFC := Aside0.mk (HFB.out.appP hgr hat ho)
    have hrow : ∀ k, ((.slice AP pl.length cP) : Value).ownBlock = some k → b0 ≤ k := fun k hk => (HFB.out.hp.1 k hk).1.1
    have HIC := Aside0.mk (HIB.out.grown hgr (fun e => by have := hrow g e.symm; have := HG.out; omega) (fun k e => by have := hrow k e; have := HG.out; omega))
    have HChC := Aside0.mk (HChB.out.grown hgr (fun k e => .inr (by have := hrow k e; have := HBW.out; omega)))
    clear ho hbn hgr hat hrow HFB HIB HChB
    go_wp2_with (go_at_call 39; refine Classical.byContradiction (fun hng => ?_))
    refine hng ?_
    clear hng
    refine (pick_any _ g 3 w0 _ HIC.out z30 z25 z25).mono ?_
    rintro e wD ⟨r, rfl, hr, hi, hk⟩
    have hst := HIC.out.step hi hk
    have HID := Aside0.mk hi
    have HChD := Aside0.mk (HChC.out.then_ hst)
    have HFD := Aside0.mk (HFC.out.ch hst (fun k hk => by have := HG.out; omega))
    clear hst hi hk HIC HChC HFC
    have HB2 := Aside0.mk (HB1.out.len (show ws2.length = ws1.length from HLw.out.1) HLw.out.2)
    have HPl := Aside0.mk (show (∀ z ∈ pl ++ [a1], 0 ≤ z ∧ z ≤ y + n) ∧ (ws2.length : Int) = y + n from ⟨fun z hz => by rcases List.mem_append.mp hz with h | h; exact HB.out.2.1 z h; have := HA.out; have := HB.out.2.2; simp at h; omega, by have h1 := HB.out.2.2; have h2 := HW1.out; have h3 := HLw.out.1; omega⟩)
    by_cases cr : r = 0
    ·subst cr
     clear hr
     go_wp2_with ((with_reducible refine gate_builtin (b := .append) (xs := #[.tmp 62, .tmp 64]) rfl ?_); refine Classical.byContradiction (fun hng => ?_))
     refine hng ?_
     clear hng
     at_builtin
     refine Kd.R_append (Kd.int .i64) (w0 := wD) b0 rfl (.tmp 62) (.tmp 64) 24 3 (.int .i64 0) 8 rfl Try.underlying24 info3 rfl (by decide) (by omega) u7 rt a1 [.int .i64 a1] (fun k => (b0 ≤ k ∧ k ≠ gw) ∧ some k ≠ v8n.ownBlock) (fun _ => False) rfl (by first | rfl | (go_simp; done) | (go_simp; rfl)) ?aP (fun _ hk => hk.elim) ?aF ?aO ?aB ?aS ?aL ?_
     (case aP => exact rfl)
     (case aB => exact Below.refl _ _)
     (case aF => exact HFD.out.freshR)
     (case aO => exact HFD.out.hr)
     (case aS => have := HFD.out.om.bw; omega)
     (case aL => have := HX2.out; omega)
     intro v7n wE ho hbn hgr hat
     have HFE := Aside0.mk (HFD.out.appR hgr hat ho)
     have hrow : ∀ k, (u7 : Value).ownBlock = some k → b0 ≤ k := fun k hk => (HFD.out.hr.1 k hk).1.1
     have HIE := Aside0.mk (HID.out.grown hgr (fun e => by have := hrow g e.symm; have := HG.out; omega) (fun k e => by have := hrow k e; have := HG.out; omega))
     have HChE := Aside0.mk (HChD.out.grown hgr (fun k e => .inr (by have := hrow k e; have := HBW.out; omega)))
     clear ho hbn hgr hat hrow HFD HID HChD
     go_wp2
     go_roundw
     case rel => exact ⟨x - 1, ws2, t1, o1, cards2, pl ++ [a1], rt ++ [a1], by first | rfl | rw [q0], HFE, ⟨HB2.out, HPl.out.1, HPl.out.2⟩, ⟨by have := HX2.out; (try simp); omega⟩, ⟨HIE.out.le (by have := HX2.out; omega)⟩, HChE⟩
     case measure => have := HX2.out; simp only [intOf]; omega
    ·have dr : (r == 0) = false := beq_eq_false_iff_ne.mpr cr
     have dr' : decide (r = 0) = false := decide_eq_false cr
     clear cr hr
     go_wp2
     go_roundw
     case rel => exact ⟨x - 1, ws2, t1, o1, cards2, pl ++ [a1], rt, by first | rfl | rw [q0], HFD, ⟨HB2.out, HPl.out.1, HPl.out.2⟩, ⟨by have := HX2.out; (try simp); omega⟩, ⟨HID.out.le (by have := HX2.out; omega)⟩, HChD⟩
     case measure => have := HX2.out; simp only [intOf]; omega
  ·have d0 : decide (0 < x) = false := decide_eq_false cx
   have HX3 := Aside0.mk (show 1 ≤ pl.length ∧ pl.length ≤ 25 ∧ rt.length ≤ 25 ∧ 0 ≤ x by have := HX.out; omega)
   clear cx HX
   obtain ⟨gP, cP, eP, _, _, _⟩ := Kd.R_form HF.out.hp HX3.out.1
   subst eP
   have HPl := Aside0.mk HB.out.2.1
   have HBn := Aside0.mk (show Bnd cs ws y t o cards ∧ (ws.length : Int) = y + n from ⟨HB.out.1, HB.out.2.2⟩)
   clear HB
   go_wp2_with fail
   go_at_call 39
   refine (pick_any _ g 8 w0 _ HI.out (by have := HM.out; have := HX3.out; omega) z25 z25).mono ?_
   rintro e w1 ⟨x2, rfl, hx2, hi, hk⟩
   have hst := HI.out.step hi hk
   have HI1 := Aside0.mk hi
   have HCh1 := Aside0.mk (HCh.out.then_ hst)
   have HF1 := Aside0.mk (HF.out.ch hst (fun k hk => by have := HG.out; omega))
   have HX20 := Aside0.mk hx2
   clear hx2
   clear hst hi hk HI HCh HF
   go_wp2
   go_loopw [13] (fun v13 wr => ∃ (x : Int) (ws : List Int) (t o : Int) (cards : List Bool), v13 = .int .i64 x ∧ Aside0 (Fl b0 gz gm gw cW gc cC wr u7 (.slice (some ⟨gP, 0, none⟩) pl.length cP) ws y t o cards pl rt) ∧ Aside0 (Bnd cs ws y t o cards ∧ (ws.length : Int) = y + n) ∧ Aside0 (0 ≤ x ∧ x ≤ 8) ∧ Aside0 (Rdr (M + 2300 + 100 * (8 - x)) w0 wr g) ∧ Aside0 (Ch (fun k => k = g) w wr)) (fun v13 _ => (intOf v13).toNat)
   case atStart => exact ⟨x2, ws, t, o, cards, rfl, HF1, HBn, ⟨by have := HX20.out; omega⟩, ⟨HI1.out.le (by have := HX20.out; have := HX3.out; omega)⟩, HCh1⟩
   case round =>
    clear HF1 HI1 HCh1 HX20 HBn
    obtain ⟨x, ws, t, o, cards, rfl, HF, HBn, HX, HI, HCh⟩ := hrel
    by_cases cx : 0 < x
    ·have d0 : decide (0 < x) = true := decide_eq_true cx
     have HX2 := Aside0.mk (show 0 < x ∧ x ≤ 8 ∧ 1 ≤ pl.length ∧ pl.length ≤ 25 by have := HX.out; have := HX3.out; omega)
     have q0 : IntKind.i64.wrap (x - 1) = x - 1 := IntWalk.i64_in _ (by have := HX.out; omega)
     clear cx HX
     go_wp2
     replace HI := Aside0.mk HI.out.drew
     replace HCh := Aside0.mk HCh.out.drew
     replace HF := Aside0.mk (HF.out.ch (Ch.drew (Ch.refl (fun _ => False) _)) (fun _ h => h.elim))
     refine start_ (n := 13) (S := fun w' => w'.cell? ⟨gm, 0, none⟩ = some (.slice (some ⟨gw, 0, none⟩) ws.length cW) ∧ w'.cell? ⟨gm, 1, none⟩ = some (.int .i64 y) ∧ w'.cell? ⟨gm, 2, none⟩ = some (.int .i64 t) ∧ w'.cell? ⟨gm, 3, none⟩ = some (.int .i64 o) ∧ w'.cell? ⟨gm, 4, none⟩ = some (.slice (some ⟨gc, 0, none⟩) cards.length cC)) (ds := [12]) #[false, false, false, false, false, false, false, false, false, false, false, false, false] (by kernel_rfl) rfl rfl ⟨((blk_cell HF.out.bx 0).trans rfl), ((blk_cell HF.out.bx 1).trans rfl), ((blk_cell HF.out.bx 2).trans rfl), ((blk_cell HF.out.bx 3).trans rfl), ((blk_cell HF.out.bx 4).trans rfl)⟩ (fun hHeld => ?_)
     generalize wr.drew = w1a at HF HI HCh hHeld ⊢
     refine pS 0 72 (lA 13 1) ?_
     refine pS 1 73 (lA 13 3) ?_
     refine pS 3 75 (lA 13 11) ?_
     refine pS 4 76 (lA 13 27) ?_
     refine pS 5 77 (lA 13 59) ?_
     refine pS 6 78 (lA 13 123) ?_
     refine pS 10 82 (lA 13 1147) ?_
     refine tS 2 74 (lA 13 1151) rfl rfl (by kernel_rfl) hHeld z8 ?_
     refine one_ (i := 7) (N := some 79) (lA 13 1279) rfl rfl (by kernel_rfl) (by decide) (fun K hK => ?_)
     refine goes_ Try.func39 (by kernel_rfl) rfl #[.pointer (some ⟨g, 0, none⟩), .int .i64 (pl.length : Int)] (by rfl) rfl rfl z5 ?_
     with_reducible refine (pick_any _ g pl.length w0 _ HI.out z30 (by have := HX2.out; omega) (by have := HX2.out; omega)).mono ?_
     rintro e w2 ⟨vp, rfl, hvp, hi, hk⟩
     refine ⟨_, rfl, ?_⟩
     have hst := HI.out.step hi hk
     have HI2 := Aside0.mk hi
     have HCh2 := Aside0.mk (HCh.out.then_ hst)
     have HF2 := Aside0.mk (HF.out.ch hst (fun k hk => by have := HG.out; omega))
     have p5 := eq_true hvp.1
     have p6 := eq_true hvp.2
     have hcell := (Kd.R_cell (enc := Value.int .i64) (h1 := fun _ => rfl) 0 HF2.out.hp vp hvp.1 hvp.2).1
     obtain ⟨el, hel⟩ : ∃ z, z = rdOf 0 pl vp := ⟨_, rfl⟩
     rw [← hel] at hcell
     have HE := Aside0.mk (show 0 ≤ el ∧ el ≤ y + n from HPl.out el (by rw [hel]; unfold rdOf; rw [List.getD_eq_getElem?_getD, List.getElem?_eq_getElem (by omega)]; exact List.getElem_mem _))
     clear hst hi hk hel hvp HI HCh HF
     refine hK.out _ _ ⟨((blk_cell HF2.out.bx 0).trans rfl), ((blk_cell HF2.out.bx 1).trans rfl), ((blk_cell HF2.out.bx 2).trans rfl), ((blk_cell HF2.out.bx 3).trans rfl), ((blk_cell HF2.out.bx 4).trans rfl)⟩ (fun hHeld => ?_)
     clear hK K
     refine norm_ (a' := ?_) ?_ ?_
     rotate_left
     ·show Act.put _ (some 79) _ = _
      simp only [Act.put, lA1, lA2, lA3, i64_w, i32_w]
      rfl
     refine pS 8 80 (lA 13 1535) ?_
     refine one_ (i := 9) (N := some 81) (lA 13 2047) rfl rfl (by kernel_rfl) (by decide) (fun K hK => ?_)
     refine value_ (w1 := ?_) (v := ?_) (by rfl) rfl ?_ ?_
     rotate_left 2
     ·go_simp
      constructor
      ·rfl
      ·rfl
     refine hK.out _ _ ⟨hHeld.1, hHeld.2.1, hHeld.2.2.1, hHeld.2.2.2.1, hHeld.2.2.2.2⟩ (fun hHeld => ?_)
     clear hK K
     refine norm_ (a' := ?_) ?_ ?_
     rotate_left
     ·show Act.put _ (some 81) _ = _
      simp only [Act.put, lA1, lA2, lA3, i64_w, i32_w]
      rfl
     refine one_ (i := 11) (N := some 83) (lA 13 4095) rfl rfl (by kernel_rfl) (by decide) (fun K hK => ?_)
     refine goes_ Try.func97 (by kernel_rfl) rfl #[.pointer (some ⟨g, 0, none⟩), .slice A cs.length cA, .agg #[.slice (some ⟨gw, 0, none⟩) ws.length cW, .int .i64 y, .int .i64 t, .int .i64 o, .slice (some ⟨gc, 0, none⟩) cards.length cC], .int .i64 el, .slice (some ⟨gP, 0, none⟩) pl.length cP] (by rfl) rfl rfl z5 ?_
     with_reducible refine (inside_any b0 gw cW gc cC ws y t o cards _ g A cA cs el (some ⟨gP, 0, none⟩) cP pl w0 _ HF2.out.om HI2.out z30 HOk.out (fun W' hk => HC.out W' (Kept.keepG HCh2.out.keep hk (fun k hs => by have := HF2.out.om.bw; have := HF2.out.om.bc; have := HBW.out; omega))) HCA.out (HF2.out.plC HG.out.1) (Kd.R_reads' HF2.out.hp).2.1 (by have := HX2.out; omega) HE.out.1 (by have := HE.out; have := HBn.out.2; omega) (by have := HBn.out.1.n1; have := HBn.out.1.y1; omega) ⟨HBn.out.1.y0, HBn.out.1.y1⟩ HBn.out.1.cd (by have := HF2.out.om.bw; have := HF2.out.om.bc; have := HG.out; omega) (by have := HF2.out.om.bw; have := HF2.out.om.bc; have := HG.out; omega)).mono ?_
     rintro e w3 ⟨ws2, cards2, rfl, hl, hO, hi, hc⟩
     refine ⟨_, rfl, ?_⟩
     have HLw := Aside0.mk hl
     have HOA := Aside0.mk hO
     have HIA := Aside0.mk hi
     have HcA := Aside0.mk hc
     have BMA := Aside0.mk (hc.blk HF2.out.bx (by have := HF2.out.om.nbox HF2.out.bx; have := HF2.out.gm0; have := HG.out; omega))
     clear hl hO hi hc hcell p5 p6
     have c0 := (blk_cell BMA.out 0).trans rfl
     have c1 := (blk_cell BMA.out 1).trans rfl
     have c2 := (blk_cell BMA.out 2).trans rfl
     have c3 := (blk_cell BMA.out 3).trans rfl
     have c4 := (blk_cell BMA.out 4).trans rfl
     have f0 := blk_frozen BMA.out 0
     have f1 := blk_frozen BMA.out 1
     have f2 := blk_frozen BMA.out 2
     have f3 := blk_frozen BMA.out 3
     have f4 := blk_frozen BMA.out 4
     refine hK.out _ _ ⟨c0, c1, c2, c3, c4⟩ (fun hHeld => ?_)
     clear hK K
     refine norm_ (a' := ?_) ?_ ?_
     rotate_left
     ·show Act.put _ (some 83) _ = _
      simp only [Act.put, lA1, lA2, lA3, i64_w, i32_w]
      rfl
     refine last_ (i := 12) (N := none) (lA 13 8191) rfl rfl (by kernel_rfl) (by decide) (fun K hK => ?_)
     refine skip_ (w1 := ?_) (by rfl) rfl ?_ ?_
     rotate_left
     ·go_simp
      rfl
     refine hK.out _ _ ?_
     clear hK K
     refine done_ (by kernel_rfl) ?_
     have HF9 := Aside0.mk (show Fl b0 gz gm gw cW gc cC (memBox w3 gm (.slice (some ⟨gw, 0, none⟩) ws.length cW) (.int .i64 y) (.int .i64 t) (.int .i64 o) (.slice (some ⟨gc, 0, none⟩) cards.length cC)) u7 (.slice (some ⟨gP, 0, none⟩) pl.length cP) ws2 y t o cards2 pl rt from HF2.out.stored HcA.out HOA.out HLw.out HG.out.1 t o)
     have HI9 := Aside0.mk (HIA.out.ch (w1 := memBox w3 gm (.slice (some ⟨gw, 0, none⟩) ws.length cW) (.int .i64 y) (.int .i64 t) (.int .i64 o) (.slice (some ⟨gc, 0, none⟩) cards.length cC)) (Ch.box5 (Ch.refl (fun k => k = gm) _) (.inl rfl) _ _ _ _ _) (by have := HF2.out.gm0; have := HG.out; omega) (fun k hk => by have := HF2.out.gm0; have := HG.out; omega))
     have HCh9 := Aside0.mk (show Ch (fun k => k = g) w (memBox w3 gm (.slice (some ⟨gw, 0, none⟩) ws.length cW) (.int .i64 y) (.int .i64 t) (.int .i64 o) (.slice (some ⟨gc, 0, none⟩) cards.length cC)) from (HCh2.out.trans HcA.out (fun k hk => by have := HF2.out.om.bw; have := HF2.out.om.bc; have := HBW.out; omega)).box5 (.inr (by have := HF2.out.gm0; have := HBW.out; omega)) _ _ _ _ _)
     obtain ⟨w9, hw9⟩ : ∃ z, z = memBox w3 gm (.slice (some ⟨gw, 0, none⟩) ws.length cW) (.int .i64 y) (.int .i64 t) (.int .i64 o) (.slice (some ⟨gc, 0, none⟩) cards.length cC) := ⟨_, rfl⟩
     rw [← hw9] at HF9 HI9 HCh9
     unfold memBox at hw9
     rw [← hw9]
     clear hw9 HF2 HI2 HCh2 HOA HIA HcA BMA c0 c1 c2 c3 c4 f0 f1 f2 f3 f4
     go_wp2
     go_roundw
     case rel => exact ⟨x - 1, ws2, t, o, cards2, by first | rfl | rw [q0], HF9, ⟨HBn.out.1.len HLw.out.1 HLw.out.2, by have := HLw.out.1; have := HBn.out.2; omega⟩, ⟨by have := HX2.out; omega⟩, ⟨HI9.out.le (by have := HX2.out; omega)⟩, HCh9⟩
     case measure => have := HX2.out; simp only [intOf]; omega
    ·have d0 : decide (0 < x) = false := decide_eq_false cx
     have HXx := Aside0.mk HX.out
     clear cx HX
     go_wp2_with fail
     go_at_call 39
     refine (pick_any _ g 3 w0 _ HI.out (by have := HM.out; have := HXx.out; omega) z25 z25).mono ?_
     rintro e w1 ⟨x3, rfl, hx3, hi, hk⟩
     have hst := HI.out.step hi hk
     have HI1 := Aside0.mk hi
     have HCh1 := Aside0.mk (HCh.out.then_ hst)
     have HF1 := Aside0.mk (HF.out.ch hst (fun k hk => by have := HG.out; omega))
     have HX30 := Aside0.mk hx3
     clear hx3
     clear hst hi hk HI HCh HF
     go_wp2
     go_loopw [7, 14] (fun v7 v14 wr => ∃ (x : Int) (rt : List Int), v14 = .int .i64 x ∧ Aside0 (Fl b0 gz gm gw cW gc cC wr v7 (.slice (some ⟨gP, 0, none⟩) pl.length cP) ws y t o cards pl rt) ∧ Aside0 (0 ≤ x ∧ x ≤ 3 ∧ rt.length + x ≤ 30) ∧ Aside0 (Rdr (M + 3300 + 2 * (3 - x)) w0 wr g) ∧ Aside0 (Ch (fun k => k = g) w wr)) (fun _ v14 _ => (intOf v14).toNat)
     case atStart => exact ⟨x3, rt, rfl, HF1, ⟨by have := HX30.out; have := HX3.out; omega⟩, ⟨HI1.out.le (by have := HX30.out; have := HXx.out; omega)⟩, HCh1⟩
     case round =>
      clear HF1 HI1 HCh1 HX30
      obtain ⟨x, rt, rfl, HF, HX, HI, HCh⟩ := hrel
      by_cases cx : 0 < x
      ·have d0 : decide (0 < x) = true := decide_eq_true cx
       have HX2 := Aside0.mk (show 0 < x ∧ x ≤ 3 ∧ 1 ≤ pl.length ∧ pl.length ≤ 25 ∧ rt.length + x ≤ 30 by have := HX.out; have := HX3.out; omega)
       have q0 : IntKind.i64.wrap (x - 1) = x - 1 := IntWalk.i64_in _ (by have := HX.out; omega)
       clear cx HX
       go_wp2_with fail
       go_at_call 39
       refine (pick_any _ g pl.length w0 _ HI.out z30 (by have := HX2.out; omega) (by have := HX2.out; omega)).mono ?_
       rintro e wD ⟨vp, rfl, hvp, hi, hk⟩
       have hst := HI.out.step hi hk
       have HID := Aside0.mk hi
       have HChD := Aside0.mk (HCh.out.then_ hst)
       have HFD := Aside0.mk (HF.out.ch hst (fun k hk => by have := HG.out; omega))
       have p5 := eq_true hvp.1
       have p6 := eq_true hvp.2
       clear hst hi hk HI HCh HF
       have hcell := (Kd.R_cell (enc := Value.int .i64) (h1 := fun _ => rfl) 0 HFD.out.hp vp hvp.1 hvp.2).1
       obtain ⟨el, hel⟩ : ∃ z, z = rdOf 0 pl vp := ⟨_, rfl⟩
       rw [← hel] at hcell
       clear hel hvp
       go_wp2_with ((with_reducible refine gate_builtin (b := .append) (xs := #[.tmp 90, .tmp 98]) rfl ?_); refine Classical.byContradiction (fun hng => ?_))
       refine hng ?_
       clear hng
       at_builtin
       refine Kd.R_append (Kd.int .i64) (w0 := wD) b0 rfl (.tmp 90) (.tmp 98) 24 3 (.int .i64 0) 8 rfl Try.underlying24 info3 rfl (by decide) (by omega) u7 rt el [.int .i64 el] (fun k => (b0 ≤ k ∧ k ≠ gw) ∧ some k ≠ (Value.slice (some ⟨gP, 0, none⟩) pl.length cP).ownBlock) (fun _ => False) rfl (by first | rfl | (go_simp; done) | (go_simp; rfl)) ?aP (fun _ hk => hk.elim) ?aF ?aO ?aB ?aS ?aL ?_
       (case aP => exact rfl)
       (case aB => exact Below.refl _ _)
       (case aF => exact HFD.out.freshR)
       (case aO => exact HFD.out.hr)
       (case aS => have := HFD.out.om.bw; omega)
       (case aL => have := HX2.out; omega)
       intro v7n wE ho hbn hgr hat
       have HFE := Aside0.mk (HFD.out.appR hgr hat ho)
       have hrow : ∀ k, (u7 : Value).ownBlock = some k → b0 ≤ k := fun k hk => (HFD.out.hr.1 k hk).1.1
       have HIE := Aside0.mk (HID.out.grown hgr (fun e => by have := hrow g e.symm; have := HG.out; omega) (fun k e => by have := hrow k e; have := HG.out; omega))
       have HChE := Aside0.mk (HChD.out.grown hgr (fun k e => .inr (by have := hrow k e; have := HBW.out; omega)))
       clear ho hbn hgr hat hrow HFD HID HChD
       clear hcell p5 p6
       go_wp2
       go_roundw
       case rel => exact ⟨x - 1, rt ++ [el], by first | rfl | rw [q0], HFE, ⟨by have := HX2.out; simp; omega⟩, ⟨HIE.out.le (by have := HX2.out; omega)⟩, HChE⟩
       case measure => have := HX2.out; simp only [intOf]; omega
      ·have d0 : decide (0 < x) = false := decide_eq_false cx
       have HX4 := Aside0.mk (show rt.length ≤ 60 ∧ 0 ≤ x by have := HX.out; omega)
       clear cx HX
       have c0 := (blk_cell HF.out.bx 0).trans rfl; have c1 := (blk_cell HF.out.bx 1).trans rfl; have c2 := (blk_cell HF.out.bx 2).trans rfl; have c3 := (blk_cell HF.out.bx 3).trans rfl; have c4 := (blk_cell HF.out.bx 4).trans rfl
       have z0 := (blk_cell HF.out.bz 0).trans rfl; have z1 := (blk_cell HF.out.bz 1).trans rfl; have z2 := (blk_cell HF.out.bz 2).trans rfl; have z3 := (blk_cell HF.out.bz 3).trans rfl; have z4 := (blk_cell HF.out.bz 4).trans rfl
       have y_0 := blk_frozen HF.out.bz 0; have y_1 := blk_frozen HF.out.bz 1; have y_2 := blk_frozen HF.out.bz 2; have y_3 := blk_frozen HF.out.bz 3; have y_4 := blk_frozen HF.out.bz 4
       obtain ⟨A7, c7, e7⟩ := Kd.R_slice HF.out.hr
       subst e7
       go_wp2
       refine bodyPost_ret (results_ct rfl _ _ gz 27 #[.slice (some ⟨gw, 0, none⟩) ws.length cW, .int .i64 y, .int .i64 t, .int .i64 o, .slice (some ⟨gc, 0, none⟩) cards.length cC] (0, 0) _ rfl (blk_box5 HF.out.bz) Try.underlying27 rfl (by kernel_rfl)) rfl ?_
       exact ⟨gw, cW, gc, cC, ws, y, t, o, cards, _, rt, rfl, HBn.out.1, HX4.out.1, by rw [← HBW.out]; exact HF.out.om.ch (Ch.box5 (Ch.refl (fun k => k = gz) _) (.inl rfl) _ _ _ _ _) (HF.out.om.nbox HF.out.bz).1 (HF.out.om.nbox HF.out.bz).2, by rw [← HBW.out]; exact Kd.R_mono (R_box5t HF.out.hr HF.out.bz (by decide)) (fun k hk => hk.1.2), (HI.out.ch (Ch.box5 (Ch.refl (fun k => k = gz) _) (.inl rfl) _ _ _ _ _) (by have := HF.out.gm0; have := HG.out; omega) (fun k hk => by have := HF.out.gm0; have := HG.out; omega)).le (by have := HX4.out; omega), HCh.out.box5 (.inr (by have := HF.out.gm0; have := HBW.out; omega)) _ _ _ _ _⟩
end Go.Proofs.Ytfbkpjjnhengfaa.K
namespace Go.Proofs.Ytfbkpjjnhengfaa.K
open Go.RowKit Go.Proofs.YtfbkpjjnhengfaaW.PrintWords Go.Proofs.YtfbkpjjnhengfaaW.PrintLast Go.Proofs.YtfbkpjjnhengfaaW.PrintMore
attribute [local go_sem] max2_int min2_int max_two min_two max_three min_three max_four min_four
set_option linter.unusedVariables false
set_option linter.unusedSimpArgs false
open Go.Proofs.Ytfbkpjjnhengfaa.Pure
def OffP (M : Int) (w0 w : World) (g : Nat) (e : Ending) (w' : World) : Prop := ∃ (A : Option Addr) (c : Nat) (cs : Cs), e = .returned (.slice A cs.length c) ∧ (1 ≤ cs.length ∧ cs.length ≤ 9 ∧ cs.length ≤ c) ∧ (∀ x ∈ cs, x.f1.length ≤ 3) ∧ Kd.V k99 99 w' w.heap.size (fun k_ => w.heap.size ≤ k_) (.slice A cs.length c) cs ∧ Rdr (M + 60) w0 w' g ∧ KeepBut w w' g none
theorem off_ret {M L : Int} {w0 w w' : World} {g b0 : Nat} (hb0 : b0 = w.heap.size) {v : Value} {cs : Cs} (hS : Kd.S k99 99 w' b0 (fun k_ => b0 ≤ k_) v cs) (hg : g < b0) (h1 : 1 ≤ cs.length ∧ cs.length ≤ 9) (hf : ∀ x ∈ cs, x.f1.length ≤ 3) (hi : Rdr L w0 w' g) (hL : L ≤ M + 60) (hk : KeepBut w w' g none) : OffP M w0 w g (.returned v) w' := by
 subst hb0
 obtain ⟨A, c, rfl, hc, _⟩ := Kd.S_reads hS
 exact ⟨A, c, cs, rfl, ⟨h1.1, h1.2, hc⟩, hf, Kd.S_V hS, hi.le hL, hk⟩
theorem off_retV {M L : Int} {w0 w w' : World} {g b0 : Nat} (hb0 : b0 = w.heap.size) {v : Value} {cs : Cs} (hS : Kd.V k99 99 w' b0 (fun k_ => b0 ≤ k_) v cs) (hg : g < b0) (h1 : 1 ≤ cs.length ∧ cs.length ≤ 9) (hf : ∀ x ∈ cs, x.f1.length ≤ 3) (hi : Rdr L w0 w' g) (hL : L ≤ M + 60) (hk : KeepBut w w' g none) : OffP M w0 w g (.returned v) w' := by
 subst hb0
 obtain ⟨A, c, rfl, hc, _⟩ := id hS
 exact ⟨A, c, cs, rfl, ⟨h1.1, h1.2, hc⟩, hf, hS, hi.le hL, hk⟩
theorem cls_put {W : World} {b0 gs cap : Nat} {cs : Cs} {ok : Nat → Prop} (hS : Kd.S k99 99 W b0 ok (.slice (some ⟨gs, 0, none⟩) cs.length cap) cs) {j : Nat} (hj : j < cs.length) : ∃ (x : S99) (u : Value) (oki : Nat → Prop), cs[j]? = some x ∧ W.cell? ⟨gs, j * 2, none⟩ = some (.int .i64 x.f0) ∧ W.cell? ⟨gs, j * 2 + 1, none⟩ = some u ∧ W.frozen? ⟨gs, j * 2, none⟩ = false ∧ W.frozen? ⟨gs, j * 2 + 1, none⟩ = false ∧ Kd.R (Kd.int .i64) 3 W b0 oki u x.f1 ∧ (∀ k, oki k → ok k ∧ k ≠ gs) ∧
  Kd.H k99 99 W b0 ok (.slice (some ⟨gs, 0, none⟩) cs.length cap) cs (j : Int) oki [.int .i64 x.f0, u] ∧ (∀ y : Int, Kd.S k99 99 (W.setCell ⟨gs, j * 2, none⟩ (.int .i64 y)) b0 ok (.slice (some ⟨gs, 0, none⟩) cs.length cap) (cs.set j ⟨y, x.f1⟩)) ∧ Kd.S k99 99 (W.setCell ⟨gs, j * 2 + 1, none⟩ (.slice none 0 0)) b0 ok (.slice (some ⟨gs, 0, none⟩) cs.length cap) (cs.set j ⟨x.f0, []⟩) := by
 obtain ⟨oki, cc, hcl, hM, hcc, hoki, hH⟩ := Kd.S_lend hS z99 (j : Int) (by omega) (by omega)
 obtain ⟨x, hx⟩ : ∃ x, x = cs.getD ((j : Int)).toNat z99 := ⟨_, rfl⟩
 rw [← hx] at hM
 obtain ⟨u, hc1, hr1⟩ := k99_openM hM
 subst hc1
 obtain ⟨hc0, hfr⟩ := Kd.H_at hH (by omega) (by omega)
 refine ⟨x, u, oki, ?_, hc0 0 _ rfl, hc0 1 _ rfl, hfr 0, hfr 1, hr1, hoki, hH, fun y => ?_, ?_⟩
 ·rw [hx, Int.toNat_natCast, List.getD_eq_getElem?_getD, List.getElem?_eq_getElem hj]; rfl
 ·exact (Kd.S_seg0 (seg := [.int .i64 y]) (j := 0) (x' := ⟨y, x.f1⟩) hH (by omega) (by omega) (show 0 + 1 ≤ 2 by omega) (k99_mkM W b0 oki ⟨y, x.f1⟩ hr1) (fun _ hk => hk)).1
 ·exact (Kd.S_seg0 (seg := [.slice none 0 0]) (j := 1) (x' := ⟨x.f0, []⟩) hH (by omega) (by omega) (show 1 + 1 ≤ 2 by omega) (k99_mkM W b0 oki ⟨x.f0, []⟩ (Kd.R_nil _ _ _ _ _)) (fun _ hk => hk)).1
theorem few_set {cs : Cs} (h : ∀ x ∈ cs, x.f1.length ≤ 3) {j : Nat} {y : S99} (hy : y.f1.length ≤ 3) : ∀ x ∈ cs.set j y, x.f1.length ≤ 3 := fun x hx => by
 rcases List.mem_or_eq_of_mem_set hx with z | z
 ·exact h x z
 ·rw [z]; exact hy
set_option maxHeartbeats 16000000 in
set_option maxRecDepth 100000 in
theorem off_any (M : Int) (g : Nat) (w0 w : World) (h : Rdr M w0 w g) (hM : M ≤ 600000) : Calls Try.prog 71 #[.pointer (some ⟨g, 0, none⟩)] w (OffP M w0 w g) := by
 obtain ⟨b0, hb0⟩ : ∃ b, b = w.heap.size := ⟨_, rfl⟩
 have HG := Aside0.mk (show g < b0 by rw [hb0]; exact h.lt)
 have HG0 := Aside0.mk (show w0.heap.size ≤ b0 by have := h.ge; have := HG.out; omega)
 have HBW := Aside0.mk hb0
 have HI := Aside0.mk h
 have HM := Aside0.mk hM
 clear h hb0 hM
 go_enter Try.func71, Try.ntmps71
 go_wp2_with fail
 go_at_call 69
 refine (classes_any M g w0 _ HI.out z26).mono ?_
 rintro e w1 ⟨v, cs, rfl, ⟨hok, h2⟩, hS, hi, hk⟩
 have hl := csOk_len hok
 have HF := Aside0.mk (show ∀ x ∈ cs, x.f1.length ≤ 3 from fun x hx => by have := h2 x hx; omega)
 have HF2 := Aside0.mk h2
 have HL := Aside0.mk hl
 obtain ⟨gs, cap, rfl, hgs, _, _⟩ := Kd.S_form hS (by omega)
 have HS1 := Aside0.mk (show Kd.S k99 99 w1 b0 (fun k_ => b0 ≤ k_) (.slice (some ⟨gs, 0, none⟩) cs.length cap) cs by rw [HBW.out]; exact Kd.S_mono (Kd.S_bound hS) (fun k_ hk_ => hk_.2.1))
 have HI1 := Aside0.mk hi
 have HK1 := Aside0.mk hk
 have HGS := Aside0.mk (show b0 ≤ gs by rw [HBW.out]; exact hgs)
 clear hok h2 hl hS hi hk hgs HI
 go_wp2_with fail
 go_at_call 39
 refine (pick_any _ g 20 w0 _ HI1.out z26 z25 z25).mono ?_
 rintro e w2 ⟨q, rfl, hq, hi, hk⟩
 have HI2 := Aside0.mk hi
 have HK2 := Aside0.mk (KeepBut.trans HK1.out hk (.inl rfl))
 have HS2 := Aside0.mk (Kd.S_keep HS1.out hk (fun k_ hk_ => by have := HG.out; omega))
 clear hi hk HI1 HK1 HS1
 by_cases c : 0 < q
 ·have d : decide (0 < q) = true := decide_eq_true c
  clear c hq
  go_wp2
  go_ret
  exact off_ret HBW.out HS2.out HG.out (by have := HL.out; (try simp); omega) HF.out HI2.out (by omega) HK2.out
 ·have d : decide (0 < q) = false := decide_eq_false c
  clear c hq
  go_wp2_with fail
  go_at_call 39
  refine (pick_any _ g cs.length w0 _ HI2.out z26 z25 z25).mono ?_
  rintro e w3 ⟨k, rfl, hk0, hi, hk⟩
  have HI3 := Aside0.mk hi
  have HK3 := Aside0.mk (KeepBut.trans HK2.out hk (.inl rfl))
  have HS3 := Aside0.mk (Kd.S_keep HS2.out hk (fun k_ hk_ => by have := HG.out; omega))
  clear hi hk HI2 HK2 HS2
  obtain ⟨j, rfl⟩ := Int.eq_ofNat_of_zero_le hk0.1
  have HJ := Aside0.mk (show j < cs.length by have := hk0.2; omega)
  clear hk0
  go_wp2_with fail
  go_at_call 39
  refine (pick_any _ g 6 w0 _ HI3.out z26 z25 z25).mono ?_
  rintro e w4 ⟨s, rfl, hs, hi, hk⟩
  have HI4 := Aside0.mk hi
  have HK4 := Aside0.mk (KeepBut.trans HK3.out hk (.inl rfl))
  have HS4 := Aside0.mk (Kd.S_keep HS3.out hk (fun k_ hk_ => by have := HG.out; omega))
  clear hi hk HI3 HK3 HS3
  have hs6 : s = 0 ∨ s = 1 ∨ s = 2 ∨ s = 3 ∨ s = 4 ∨ s = 5 := by omega
  clear hs
  have p1 := eq_true (show (0 : Int) ≤ (j : Int) by omega)
  have p2 := eq_true (show (j : Int) < (cs.length : Int) by have := HJ.out; omega)
  rcases hs6 with rfl | rfl | rfl | rfl | rfl | rfl
  ·skip
   go_wp2_with fail
   go_at_call 39
   refine (pick_any _ g 7 w0 _ HI4.out z26 z25 z25).mono ?_
   rintro e w5 ⟨y, rfl, hy, hi, hk⟩
   have HI5 := Aside0.mk hi
   have HK5 := Aside0.mk (KeepBut.trans HK4.out hk (.inl rfl))
   have HS5 := Aside0.mk (Kd.S_keep HS4.out hk (fun k_ hk_ => by have := HG.out; omega))
   clear hi hk HI4 HK4 HS4
   obtain ⟨x, u, oki, hxj, c0, c1, f0, f1, hr, hoki, hH, hp0, hp1⟩ := cls_put HS5.out HJ.out
   have q1 : IntKind.i64.wrap (y - 1) = y - 1 := IntWalk.i64_in _ (by omega)
   have HP0 := Aside0.mk hp0
   have HX := Aside0.mk (show x.f1.length ≤ 3 from HF.out x (List.mem_of_getElem? hxj))
   clear hy hxj hr hoki hH hp0 hp1
   go_wp2
   go_ret
   exact off_ret HBW.out (HP0.out _) HG.out (by have := HL.out; (try simp); omega) (few_set HF.out HX.out) (Rdr.far HI5.out (p := ⟨gs, j * 2, none⟩) (by have := HG.out; have := HGS.out; show g ≠ gs; omega) (by have := HG0.out; have := HGS.out; show _ ≤ gs; omega) _) (by omega) (keep_far HK5.out (p := ⟨gs, j * 2, none⟩) (by rw [← HBW.out]; exact HGS.out) _)
  ·skip
   obtain ⟨x, u, oki, hxj, c0, c1, f0, f1, hr, hoki, hH, hp0, hp1⟩ := cls_put HS4.out HJ.out
   obtain ⟨A2, c2, rfl⟩ := Kd.R_slice hr
   have HH := Aside0.mk hH
   have HR := Aside0.mk hr
   have HOk := Aside0.mk hoki
   have HX := Aside0.mk (show x.f1.length ≤ 2 from HF2.out x (List.mem_of_getElem? hxj))
   have HGL := Aside0.mk (show gs < w4.heap.size from Kd.S_lt HS4.out gs (by simp [Value.ownBlock]))
   clear hxj hr hoki hH hp0 hp1 c0 f0 f1 HS4
   go_wp2
   replace HH := Aside0.mk (Kd.H_drew HH.out)
   replace HR := Aside0.mk (Kd.R_drew HR.out)
   replace HI4 := Aside0.mk HI4.out.drew
   replace HK4 := Aside0.mk (keep_drew HK4.out)
   replace HGL := Aside0.mk (show gs < w4.drew.heap.size from HGL.out)
   have HW4 := Aside0.mk (KeepBut.refl w4.drew g none)
   refine start_ (n := 17) (S := fun w' => w'.cell? ⟨gs, j * 2 + 1, none⟩ = some (.slice A2 x.f1.length c2)) (ds := [16]) #[false, false, false, false, false, false, false, false, false, false, false, false, false, false, false, false, false] (by kernel_rfl) rfl rfl ((by exact c1)) (fun hHeld => ?_)
   generalize w4.drew = w4a at HH HR HI4 HK4 HGL HW4 hHeld ⊢
   refine pS 0 32 (lA 17 1) ?_
   refine pS 1 33 (lA 17 3) ?_
   refine pS 2 34 (lA 17 7) ?_
   refine pS 3 35 (lA 17 15) ?_
   refine pS 4 36 (lA 17 31) ?_
   refine pS 5 37 (lA 17 63) ?_
   refine pS 8 40 (lA 17 319) ?_
   refine tS 6 38 (lA 17 383) rfl rfl (by kernel_rfl) hHeld (by intro w' s0; go_simp; with_reducible rfl) ?_
   refine join_ (σ := Nat × Int) 7 (lA 17 1023) (fun s => [(39, .slice (some ⟨s.1, 0, none⟩) 4 4), (41, .int .i64 s.2)]) (fun s w' => (0 ≤ s.2 ∧ s.2 < 4) ∧ w'.heap[s.1]? = some (.cells #[.int .i64 0, .int .i64 2, .int .i64 13, .int .i64 5] 3 (0, 0)) ∧ Rdr (M + 40 + 1 + 1 + 1 + 1) w0 w' g ∧ KeepBut w w' g none ∧ KeepBut w4a w' g none ∧ Kd.H k99 99 w' b0 (fun k_ => b0 ≤ k_) (.slice (some ⟨gs, 0, none⟩) cs.length cap) cs (j : Int) oki [.int .i64 x.f0, .slice A2 x.f1.length c2] ∧ (w'.cell? ⟨gs, j * 2 + 1, none⟩ = some (.slice A2 x.f1.length c2))) ?_ ?_
   rotate_left
   ·intro hCont
    refine two_ (i := 7) (j := 9) (Ni := some 39) (Nj := some 41) (lA 17 511) (lA 17 895) rfl rfl rfl rfl (by kernel_rfl) (by decide) (by decide) (fun K hK => ?_) (fun K hK => ?_)
    ·skip
     refine value_ (w1 := ?_) (v := ?_) (by rfl) rfl ?_ ?_
     rotate_left 2
     ·go_simp
      constructor
      ·rfl
      ·rfl
     refine hK.out _ _ ((pw_cell_below (below_alloc (Below.refl _ _) _) hHeld)) (fun hHeld => ?_)
     clear hK K
     refine norm_ (a' := ?_) ?_ ?_
     rotate_left
     ·show Act.put _ (some 39) _ = _
      simp only [Act.put, lA1, lA2, lA3, i64_w, i32_w]
      rfl
     refine one_ (i := 9) (N := some 41) (lA 17 1023) rfl rfl (by kernel_rfl) (by decide) (fun K hK => ?_)
     refine goes_ Try.func39 (by kernel_rfl) rfl #[.pointer (some ⟨g, 0, none⟩), .int .i64 4] (by rfl) rfl rfl z5 ?_
     with_reducible refine (pick_any _ g 4 w0 _ (HI4.out.alloc (.cells #[.int .i64 0, .int .i64 2, .int .i64 13, .int .i64 5] 3 (0, 0))) z26 (by omega) (by omega)).mono ?_
     rintro e w5 ⟨y, rfl, hy, hi, hk⟩
     refine ⟨_, rfl, ?_⟩
     have HL5 := Aside0.mk (KeepBut.blk hk (blk_new w4a (.cells #[.int .i64 0, .int .i64 2, .int .i64 13, .int .i64 5] 3 (0, 0))) (by have := HG.out; have := HGL.out; have := HGS.out; omega) (by simp))
     have HH5 := Aside0.mk (Kd.H_keep (Kd.H_alloc HH.out (.cells #[.int .i64 0, .int .i64 2, .int .i64 13, .int .i64 5] 3 (0, 0))) hk (fun k_ hk_ => by have := HG.out; omega))
     have HK5 := Aside0.mk (KeepBut.trans (keep_alloc HK4.out (.cells #[.int .i64 0, .int .i64 2, .int .i64 13, .int .i64 5] 3 (0, 0))) hk (.inl rfl))
     have HW5 := Aside0.mk (KeepBut.trans (keep_alloc HW4.out (.cells #[.int .i64 0, .int .i64 2, .int .i64 13, .int .i64 5] 3 (0, 0))) hk (.inl rfl))
     have HI5 := Aside0.mk hi
     have hy5 := Aside0.mk hy
     clear hi hk hy
     refine hK.out _ _ (((Kd.H_at HH5.out (by omega) (by have := HJ.out; omega)).1 1 _ rfl)) (fun hHeld => ?_)
     clear hK K
     refine norm_ (a' := ?_) ?_ ?_
     rotate_left
     ·show Act.put _ (some 41) _ = _
      simp only [Act.put, lA1, lA2, lA3, i64_w, i32_w]
      rfl
     exact norm_ z16 (hCont (w4a.heap.size, y) _ ⟨hy5.out, HL5.out, HI5.out, HK5.out, HW5.out, HH5.out, hHeld⟩)
    ·skip
     refine goes_ Try.func39 (by kernel_rfl) rfl #[.pointer (some ⟨g, 0, none⟩), .int .i64 4] (by rfl) rfl rfl z5 ?_
     with_reducible refine (pick_any _ g 4 w0 _ HI4.out z26 (by omega) (by omega)).mono ?_
     rintro e w5 ⟨y, rfl, hy, hi, hk⟩
     refine ⟨_, rfl, ?_⟩
     have HH5 := Aside0.mk (Kd.H_keep HH.out hk (fun k_ hk_ => by have := HG.out; omega))
     have HK5 := Aside0.mk (KeepBut.trans HK4.out hk (.inl rfl))
     have HW5 := Aside0.mk (KeepBut.trans HW4.out hk (.inl rfl))
     have HI5 := Aside0.mk hi
     have hy5 := Aside0.mk hy
     clear hi hk hy
     refine hK.out _ _ (((Kd.H_at HH5.out (by omega) (by have := HJ.out; omega)).1 1 _ rfl)) (fun hHeld => ?_)
     clear hK K
     refine norm_ (a' := ?_) ?_ ?_
     rotate_left
     ·show Act.put _ (some 41) _ = _
      simp only [Act.put, lA1, lA2, lA3, i64_w, i32_w]
      rfl
     refine one_ (i := 7) (N := some 39) (lA 17 1023) rfl rfl (by kernel_rfl) (by decide) (fun K hK => ?_)
     refine value_ (w1 := ?_) (v := ?_) (by rfl) rfl ?_ ?_
     rotate_left 2
     ·go_simp
      constructor
      ·rfl
      ·rfl
     refine hK.out _ _ ((pw_cell_below (below_alloc (Below.refl _ _) _) hHeld)) (fun hHeld => ?_)
     clear hK K
     refine norm_ (a' := ?_) ?_ ?_
     rotate_left
     ·show Act.put _ (some 39) _ = _
      simp only [Act.put, lA1, lA2, lA3, i64_w, i32_w]
      rfl
     exact norm_ z16 (hCont (w5.heap.size, y) _ ⟨hy5.out, blk_new w5 _, HI5.out.alloc _, keep_alloc HK5.out _, keep_alloc HW5.out _, Kd.H_alloc HH5.out _, hHeld⟩)
   rintro ⟨gl, y⟩ w5 ⟨hy, hl, hi, hk, hkw, hH, hHeld⟩
   have HW5 := Aside0.mk hkw
   have HI5 := Aside0.mk hi
   have HK5 := Aside0.mk hk
   have HH5 := Aside0.mk hH
   have q5 := eq_true hy.1
   have q6 := eq_true hy.2
   obtain ⟨z, hz⟩ : ∃ z, w5.cell? ⟨gl, y.toNat, none⟩ = some (.int .i64 z) := by
    have h4 : y.toNat = 0 ∨ y.toNat = 1 ∨ y.toNat = 2 ∨ y.toNat = 3 := by omega
    rcases h4 with h4 | h4 | h4 | h4 <;> rw [h4]
    ·exact ⟨_, (blk_cell hl 0).trans rfl⟩
    ·exact ⟨_, (blk_cell hl 1).trans rfl⟩
    ·exact ⟨_, (blk_cell hl 2).trans rfl⟩
    ·exact ⟨_, (blk_cell hl 3).trans rfl⟩
   clear hi hk hkw hH hl hy HH HK4 HI4
   refine norm_ (a' := ?_) ?_ ?_
   rotate_left
   ·simp only [putAll, Act.put, List.setIfInBounds_toArray, List.set_cons_zero, List.set_cons_succ]
    rfl
   refine pS 10 42 (lA 17 2047) ?_
   refine one_ (i := 11) (N := some 43) (lA 17 4095) rfl rfl (by kernel_rfl) (by decide) (fun K hK => ?_)
   refine value_ (w1 := ?_) (v := ?_) (by rfl) rfl ?_ ?_
   rotate_left 2
   ·go_simp
    constructor
    ·rfl
    ·rfl
   refine hK.out _ _ (hHeld) (fun hHeld => ?_)
   clear hK K
   refine norm_ (a' := ?_) ?_ ?_
   rotate_left
   ·show Act.put _ (some 43) _ = _
    simp only [Act.put, lA1, lA2, lA3, i64_w, i32_w]
    rfl
   refine one_ (i := 12) (N := some 44) (lA 17 8191) rfl rfl (by kernel_rfl) (by decide) (fun K hK => ?_)
   refine value_ (w1 := ?_) (v := ?_) (by rfl) rfl ?_ ?_
   rotate_left 2
   ·go_simp
    constructor
    ·rfl
    ·rfl
   refine hK.out _ _ ((pw_cell_below (below_alloc (Below.refl _ _) _) hHeld)) (fun hHeld => ?_)
   clear hK K
   refine norm_ (a' := ?_) ?_ ?_
   rotate_left
   ·show Act.put _ (some 44) _ = _
    simp only [Act.put, lA1, lA2, lA3, i64_w, i32_w]
    rfl
   refine one_ (i := 13) (N := some 45) (lA 17 16383) rfl rfl (by kernel_rfl) (by decide) (fun K hK => ?_)
   have HZ5 := Aside0.mk (show b0 ≤ w5.heap.size by rw [HBW.out]; exact keep_size HK5.out)
   refine Kd.R_append_step (Kd.int .i64) b0 (by rfl) (.tmp 38) (.tmp 44) 24 3 (.int .i64 0) 8 rfl Try.underlying24 info3 rfl (by decide) (by omega) (.slice A2 x.f1.length c2) x.f1 z [.int .i64 z] (fun k_ => oki k_ ∨ b0 ≤ k_ ∧ w5.heap.size ≤ k_) (fun _ => False) rfl rfl ?aP (fun _ hk => hk.elim) ?aF ?aO (Below.refl _ _) ?aS ?aL ?_
   (case aP => exact rfl)
   (case aF => exact fun k_ hk_ => .inr ⟨by have := HZ5.out; omega, hk_⟩)
   (case aO => exact Kd.R_mono (Kd.R_keep HR.out HW5.out (fun k_ hk_ => by have := (HOk.out k_ hk_).1; have := HG.out; omega)) (fun _ h_ => .inl h_))
   (case aS => exact HZ5.out)
   (case aL => have := HX.out; omega)
   intro v8 w8 ho hbn hgr hat
   obtain ⟨AN, cN, eN⟩ := Kd.R_slice ho
   subst eN
   have hbs : ∀ k, (Value.slice A2 x.f1.length c2).ownBlock = some k → b0 ≤ k := fun k hk => (HOk.out k (HR.out.1 k hk)).1
   have HH8 := Aside0.mk (Kd.H_grown (Kd.H_widen HH5.out) hgr (fun k_ e_ => .inl (HR.out.1 k_ e_)))
   have HI8 := Aside0.mk (HI5.out.grown hgr (fun e_ => by have := hbs g e_.symm; have := HG.out; omega) (fun k_ e_ => by have := hbs k_ e_; have := HG0.out; omega))
   have HK8 := Aside0.mk (KeepBut.trans HK5.out (KeepBut.of_grown hgr g) (by rw [← HBW.out]; exact Kd.R_base2 HR.out))
   have HS8 := Aside0.mk (show Kd.S k99 99 (w8.setCell ⟨gs, j * 2 + 1, none⟩ (.slice AN (x.f1.length + 1) cN)) b0 (fun k_ => b0 ≤ k_) (.slice (some ⟨gs, 0, none⟩) cs.length cap) (cs.set j ⟨x.f0, x.f1 ++ [z]⟩) by rw [show x.f1.length + 1 = (x.f1 ++ [z]).length by simp]; exact (Kd.S_seg0 (seg := [.slice AN (x.f1 ++ [z]).length cN]) (j := 1) (x' := ⟨x.f0, x.f1 ++ [z]⟩) HH8.out (by omega) (by have := HJ.out; omega) (show 1 + 1 ≤ 2 by omega) (k99_mkM w8 b0 _ ⟨x.f0, x.f1 ++ [z]⟩ ho) (fun _ h_ => h_)).1)
   have o8 : w8.cell? ⟨gs, j * 2 + 1, none⟩ = _ := ((Kd.H_at HH8.out (by omega) (by have := HJ.out; omega)).1 1 _ rfl)
   have y8 : w8.frozen? ⟨gs, j * 2 + 1, none⟩ = false := (Kd.H_at HH8.out (by omega) (by have := HJ.out; omega)).2 1
   clear ho hbn hgr hat hbs HH5 HI5 HK5
   refine hK.out _ _ (o8) (fun hHeld => ?_)
   clear hK K
   refine norm_ (a' := ?_) ?_ ?_
   rotate_left
   ·show Act.put _ (some 45) _ = _
    simp only [Act.put, lA1, lA2, lA3, i64_w, i32_w]
    rfl
   refine pS 14 46 (lA 17 32767) ?_
   refine pS 15 47 (lA 17 65535) ?_
   refine last_ (i := 16) (N := none) (lA 17 131071) rfl rfl (by kernel_rfl) (by decide) (fun K hK => ?_)
   refine skip_ (w1 := ?_) (by rfl) rfl ?_ ?_
   rotate_left
   ·go_simp
    rfl
   refine hK.out _ _ ?_
   clear hK K
   refine done_ (by kernel_rfl) ?_
   go_wp2
   go_ret
   exact off_ret HBW.out HS8.out HG.out (by have := HL.out; (try simp); omega) (few_set HF.out (by have := HX.out; simp; omega)) (Rdr.far HI8.out (p := ⟨gs, j * 2 + 1, none⟩) (by have := HG.out; have := HGS.out; show g ≠ gs; omega) (by have := HG0.out; have := HGS.out; show _ ≤ gs; omega) _) (by omega) (keep_far HK8.out (p := ⟨gs, j * 2 + 1, none⟩) (by rw [← HBW.out]; exact HGS.out) _)
  ·skip
   have p3 := eq_true (show (1 : Int) ≤ (cap : Int) by have := (Kd.S_reads' HS4.out).2.1; have := HL.out; omega)
   have p4 : (1 : Nat) ≤ cap := by have := (Kd.S_reads' HS4.out).2.1; have := HL.out; omega
   go_wp2
   go_ret
   exact off_ret HBW.out (Kd.S_take (m := 1) HS4.out z25) HG.out (by have := HL.out; simp; omega) (fun x hx => HF.out x (List.mem_of_mem_take hx)) HI4.out (by omega) HK4.out
  ·skip
   obtain ⟨x, u, oki, hxj, c0, c1, f0, f1, hr, hoki, hH, hp0, hp1⟩ := cls_put HS4.out (show 1 < cs.length by have := HL.out; omega)
   obtain ⟨A2, c2, rfl⟩ := Kd.R_slice hr
   have HR := Aside0.mk hr
   have HOk := Aside0.mk hoki
   have HX := Aside0.mk (show x.f1.length ≤ 3 from HF.out x (List.mem_of_getElem? hxj))
   have HGL := Aside0.mk (show gs < w4.heap.size from Kd.S_lt HS4.out gs (by simp [Value.ownBlock]))
   have p5 := eq_true (show (1 : Int) < (cs.length : Int) by have := HL.out; omega)
   have c0' : w4.cell? ⟨gs, 2, none⟩ = some (.int .i64 x.f0) := c0
   have c1' : w4.cell? ⟨gs, 3, none⟩ = some (.slice A2 x.f1.length c2) := c1
   clear hxj hr hoki hH hp0 hp1 c0 c1 f0 f1
   go_wp2
   replace HS4 := Aside0.mk (Kd.S_drew HS4.out)
   replace HR := Aside0.mk (Kd.R_drew HR.out)
   replace HI4 := Aside0.mk HI4.out.drew
   replace HK4 := Aside0.mk (keep_drew HK4.out)
   replace HGL := Aside0.mk (show gs < w4.drew.heap.size from HGL.out)
   refine start_ (n := 16) (S := fun w' => w'.cell? ⟨gs, 2, none⟩ = some (.int .i64 x.f0) ∧ w'.cell? ⟨gs, 3, none⟩ = some (.slice A2 x.f1.length c2)) (ds := [14]) #[false, false, false, false, false, false, false, false, false, false, false, false, false, false, false, false] (by kernel_rfl) rfl rfl ⟨c0', c1'⟩ (fun hHeld => ?_)
   generalize w4.drew = w4a at HS4 HR HI4 HK4 HGL hHeld ⊢
   refine pS 0 54 (lA 16 1) ?_
   refine pS 1 55 (lA 16 3) ?_
   refine pS 2 56 (lA 16 7) ?_
   refine pS 4 58 (lA 16 23) ?_
   refine pS 5 59 (lA 16 55) ?_
   refine pS 7 61 (lA 16 183) ?_
   refine pS 8 62 (lA 16 439) ?_
   refine pS 10 64 (lA 16 1463) ?_
   refine pS 11 65 (lA 16 3511) ?_
   refine tS 3 57 (lA 16 3519) rfl rfl (by kernel_rfl) hHeld (by rintro w' ⟨s0, s1⟩; go_simp; with_reducible rfl) ?_
   refine tS 6 60 (lA 16 3583) rfl rfl (by kernel_rfl) hHeld (by rintro w' ⟨s0, s1⟩; go_simp; with_reducible rfl) ?_
   refine tS 9 63 (lA 16 4095) rfl rfl (by kernel_rfl) hHeld (by rintro w' ⟨s0, s1⟩; go_simp; with_reducible rfl) ?_
   refine tS 12 66 (lA 16 8191) rfl rfl (by kernel_rfl) hHeld (by rintro w' ⟨s0, s1⟩; go_simp; with_reducible rfl) ?_
   refine one_ (i := 13) (N := some 67) (lA 16 16383) rfl rfl (by kernel_rfl) (by decide) (fun K hK => ?_)
   have HZ := Aside0.mk (show b0 ≤ w4a.heap.size by rw [HBW.out]; exact keep_size HK4.out)
   refine Kd.N_lit_step k99 _ 99 ?hg (N' := 67) ?hd (xs := ([x, x, x, x] : List S99)) (inner := [.int .i64 x.f0, .slice A2 x.f1.length c2, .int .i64 x.f0, .slice A2 x.f1.length c2, .int .i64 x.f0, .slice A2 x.f1.length c2, .int .i64 x.f0, .slice A2 x.f1.length c2]) (ok := (fun k_ => b0 ≤ k_ ∧ k_ ≠ gs)) (okp := (fun k_ => b0 ≤ k_ ∧ k_ ≠ gs)) ?hr ?hp (fun _ hk => hk) ⟨HZ.out, by have := HGL.out; omega⟩ (Below.refl _ _) (Nat.le_refl _) (by simp) ?_
   (case hd => rfl)
   (case hg => rfl)
   (case hr => first | (go_simp; done) | (go_simp; rfl))
   (case hp => exact Reps.c2 (show Kd.FK k99 _ _ x [.int .i64 x.f0, .slice A2 x.f1.length c2] from k99_mkF _ _ x (Kd.R_reads' HR.out).2.1 (Kd.R_F (Kd.R_mono HR.out HOk.out))) (Reps.c2 (show Kd.FK k99 _ _ x [.int .i64 x.f0, .slice A2 x.f1.length c2] from k99_mkF _ _ x (Kd.R_reads' HR.out).2.1 (Kd.R_F (Kd.R_mono HR.out HOk.out))) (Reps.c2 (show Kd.FK k99 _ _ x [.int .i64 x.f0, .slice A2 x.f1.length c2] from k99_mkF _ _ x (Kd.R_reads' HR.out).2.1 (Kd.R_F (Kd.R_mono HR.out HOk.out))) (Reps.c2 (show Kd.FK k99 _ _ x [.int .i64 x.f0, .slice A2 x.f1.length c2] from k99_mkF _ _ x (Kd.R_reads' HR.out).2.1 (Kd.R_F (Kd.R_mono HR.out HOk.out))) (Reps.none _ _)))))
   intro v5 w5 ho hb hg_ hnew_
   have HN5 := Aside0.mk (Kd.N_lower ho HZ.out)
   have HS5 := Aside0.mk (Kd.S_below HS4.out hb)
   have HI5 := Aside0.mk (HI4.out.below hb)
   have HK5 := Aside0.mk (KeepBut.trans HK4.out (KeepBut.of_below hb g none) (.inl rfl))
   have HZ5 := Aside0.mk (Nat.le_trans HZ.out (below_size hb))
   have s0_ := pw_cell_below hb hHeld.1
   have s1_ := pw_cell_below hb hHeld.2
   clear ho hb hg_ hnew_ HS4 HI4 HK4
   obtain ⟨A5, c5, e5⟩ := Kd.N_slice HN5.out
   subst e5
   refine hK.out _ _ ⟨s0_, s1_⟩ (fun hHeld => ?_)
   clear hK K
   refine norm_ (a' := ?_) ?_ ?_
   rotate_left
   ·show Act.put _ (some 67) _ = _
    simp only [Act.put, lA1, lA2, lA3, i64_w, i32_w]
    rfl
   refine last_ (i := 14) (N := some 68) (lA 16 32767) rfl rfl (by kernel_rfl) (by decide) (fun K hK => ?_)
   refine Kd.N_append_rows_step k99 b0 (by rfl) (.tmp 54) (.tmp 67) 23 99 (.agg #[(.int .i64 0), (.slice none 0 0)]) 32 rfl Try.underlying23 info99 rfl (by decide) (by omega) (.slice (some ⟨gs, 0, none⟩) cs.length cap) cs [x, x, x, x] _ _ _ (fun k_ => b0 ≤ k_) (fun k_ => (fun k_ => b0 ≤ k_) k_ ∧ some k_ ≠ (Value.slice (some ⟨gs, 0, none⟩) cs.length cap).ownBlock) rfl rfl ?aO ?aR (fun _ hk => hk) ?aF (Below.refl _ _) ?aS ?aL ?_
   (case aR => exact Kd.N_F (Kd.N_mono HN5.out (fun k_ hk_ => ⟨hk_.1, by simp [Value.ownBlock]; exact hk_.2⟩)))
   (case aO => exact Kd.S_N HS5.out)
   (case aF => exact fun k_ hk_ => by have := HZ5.out; omega)
   (case aS => exact HZ5.out)
   (case aL => have := HL.out; simp; omega)
   intro v7 w7 ho hb hg_ hat
   have HV7 := Aside0.mk (show Kd.V k99 99 w7 b0 (fun k_ => b0 ≤ k_) v7 (cs ++ [x, x, x, x]) from Kd.N_V ho)
   have HI7 := Aside0.mk (HI5.out.grown hg_ (fun e_ => by have := Kd.S_base HS5.out g e_.symm; have := HG.out; omega) (fun k_ e_ => by have := Kd.S_base HS5.out k_ e_; have := HG0.out; omega))
   have HK7 := Aside0.mk (KeepBut.trans HK5.out (KeepBut.of_grown hg_ g) (by rw [← HBW.out]; exact Kd.S_base2 HS5.out))
   clear ho hb hg_ hat
   refine hK.out _ _ ?_
   clear hK K
   refine norm_ (a' := ?_) ?_ ?_
   rotate_left
   ·show Act.put _ (some 68) _ = _
    simp only [Act.put, lA1, lA2, lA3, i64_w, i32_w]
    rfl
   refine pS 15 2 (lA 16 65535) ?_
   refine done_ (by kernel_rfl) ?_
   go_wp2
   go_ret
   exact off_retV HBW.out HV7.out HG.out (by have := HL.out; simp; omega) (fun z hz => by rcases List.mem_append.mp hz with q | q; exact HF.out z q; simp at q; rw [q]; exact HX.out) HI7.out (by omega) HK7.out
  ·skip
   go_wp2_with ((with_reducible refine gate_dst (N := 73) rfl ?_); refine Kd.R_lit (Kd.int .i64) _ 3 ?hg (N := 73) ?hd (xs := ([1, 1, 1] : List Int)) (inner := [.int .i64 1, .int .i64 1, .int .i64 1]) (ok := fun _ => True) (okp := fun _ => True) ?hr ?hp (fun _ hk => hk) trivial (Below.refl _ _) (Nat.le_refl _) (by simp) ?_; (case hd => rfl); (case hg => rfl); (case hr => first | (go_simp; done) | (go_simp; rfl)); (case hp => exact (Reps.one (show Kd.M (Kd.int .i64) _ _ _ 1 [.int .i64 1] from rfl) (Reps.one (show Kd.M (Kd.int .i64) _ _ _ 1 [.int .i64 1] from rfl) (Reps.one (show Kd.M (Kd.int .i64) _ _ _ 1 [.int .i64 1] from rfl) (Reps.none _ _))))); intro v1 w5 ho hb hg_ hnew_; have HZ := Aside0.mk (show b0 ≤ w4.heap.size by rw [HBW.out]; exact keep_size HK4.out); have HN := Aside0.mk (show ∀ k, v1.ownBlock = some k → w4.heap.size ≤ k from fun k hk => Kd.R_base ho k hk); have HR := Aside0.mk (Kd.R_tight rfl (Kd.R_lower ho HZ.out)); have HS5 := Aside0.mk (show Kd.S k99 99 w5 b0 (fun k_ => b0 ≤ k_ ∧ ¬ some k_ = v1.ownBlock) (.slice (some ⟨gs, 0, none⟩) cs.length cap) cs from Kd.S_below (Kd.S_mono (Kd.S_bound HS4.out) (fun k_ hk_ => ⟨hk_.1, fun e_ => by have := HN.out k_ e_.symm; omega⟩)) hb); have HI5 := Aside0.mk (HI4.out.below hb); have HK5 := Aside0.mk (KeepBut.trans HK4.out (KeepBut.of_below hb g none) (.inl rfl)); have HGL := Aside0.mk (show gs < w4.heap.size from Kd.S_lt HS4.out gs (by simp [Value.ownBlock])); clear ho hb hg_ hnew_ HI4 HK4 HS4; obtain ⟨Ao, co, eo⟩ := Kd.R_slice HR.out; subst eo; obtain ⟨x, u, oki, hxj, c0, c1, f0, f1, hr, hoki, hH, hp0, hp1⟩ := cls_put HS5.out HJ.out; have HP1 := Aside0.mk (Kd.S_seg (okg := fun k_ => some k_ = (Value.slice Ao ([1, 1, 1] : List Int).length co).ownBlock) (seg := [.slice Ao ([1, 1, 1] : List Int).length co]) (j := 1) (x' := ⟨x.f0, [1, 1, 1]⟩) hH (by have := HJ.out; omega) (by have := HJ.out; omega) (show 1 + 1 ≤ 2 by omega) (k99_mkM w5 b0 _ ⟨x.f0, [1, 1, 1]⟩ HR.out) (fun k_ hk_ => .inr hk_) (fun k_ hk_ => ⟨by have := HN.out k_ hk_.symm; have := HZ.out; omega, by have := HN.out k_ hk_.symm; have := HGL.out; omega⟩)).1; clear hxj hr hoki hH hp0 hp1)
   go_ret
   exact off_ret HBW.out HP1.out HG.out (by have := HL.out; (try simp); omega) (few_set HF.out (by simp)) (Rdr.far HI5.out (p := ⟨gs, j * 2 + 1, none⟩) (by have := HG.out; have := HGS.out; show g ≠ gs; omega) (by have := HG0.out; have := HGS.out; show _ ≤ gs; omega) _) (by omega) (keep_far HK5.out (p := ⟨gs, j * 2 + 1, none⟩) (by rw [← HBW.out]; exact HGS.out) _)
  ·skip
   obtain ⟨x, u, oki, hxj, c0, c1, f0, f1, hr, hoki, hH, hp0, hp1⟩ := cls_put HS4.out HJ.out
   have HP1 := Aside0.mk hp1
   clear hxj hr hoki hH hp0 hp1
   go_wp2
   go_ret
   exact off_ret HBW.out HP1.out HG.out (by have := HL.out; (try simp); omega) (few_set HF.out (by simp)) (Rdr.far HI4.out (p := ⟨gs, j * 2 + 1, none⟩) (by have := HG.out; have := HGS.out; show g ≠ gs; omega) (by have := HG0.out; have := HGS.out; show _ ≤ gs; omega) _) (by omega) (keep_far HK4.out (p := ⟨gs, j * 2 + 1, none⟩) (by rw [← HBW.out]; exact HGS.out) _)
end Go.Proofs.Ytfbkpjjnhengfaa.K
namespace Go.Proofs.Ytfbkpjjnhengfaa.K
open Go.RowKit Go.Proofs.YtfbkpjjnhengfaaW.PrintWords Go.Proofs.YtfbkpjjnhengfaaW.PrintLast Go.Proofs.YtfbkpjjnhengfaaW.PrintMore
attribute [local go_sem] max2_int min2_int max_two min_two max_three min_three max_four min_four
set_option linter.unusedVariables false
set_option linter.unusedSimpArgs false
open Go.Proofs.Ytfbkpjjnhengfaa.Pure
structure Dm (W : World) (b0 : Nat) (ok : Nat → Prop) (v5 v0 v4 v7 : Value) (cs : Cs) (ws : List Int) (cards : List Bool) (rt : List Int) : Prop where
 h5 : Kd.V k99 99 W b0 ok v5 cs
 h0 : Kd.V (Kd.int .i64) 3 W b0 ok v0 ws
 h4 : Kd.V Kd.bool 4 W b0 ok v4 cards
 h7 : Kd.V (Kd.int .i64) 3 W b0 ok v7 rt
 l5 : 1 ≤ cs.length ∧ cs.length ≤ 9 ∧ ∀ x ∈ cs, x.f1.length ≤ 3
 l0 : 1 ≤ ws.length ∧ ws.length ≤ 1000
 l4 : cards.length ≤ 1000
 l7 : rt.length ≤ 100
def MemP (M : Int) (w0 w : World) (g : Nat) (e : Ending) (w' : World) : Prop := ∃ (v5 v0 v4 v7 : Value) (cs : Cs) (ws : List Int) (y t o : Int) (cards : List Bool) (rt : List Int), e = .returned (.tuple #[v5, .agg #[v0, .int .i64 y, .int .i64 t, .int .i64 o, v4], v7]) ∧ Dm w' w.heap.size (fun k => w.heap.size ≤ k) v5 v0 v4 v7 cs ws cards rt ∧ Rdr (M + 6000) w0 w' g ∧ Ch (fun k => k = g) w w'
section
variable {b0 g gz gm : Nat} {W w w0 w1 : World} {v5 v0 v4 v7 : Value} {cs : Cs} {ws : List Int} {cards : List Bool} {rt : List Int} {ok ok' S : Nat → Prop} {M L : Int}
theorem Dm.ch (h : Dm W b0 ok v5 v0 v4 v7 cs ws cards rt) (hc : Ch S W w1) (hS : ∀ k, ok k → ¬ S k) : Dm w1 b0 ok v5 v0 v4 v7 cs ws cards rt :=
  ⟨Kd.V_kept h.h5 hc.kept hS, Kd.V_kept h.h0 hc.kept hS, Kd.V_kept h.h4 hc.kept hS, Kd.V_kept h.h7 hc.kept hS, h.l5, h.l0, h.l4, h.l7⟩
theorem Dm.mono (h : Dm W b0 ok v5 v0 v4 v7 cs ws cards rt) (hS : ∀ k, ok k → ok' k) : Dm W b0 ok' v5 v0 v4 v7 cs ws cards rt :=
  ⟨Kd.V_mono h.h5 hS, Kd.V_mono h.h0 hS, Kd.V_mono h.h4 hS, Kd.V_mono h.h7 hS, h.l5, h.l0, h.l4, h.l7⟩
theorem Dm.ret (h : Dm W w.heap.size (fun k => w.heap.size ≤ k ∧ k ≠ gz) v5 v0 v4 v7 cs ws cards rt) (hi : Rdr L w0 W g) (hL : L ≤ M + 6000) (hc : Ch (fun k => k = g) w W) (hg : g < w.heap.size ∧ w0.heap.size ≤ w.heap.size) (hz : w.heap.size ≤ gz) {a b c d e : Value} {y t o : Int} :
    MemP M w0 w g (.returned (.tuple #[v5, .agg #[v0, .int .i64 y, .int .i64 t, .int .i64 o, v4], v7])) (memBox W gz a b c d e) :=
  ⟨v5, v0, v4, v7, cs, ws, y, t, o, cards, rt, rfl, (h.ch (Ch.box5 (Ch.refl (fun k => k = gz) _) (.inl rfl) _ _ _ _ _) (fun k hk => hk.2)).mono (fun k hk => hk.1), (hi.ch (Ch.box5 (Ch.refl (fun k => k = gz) _) (.inl rfl) _ _ _ _ _) (by omega) (fun k hk => by omega)).le hL, hc.box5 (.inr hz) _ _ _ _ _⟩
end
structure Ms (b0 s1 gz gm gw cW gc cC : Nat) (W : World) (v5 v7 : Value) (cs : Cs) (ws : List Int) (y t o : Int) (cards : List Bool) (rt : List Int) : Prop where
 om : OM s1 gw cW gc cC W ws cards
 h5 : Kd.V k99 99 W b0 (fun k => gz < k ∧ k < s1) v5 cs
 h7 : Kd.R (Kd.int .i64) 3 W s1 (fun k => k ≠ gw) v7 rt
 bm : W.heap[gm]? = some (.cells #[.slice (some ⟨gw, 0, none⟩) ws.length cW, .int .i64 y, .int .i64 t, .int .i64 o, .slice (some ⟨gc, 0, none⟩) cards.length cC] 27 (0, 0))
 bz : W.heap[gz]? = some (.cells #[.slice none 0 0, .int .i64 0, .int .i64 0, .int .i64 0, .slice none 0 0] 27 (0, 0))
 ge : b0 ≤ gz ∧ gz < s1 ∧ s1 ≤ gm
 l5 : 1 ≤ cs.length ∧ cs.length ≤ 9 ∧ ∀ x ∈ cs, x.f1.length ≤ 3
 l0 : 14 ≤ ws.length ∧ ws.length ≤ 160
 l4 : 4 ≤ cards.length ∧ cards.length ≤ 40
 l7 : rt.length ≤ 60
section
variable {b0 s1 g gz gm gw cW gc cC : Nat} {W w1 : World} {v5 v7 v : Value} {cs : Cs} {ws : List Int} {y t o : Int} {cards : List Bool} {rt : List Int} {S : Nat → Prop}
theorem Ms.ch (h : Ms b0 s1 gz gm gw cW gc cC W v5 v7 cs ws y t o cards rt) (hc : Ch S W w1) (hS : ∀ k, S k → k < b0 ∨ W.heap.size ≤ k) : Ms b0 s1 gz gm gw cW gc cC w1 v5 v7 cs ws y t o cards rt := by
  have a := h.om.bw; have b := h.om.bc; have c := h.ge; have d := blk_lt h.bm
  exact ⟨h.om.ch hc (fun q => by have := hS _ q; omega) (fun q => by have := hS _ q; omega), Kd.V_mono (Kd.V_kept (Kd.V_bound h.h5) hc.kept (fun k hk q => by have := hS _ q; omega)) (fun _ hk => hk.1), Kd.R_mono (hc.R (Kd.R_bound h.h7) (fun k hk q => by have := hS _ q; omega)) (fun _ hk => hk.1), hc.blk h.bm (fun q => by have := hS _ q; omega), hc.blk h.bz (fun q => by have := hS _ q; have := blk_lt h.bz; omega), h.ge, h.l5, h.l0, h.l4, h.l7⟩
theorem Ms.below (h : Ms b0 s1 gz gm gw cW gc cC W v5 v7 cs ws y t o cards rt) (hb : Below W.heap.size W w1) : Ms b0 s1 gz gm gw cW gc cC w1 v5 v7 cs ws y t o cards rt := h.ch ((Ch.refl (fun _ => False) _).below hb) (fun _ h => h.elim)
theorem Ms.word (h : Ms b0 s1 gz gm gw cW gc cC W v5 v7 cs ws y t o cards rt) (hc : Ch (fun k => k = gw) W w1) {ws' : List Int} (hO : OM s1 gw cW gc cC w1 ws' cards) (hl : ws'.length = ws.length) : Ms b0 s1 gz gm gw cW gc cC w1 v5 v7 cs ws' y t o cards rt := by
  have a := h.om.bw; have c := h.ge; have n := h.om.nbox h.bm; have n2 := h.om.nbox h.bz
  exact ⟨hO, Kd.V_kept h.h5 hc.kept (fun k hk q => by omega), hc.R h.h7 (fun k hk q => hk q), by rw [hl]; exact hc.blk h.bm (fun q => n.1 q.symm), hc.blk h.bz (fun q => n2.1 q.symm), h.ge, h.l5, by rw [hl]; exact h.l0, h.l4, h.l7⟩
theorem Ms.r7 (h : Ms b0 s1 gz gm gw cW gc cC W v5 v7 cs ws y t o cards rt) : Kd.R (Kd.int .i64) 3 W s1 (fun k => k ≠ gw ∧ k ≠ gc) v7 rt := h.om.apart h.h7
theorem Ms.dm (h : Ms b0 s1 gz gm gw cW gc cC W v5 v7 cs ws y t o cards rt) : Dm W b0 (fun k => (b0 ≤ k ∧ k ≠ gz) ∧ k ≠ gm) v5 (.slice (some ⟨gw, 0, none⟩) ws.length cW) (.slice (some ⟨gc, 0, none⟩) cards.length cC) v7 cs ws cards rt := by
 have a := h.om.bw; have b := h.om.bc; have c := h.ge; have n := h.om.nbox h.bm
 refine ⟨Kd.V_mono h.h5 (fun k hk => ⟨⟨by omega, by omega⟩, by omega⟩), Kd.R_V (Kd.R_mono h.om.hw (fun k hk => ⟨⟨by omega, by omega⟩, by omega⟩)), Kd.R_V (Kd.R_mono h.om.hc (fun k hk => ⟨⟨by omega, by omega⟩, by omega⟩)), ?_, h.l5, ⟨by have := h.l0; omega, by have := h.l0; omega⟩, by have := h.l4; omega, by have := h.l7; omega⟩
 exact Kd.R_V (Kd.R_mono (Kd.R_types (Kd.R_bound h.h7) h.bm (by decide)) (fun k hk => ⟨⟨by omega, by omega⟩, hk.2⟩))
theorem Ms.cut (h : Ms b0 s1 gz gm gw cW gc cC W v5 v7 cs ws y t o cards rt) : Dm W b0 (fun k => (b0 ≤ k ∧ k ≠ gz) ∧ k ≠ gm) v5 (.slice (some ⟨gw, 0, none⟩) ws.length cW) (.slice (some ⟨gc, 1, none⟩) (cards.length - 1) (cC - 1)) v7 cs ws (cards.drop 1) rt := by
 have hd := h.dm
 have h4 := h.l4
 have hc := (Kd.V_reads' hd.h4).2.1
 have hf := Kd.F_cut (c := cC) (Kd.V_F hd.h4) (m := 1) (by omega) hc
 rw [if_neg (by omega)] at hf
 refine ⟨hd.h5, hd.h0, ?_, hd.h7, hd.l5, hd.l0, by rw [List.length_drop]; omega, hd.l7⟩
 rw [show cards.length - 1 = (cards.drop 1).length from List.length_drop.symm]
 exact Kd.V_mk (by rw [List.length_drop]; omega) hf
theorem Ms.grow (h : Ms b0 s1 gz gm gw cW gc cC W v5 v7 cs ws y t o cards rt) (hc : Ch (fun k => k = gw) W w1) {ws' : List Int} {ok : Nat → Prop} (hv : Kd.R (Kd.int .i64) 3 w1 s1 ok v ws') (hok : ∀ k, ok k → k = gw ∨ W.heap.size ≤ k) (hl : 1 ≤ ws'.length ∧ ws'.length ≤ 1000) :
  Dm w1 b0 (fun k => (b0 ≤ k ∧ k ≠ gz) ∧ k ≠ gm) v5 v (.slice (some ⟨gc, 0, none⟩) cards.length cC) v7 cs ws' cards rt ∧ w1.heap[gm]? = some (.cells #[.slice (some ⟨gw, 0, none⟩) ws.length cW, .int .i64 y, .int .i64 t, .int .i64 o, .slice (some ⟨gc, 0, none⟩) cards.length cC] 27 (0, 0)) ∧ w1.heap[gz]? = some (.cells #[.slice none 0 0, .int .i64 0, .int .i64 0, .int .i64 0, .slice none 0 0] 27 (0, 0)) := by
 have a := h.om.bw; have b := h.om.bc; have c := h.ge; have n := h.om.nbox h.bm; have n2 := h.om.nbox h.bz; have z1 := blk_lt h.bm; have z2 := blk_lt h.bz
 refine ⟨⟨Kd.V_mono (Kd.V_kept h.h5 hc.kept (fun k hk q => by omega)) (fun k hk => ⟨⟨by omega, by omega⟩, by omega⟩), Kd.R_V (Kd.R_mono hv (fun k hk => by have := hok k hk; omega)), Kd.R_V (Kd.R_mono (hc.R h.om.hc (fun k hk q => by have := h.om.ne; omega)) (fun k hk => ⟨⟨by omega, by omega⟩, by omega⟩)), ?_, h.l5, hl, by have := h.l4; omega, by have := h.l7; omega⟩, hc.blk h.bm (fun q => n.1 q.symm), hc.blk h.bz (fun q => n2.1 q.symm)⟩
 exact Kd.R_V (Kd.R_mono (hc.R (Kd.R_types (Kd.R_types (Kd.R_bound h.h7) h.bm (by decide)) h.bz (by decide)) (fun k hk q => hk.1.1.1 q)) (fun k hk => ⟨⟨by have := hk.1.1.2.1; omega, hk.2⟩, hk.1.2⟩))
theorem Ms.roots (h : Ms b0 s1 gz gm gw cW gc cC W v5 v7 cs ws y t o cards rt) (hg : W.grownBy w1 v7.ownBlock) {rt' : List Int} (hv : Kd.R (Kd.int .i64) 3 w1 s1 (fun k => k ≠ gw ∧ k ≠ gc) v rt') (hl : rt'.length ≤ 100) :
  Dm w1 b0 (fun k => b0 ≤ k ∧ k ≠ gz) v5 (.slice (some ⟨gw, 0, none⟩) ws.length cW) (.slice (some ⟨gc, 0, none⟩) cards.length cC) v cs ws cards rt' ∧ w1.heap[gm]? = some (.cells #[.slice (some ⟨gw, 0, none⟩) ws.length cW, .int .i64 y, .int .i64 t, .int .i64 o, .slice (some ⟨gc, 0, none⟩) cards.length cC] 27 (0, 0)) ∧ w1.heap[gz]? = some (.cells #[.slice none 0 0, .int .i64 0, .int .i64 0, .int .i64 0, .slice none 0 0] 27 (0, 0)) := by
 have a := h.om.bw; have b := h.om.bc; have c := h.ge; have n := h.om.nbox h.bm; have n2 := h.om.nbox h.bz
 have hc : Ch (fun k => v7.ownBlock = some k) W w1 := (Ch.refl _ W).grown hg (fun k e => .inl e)
 have hb := Kd.R_base h.h7
 have hz := hc.blk h.bz (fun e => Kd.R_ne h.h7 h.bz (by decide) e.symm)
 refine ⟨⟨Kd.V_mono (Kd.V_kept h.h5 hc.kept (fun k hk q => by have := hb k q; omega)) (fun k hk => ⟨by omega, by omega⟩), Kd.R_V (Kd.R_mono (hc.R h.om.hw (fun k hk q => (h.r7.1 k q).1 hk)) (fun k hk => ⟨by omega, by omega⟩)), Kd.R_V (Kd.R_mono (hc.R h.om.hc (fun k hk q => (h.r7.1 k q).2 hk)) (fun k hk => ⟨by omega, by omega⟩)), ?_, h.l5, ⟨by have := h.l0; omega, by have := h.l0; omega⟩, by have := h.l4; omega, hl⟩, hc.blk h.bm (fun e => Kd.R_ne h.h7 h.bm (by decide) e.symm), hz⟩
 exact Kd.R_V (Kd.R_mono (Kd.R_types (Kd.R_bound hv) hz (by decide)) (fun k hk => ⟨by have := hk.1.2.1; omega, hk.2⟩))
end
end Go.Proofs.Ytfbkpjjnhengfaa.K
