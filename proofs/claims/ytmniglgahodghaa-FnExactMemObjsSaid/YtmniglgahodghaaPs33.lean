import Derived.Test.YtmniglgahodghaaPs24
import Derived.Test.YtmniglgahodghaaPs32
import Derived.Test.YtmniglgahodghaaPs30
import Derived.Test.YtmniglgahodghaaPs31
namespace Go.Proofs.Ytmniglgahodghaa.K
open Go.RowKit Go.Proofs.YtmniglgahodghaaW.PrintWords Go.Proofs.YtmniglgahodghaaW.PrintLast Go.Proofs.YtmniglgahodghaaW.PrintMore
attribute [local go_sem] max2_int min2_int max_two min_two max_three min_three max_four min_four
set_option linter.unusedVariables false
set_option linter.unusedSimpArgs false
def cardOk (m : Mm) (at_ v x : Int) : Option Bool := if at_ > m.young then (if v > m.young then some true else (if 0 ≤ wrap64 (Int.tdiv (wrap64 (x - m.young)) 4) ∧ wrap64 (Int.tdiv (wrap64 (x - m.young)) 4) < m.cards.length then some (rdOf false m.cards (wrap64 (Int.tdiv (wrap64 (x - m.young)) 4))) else none)) else some true
def wordAt (q : Nat) (m : Mm) (at_ k : Int) : Option Bool := (thing_first.f m at_).bind fun a => if 0 ≤ a + k ∧ a + k < m.words.length then (thing_leads.f m at_ k).bind fun b => if b = true then (if rd m.words (a + k) = 0 then some true else (memory_has.f q m (rd m.words (a + k))).bind fun h => if h = true then cardOk m at_ (rd m.words (a + k)) (a + k) else some false) else impl_isWord.f (rd m.words (a + k)) else none
def wordsOk.l (q : Nat) (m : Mm) (at_ n : Int) : Nat → Int → Option Bool
  | 0, _ => none
  | j + 1, k => if k < n then (wordAt q m at_ k).bind fun ok => if ok = true then wordsOk.l q m at_ n j (k + 1) else some false else some true
def wordsOk.f (q : Nat) (m : Mm) (at_ : Int) : Option Bool := (thing_count.f m at_).bind fun n => if n ≤ 1099511627776 then wordsOk.l q m at_ n (n.toNat + 1) 0 else none
set_option maxHeartbeats 32000000 in
set_option maxRecDepth 100000 in
theorem thing_wordsOk.calls (q g : Nat) (m : Mm) (at_ : Int) (r : Bool) (w : World) (hm : MV w g m) (h : wordsOk.f q m at_ = some r) :
  Calls Try.prog 79 #[thV g at_] w fun e w' => e = .returned (.bool r) ∧ Below w.heap.size w w' := by
 unfold wordsOk.f at h
 obtain ⟨n, hn, h⟩ := Option.bind_eq_some_iff.mp h
 split at h
 case isFalse => simp at h
 case isTrue hn2 =>
 have HN := Aside0.mk hn
 have HM := Aside0.mk hm
 have HA := Aside0.mk h
 have HN2 := Aside0.mk hn2
 clear hm hn h hn2
 unfold thV
 go_enter Try.func79, Try.ntmps79
 go_wp2_with fail
 go_at_call 81
 refine (thing_count.calls g m at_ n _ (MV_below HM.out (below_alloc (Below.refl _ _) _)) HN.out).mono ?_
 rintro e w1 ⟨rfl, hb⟩
 have HB1 := Aside0.mk (below_step (below_alloc (Below.refl _ _) _) hb : Below w.heap.size w w1)
 have HX1 := Aside0.mk (box_new hb)
 clear hb
 go_wp2
 go_loopw [8] (fun i wr => ∃ (j : Nat) (k : Int), i = .int .i64 k ∧ Aside0 (wordsOk.l q m at_ n j k = some r) ∧ Aside0 (0 ≤ k) ∧ Aside0 (wr.heap[w.heap.size]? = some (.cells #[.pointer (some ⟨g, 0, none⟩), .int .i64 at_] 104 (0, 0))) ∧ Aside0 (Below w.heap.size w wr)) (fun i _ => (n - intOf i).toNat)
 case atStart => exact ⟨n.toNat + 1, 0, rfl, HA, ⟨Int.le_refl _⟩, HX1, HB1⟩
 case round =>
  clear HA HX1 HB1
  obtain ⟨j, k, rfl, HA, HK, HX, HB⟩ := hrel
  cases j with
  | zero => exact absurd HA.out (by simp [wordsOk.l])
  | succ j1 =>
   have H := HA.out
   clear HA
   unfold wordsOk.l at H
   by_cases c0 : k < n
   case neg =>
    rw [if_neg c0] at H
    have d0 : decide (k < n) = false := decide_eq_false c0
    have HR := Aside0.mk (Option.some.inj H)
    clear H c0
    go_wp2
    go_ret
    exact ⟨by rw [← HR.out]; rfl, HB.out⟩
   case pos =>
    rw [if_pos c0] at H
    have d0 : decide (k < n) = true := decide_eq_true c0
    obtain ⟨ok, hk, H⟩ := Option.bind_eq_some_iff.mp H
    unfold wordAt at hk
    obtain ⟨a, ha, hk⟩ := Option.bind_eq_some_iff.mp hk
    split at hk
    case isFalse => simp at hk
    case isTrue hx =>
    obtain ⟨b, hb, hk⟩ := Option.bind_eq_some_iff.mp hk
    have lf := thing_first_lt ha
    have HFi := Aside0.mk ha
    have HLe := Aside0.mk hb
    obtain ⟨x, hx0⟩ : ∃ x, x = a + k := ⟨_, rfl⟩
    have q1 : IntKind.i64.wrap (a + k) = x := by rw [hx0]; exact IntWalk.i64_in _ ⟨by omega, by omega⟩
    rw [← hx0] at hk hx
    obtain ⟨v, hv⟩ : ∃ v, v = rd m.words x := ⟨_, rfl⟩
    rw [← hv] at hk
    have HV := Aside0.mk hv
    have p1 := eq_true hx.1
    have p2 := eq_true hx.2
    have HXw := Aside0.mk (show x < (m.words.length : Int) ∧ 0 ≤ x from ⟨hx.2, hx.1⟩)
    have HLf := Aside0.mk lf
    have HC0 := Aside0.mk c0
    obtain ⟨k1, hk1⟩ : ∃ k1, k1 = k + 1 := ⟨_, rfl⟩
    have q2 : IntKind.i64.wrap (k + 1) = k1 := by rw [hk1]; exact IntWalk.i64_in _ ⟨by have := HK.out; omega, by have := HN2.out; omega⟩
    have HK1 := Aside0.mk hk1
    rw [← hk1] at H
    have HH := Aside0.mk H
    have HQ := Aside0.mk hk
    clear ha hb hx0 hx hv lf c0 hk1 H hk
    cases b with
    | false =>
     have hq := HQ.out
     rw [if_neg (by simp)] at hq
     have HQ2 := Aside0.mk hq
     clear hq HQ
     cases ok with
     | false =>
      have HZ := Aside0.mk (show false = r by have := HH.out; rw [if_neg (by simp)] at this; exact Option.some.inj this)
      clear HH
      have b0 := (blk_cell HX.out 0).trans rfl
      have b1 := (blk_cell HX.out 1).trans rfl
      go_wp2_with fail
      go_at_call 82
      refine (thing_first.calls g m at_ a _ (MV_below HM.out HB.out) HFi.out).mono ?_
      rintro e w2 ⟨rfl, hb⟩
      clear b0 b1
      have HBn := Aside0.mk (below_step HB.out hb)
      have HXn := Aside0.mk ((hb.block _ (blk_lt HX.out)).trans HX.out)
      clear hb HB HX
      have HB := HBn
      have HX := HXn
      clear HBn HXn
      have b0 := (blk_cell HX.out 0).trans rfl
      have b1 := (blk_cell HX.out 1).trans rfl
      obtain ⟨AW, cW, AC, cC, AF, cF, AB, cB, h0, hW, hC, _⟩ := MV_below HM.out HB.out
      obtain ⟨ad, e0, hcell⟩ := Kd.at_int hW x (by have := HXw.out; omega) (by have := HXw.out; omega)
      cases e0
      rw [← HV.out] at hcell
      have g0 := (blk_cell h0 0).trans rfl
      have G0 := Aside0.mk h0
      have HCc := Aside0.mk hC
      clear h0 hW hC
      go_wp2_with fail
      go_at_call 83
      refine (thing_leads.calls g m at_ k false _ (MV_below HM.out HB.out) HLe.out).mono ?_
      rintro e w3 ⟨rfl, hb⟩
      clear b0 b1 hcell g0
      have G0n := Aside0.mk ((hb.block _ (blk_lt G0.out)).trans G0.out)
      have HCn := Aside0.mk (Kd.C_below HCc.out hb)
      clear G0 HCc
      have G0 := G0n
      have HCc := HCn
      clear G0n HCn
      have HBn := Aside0.mk (below_step HB.out hb)
      have HXn := Aside0.mk ((hb.block _ (blk_lt HX.out)).trans HX.out)
      clear hb HB HX
      have HB := HBn
      have HX := HXn
      clear HBn HXn
      go_wp2_with (go_at_call 86; refine (impl_isWord.calls v false _ HQ2.out).mono ?_; rintro e w4 ⟨rfl, hd⟩; have hb := hd.below; have HBn := Aside0.mk (below_step HB.out hb); have HXn := Aside0.mk ((hb.block _ (blk_lt HX.out)).trans HX.out); clear hd hb HB HX; have HB := HBn; have HX := HXn; clear HBn HXn)
      go_ret
      exact ⟨by rw [← HZ.out]; rfl, HB.out⟩
     | true =>
      have HZ := Aside0.mk (show wordsOk.l q m at_ n j1 k1 = some r by have := HH.out; rw [if_pos rfl] at this; exact this)
      clear HH
      have b0 := (blk_cell HX.out 0).trans rfl
      have b1 := (blk_cell HX.out 1).trans rfl
      go_wp2_with fail
      go_at_call 82
      refine (thing_first.calls g m at_ a _ (MV_below HM.out HB.out) HFi.out).mono ?_
      rintro e w2 ⟨rfl, hb⟩
      clear b0 b1
      have HBn := Aside0.mk (below_step HB.out hb)
      have HXn := Aside0.mk ((hb.block _ (blk_lt HX.out)).trans HX.out)
      clear hb HB HX
      have HB := HBn
      have HX := HXn
      clear HBn HXn
      have b0 := (blk_cell HX.out 0).trans rfl
      have b1 := (blk_cell HX.out 1).trans rfl
      obtain ⟨AW, cW, AC, cC, AF, cF, AB, cB, h0, hW, hC, _⟩ := MV_below HM.out HB.out
      obtain ⟨ad, e0, hcell⟩ := Kd.at_int hW x (by have := HXw.out; omega) (by have := HXw.out; omega)
      cases e0
      rw [← HV.out] at hcell
      have g0 := (blk_cell h0 0).trans rfl
      have G0 := Aside0.mk h0
      have HCc := Aside0.mk hC
      clear h0 hW hC
      go_wp2_with fail
      go_at_call 83
      refine (thing_leads.calls g m at_ k false _ (MV_below HM.out HB.out) HLe.out).mono ?_
      rintro e w3 ⟨rfl, hb⟩
      clear b0 b1 hcell g0
      have G0n := Aside0.mk ((hb.block _ (blk_lt G0.out)).trans G0.out)
      have HCn := Aside0.mk (Kd.C_below HCc.out hb)
      clear G0 HCc
      have G0 := G0n
      have HCc := HCn
      clear G0n HCn
      have HBn := Aside0.mk (below_step HB.out hb)
      have HXn := Aside0.mk ((hb.block _ (blk_lt HX.out)).trans HX.out)
      clear hb HB HX
      have HB := HBn
      have HX := HXn
      clear HBn HXn
      go_wp2_with (go_at_call 86; refine (impl_isWord.calls v true _ HQ2.out).mono ?_; rintro e w4 ⟨rfl, hd⟩; have hb := hd.below; have HBn := Aside0.mk (below_step HB.out hb); have HXn := Aside0.mk ((hb.block _ (blk_lt HX.out)).trans HX.out); clear hd hb HB HX; have HB := HBn; have HX := HXn; clear HBn HXn)
      go_roundw
      case rel => exact ⟨j1, k1, rfl, HZ, ⟨by have := HK1.out; have := HK.out; omega⟩, HX, HB⟩
      case measure => have := HK1.out; have := HC0.out; have := HK.out; show (n - k1).toNat < (n - k).toNat; omega
    | true =>
     have hq := HQ.out
     rw [if_pos rfl] at hq
     by_cases c1 : v = 0
     ·rw [if_pos c1] at hq
      have e1 : (v != 0) = false := by rw [c1]; rfl
      have HQ2 := Aside0.mk (Option.some.inj hq)
      clear hq HQ c1
      obtain rfl := HQ2.out
      have HZ := Aside0.mk (show wordsOk.l q m at_ n j1 k1 = some r by have := HH.out; rw [if_pos rfl] at this; exact this)
      clear HH
      have b0 := (blk_cell HX.out 0).trans rfl
      have b1 := (blk_cell HX.out 1).trans rfl
      go_wp2_with fail
      go_at_call 82
      refine (thing_first.calls g m at_ a _ (MV_below HM.out HB.out) HFi.out).mono ?_
      rintro e w2 ⟨rfl, hb⟩
      clear b0 b1
      have HBn := Aside0.mk (below_step HB.out hb)
      have HXn := Aside0.mk ((hb.block _ (blk_lt HX.out)).trans HX.out)
      clear hb HB HX
      have HB := HBn
      have HX := HXn
      clear HBn HXn
      have b0 := (blk_cell HX.out 0).trans rfl
      have b1 := (blk_cell HX.out 1).trans rfl
      obtain ⟨AW, cW, AC, cC, AF, cF, AB, cB, h0, hW, hC, _⟩ := MV_below HM.out HB.out
      obtain ⟨ad, e0, hcell⟩ := Kd.at_int hW x (by have := HXw.out; omega) (by have := HXw.out; omega)
      cases e0
      rw [← HV.out] at hcell
      have g0 := (blk_cell h0 0).trans rfl
      have G0 := Aside0.mk h0
      have HCc := Aside0.mk hC
      clear h0 hW hC
      go_wp2_with fail
      go_at_call 83
      refine (thing_leads.calls g m at_ k true _ (MV_below HM.out HB.out) HLe.out).mono ?_
      rintro e w3 ⟨rfl, hb⟩
      clear b0 b1 hcell g0
      have G0n := Aside0.mk ((hb.block _ (blk_lt G0.out)).trans G0.out)
      have HCn := Aside0.mk (Kd.C_below HCc.out hb)
      clear G0 HCc
      have G0 := G0n
      have HCc := HCn
      clear G0n HCn
      have HBn := Aside0.mk (below_step HB.out hb)
      have HXn := Aside0.mk ((hb.block _ (blk_lt HX.out)).trans HX.out)
      clear hb HB HX
      have HB := HBn
      have HX := HXn
      clear HBn HXn
      go_wp2
      go_roundw
      case rel => exact ⟨j1, k1, rfl, HZ, ⟨by have := HK1.out; have := HK.out; omega⟩, HX, HB⟩
      case measure => have := HK1.out; have := HC0.out; have := HK.out; show (n - k1).toNat < (n - k).toNat; omega
     rw [if_neg c1] at hq
     have e1 : (v != 0) = true := bne_iff_ne.mpr c1
     obtain ⟨h, hh, hq⟩ := Option.bind_eq_some_iff.mp hq
     have HHa := Aside0.mk hh
     clear hh c1 HQ
     cases h with
     | false =>
      rw [if_neg (by simp)] at hq
      have HQ2 := Aside0.mk (Option.some.inj hq)
      clear hq
      obtain rfl := HQ2.out
      have HZ := Aside0.mk (show false = r by have := HH.out; rw [if_neg (by simp)] at this; exact Option.some.inj this)
      clear HH
      have b0 := (blk_cell HX.out 0).trans rfl
      have b1 := (blk_cell HX.out 1).trans rfl
      go_wp2_with fail
      go_at_call 82
      refine (thing_first.calls g m at_ a _ (MV_below HM.out HB.out) HFi.out).mono ?_
      rintro e w2 ⟨rfl, hb⟩
      clear b0 b1
      have HBn := Aside0.mk (below_step HB.out hb)
      have HXn := Aside0.mk ((hb.block _ (blk_lt HX.out)).trans HX.out)
      clear hb HB HX
      have HB := HBn
      have HX := HXn
      clear HBn HXn
      have b0 := (blk_cell HX.out 0).trans rfl
      have b1 := (blk_cell HX.out 1).trans rfl
      obtain ⟨AW, cW, AC, cC, AF, cF, AB, cB, h0, hW, hC, _⟩ := MV_below HM.out HB.out
      obtain ⟨ad, e0, hcell⟩ := Kd.at_int hW x (by have := HXw.out; omega) (by have := HXw.out; omega)
      cases e0
      rw [← HV.out] at hcell
      have g0 := (blk_cell h0 0).trans rfl
      have G0 := Aside0.mk h0
      have HCc := Aside0.mk hC
      clear h0 hW hC
      go_wp2_with fail
      go_at_call 83
      refine (thing_leads.calls g m at_ k true _ (MV_below HM.out HB.out) HLe.out).mono ?_
      rintro e w3 ⟨rfl, hb⟩
      clear b0 b1 hcell g0
      have G0n := Aside0.mk ((hb.block _ (blk_lt G0.out)).trans G0.out)
      have HCn := Aside0.mk (Kd.C_below HCc.out hb)
      clear G0 HCc
      have G0 := G0n
      have HCc := HCn
      clear G0n HCn
      have HBn := Aside0.mk (below_step HB.out hb)
      have HXn := Aside0.mk ((hb.block _ (blk_lt HX.out)).trans HX.out)
      clear hb HB HX
      have HB := HBn
      have HX := HXn
      clear HBn HXn
      have b0 := (blk_cell HX.out 0).trans rfl
      have b1 := (blk_cell HX.out 1).trans rfl
      go_wp2_with (go_at_call 80; refine (memory_has.calls q g m v false _ (MV_below HM.out HB.out) HHa.out).mono ?_; rintro e w5 ⟨rfl, hd⟩; have hb := hd.below; have HBn := Aside0.mk (below_step HB.out hb); have HXn := Aside0.mk ((hb.block _ (blk_lt HX.out)).trans HX.out); have G0n := Aside0.mk ((hb.block _ (blk_lt G0.out)).trans G0.out); have HCn := Aside0.mk (Kd.C_below HCc.out hb); clear hd hb HB HX G0 HCc b0 b1; have HB := HBn; have HX := HXn; have G0 := G0n; have HCc := HCn; clear HBn HXn G0n HCn)
      go_ret
      exact ⟨by rw [← HZ.out]; rfl, HB.out⟩
     | true =>
      rw [if_pos rfl] at hq
      unfold cardOk at hq
      by_cases c2 : at_ > m.young
      ·rw [if_pos c2] at hq
       have O1 := Aside0.mk (decide_eq_true c2)
       clear c2
       by_cases c3 : v > m.young
       ·rw [if_pos c3] at hq
        have O2 := Aside0.mk (decide_eq_true c3)
        have HQ2 := Aside0.mk (Option.some.inj hq)
        clear hq c3
        obtain rfl := HQ2.out
        have HZ := Aside0.mk (show wordsOk.l q m at_ n j1 k1 = some r by have := HH.out; rw [if_pos rfl] at this; exact this)
        clear HH
        have b0 := (blk_cell HX.out 0).trans rfl
        have b1 := (blk_cell HX.out 1).trans rfl
        go_wp2_with fail
        go_at_call 82
        refine (thing_first.calls g m at_ a _ (MV_below HM.out HB.out) HFi.out).mono ?_
        rintro e w2 ⟨rfl, hb⟩
        clear b0 b1
        have HBn := Aside0.mk (below_step HB.out hb)
        have HXn := Aside0.mk ((hb.block _ (blk_lt HX.out)).trans HX.out)
        clear hb HB HX
        have HB := HBn
        have HX := HXn
        clear HBn HXn
        have b0 := (blk_cell HX.out 0).trans rfl
        have b1 := (blk_cell HX.out 1).trans rfl
        obtain ⟨AW, cW, AC, cC, AF, cF, AB, cB, h0, hW, hC, _⟩ := MV_below HM.out HB.out
        obtain ⟨ad, e0, hcell⟩ := Kd.at_int hW x (by have := HXw.out; omega) (by have := HXw.out; omega)
        cases e0
        rw [← HV.out] at hcell
        have g0 := (blk_cell h0 0).trans rfl
        have G0 := Aside0.mk h0
        have HCc := Aside0.mk hC
        clear h0 hW hC
        go_wp2_with fail
        go_at_call 83
        refine (thing_leads.calls g m at_ k true _ (MV_below HM.out HB.out) HLe.out).mono ?_
        rintro e w3 ⟨rfl, hb⟩
        clear b0 b1 hcell g0
        have G0n := Aside0.mk ((hb.block _ (blk_lt G0.out)).trans G0.out)
        have HCn := Aside0.mk (Kd.C_below HCc.out hb)
        clear G0 HCc
        have G0 := G0n
        have HCc := HCn
        clear G0n HCn
        have HBn := Aside0.mk (below_step HB.out hb)
        have HXn := Aside0.mk ((hb.block _ (blk_lt HX.out)).trans HX.out)
        clear hb HB HX
        have HB := HBn
        have HX := HXn
        clear HBn HXn
        have b0 := (blk_cell HX.out 0).trans rfl
        have b1 := (blk_cell HX.out 1).trans rfl
        go_wp2_with (go_at_call 80; refine (memory_has.calls q g m v true _ (MV_below HM.out HB.out) HHa.out).mono ?_; rintro e w5 ⟨rfl, hd⟩; have hb := hd.below; have HBn := Aside0.mk (below_step HB.out hb); have HXn := Aside0.mk ((hb.block _ (blk_lt HX.out)).trans HX.out); have G0n := Aside0.mk ((hb.block _ (blk_lt G0.out)).trans G0.out); have HCn := Aside0.mk (Kd.C_below HCc.out hb); clear hd hb HB HX G0 HCc b0 b1; have HB := HBn; have HX := HXn; have G0 := G0n; have HCc := HCn; clear HBn HXn G0n HCn; have b0 := (blk_cell HX.out 0).trans rfl; have b1 := (blk_cell HX.out 1).trans rfl; have g0 := (blk_cell G0.out 0).trans rfl; have g1 := (blk_cell G0.out 1).trans rfl; have g2 := (blk_cell G0.out 2).trans rfl; have g3 := (blk_cell G0.out 3).trans rfl; have g4 := (blk_cell G0.out 4).trans rfl; have HM1 := Aside0.mk (MV_below HM.out HB.out); try clear HCc)
        refine start_ (n := 36) (S := fun w' => Aside0 (Below w.heap.size w w') ∧ Aside0 (MV w' g (m)) ∧ Aside0 (w'.heap[w.heap.size]? = some (.cells #[.pointer (some ⟨g, 0, none⟩), .int .i64 at_] 104 (0, 0))) ∧ w'.cell? (⟨w.heap.size, 0, none⟩) = some (.pointer (some ⟨g, 0, none⟩)) ∧ w'.cell? (⟨w.heap.size, 1, none⟩) = some (.int .i64 at_) ∧ w'.cell? (⟨g, 0, none⟩) = some (.slice (some ad) m.words.length cW) ∧ w'.cell? (⟨g, 1, none⟩) = some (.int .i64 m.young) ∧ w'.cell? (⟨g, 2, none⟩) = some (.int .i64 m.top) ∧ w'.cell? (⟨g, 3, none⟩) = some (.int .i64 m.old) ∧ w'.cell? (⟨g, 4, none⟩) = some (.slice AC m.cards.length cC)) (ds := []) #[false, false, false, false, false, false, false, false, false, false, false, false, false, false, false, false, false, false, false, false, false, false, false, false, false, false, false, false, false, false, false, false, false, false, false, false] (by kernel_rfl) rfl rfl ⟨⟨below_drew1 HB.out⟩, ⟨MV_below HM1.out (below_drew1 (Below.refl _ _))⟩, ⟨blk_drew HX.out⟩, (by go_simp), (by go_simp), (by go_simp), (by go_simp), (by go_simp), (by go_simp), (by go_simp)⟩ (fun hHeld => ?_)
        refine pS 0 40 (lA 36 1) ?_
        refine pS 5 45 (lA 36 33) ?_
        refine tS 1 41 (lA 36 35) rfl rfl (by kernel_rfl) hHeld z43 ?_
        refine pS 2 42 (lA 36 39) ?_
        refine pS 3 43 (lA 36 47) ?_
        refine tS 4 44 (lA 36 63) rfl rfl (by kernel_rfl) hHeld z43 ?_
        refine tS 6 46 (lA 36 127) rfl rfl (by kernel_rfl) hHeld z43 ?_
        refine one_ (i := 7) (N := some 47) (lA 36 255) rfl rfl (by kernel_rfl) (by decide) (fun K hK => ?_)
        refine goes_ Try.func84 (by kernel_rfl) rfl #[.agg #[.slice (some ad) m.words.length cW, .int .i64 m.young, .int .i64 m.top, .int .i64 m.old, .slice AC m.cards.length cC], .int .i64 at_] (by rfl) rfl rfl z6 ?_
        with_reducible refine (Mem_isOld.calls (some ad) m.words.length cW m.young m.top m.old AC m.cards.length cC at_ true _ O1.out).mono ?_
        rintro e w9 ⟨rfl, hb3⟩
        refine ⟨_, rfl, ?_⟩
        refine hK.out _ _ ⟨⟨below_step hHeld.1.out hb3⟩, ⟨MV_below hHeld.2.1.out hb3⟩, ⟨(hb3.block _ (blk_lt hHeld.2.2.1.out)).trans hHeld.2.2.1.out⟩, (pw_cell_below hb3 hHeld.2.2.2.1), (pw_cell_below hb3 hHeld.2.2.2.2.1), (pw_cell_below hb3 hHeld.2.2.2.2.2.1), (pw_cell_below hb3 hHeld.2.2.2.2.2.2.1), (pw_cell_below hb3 hHeld.2.2.2.2.2.2.2.1), (pw_cell_below hb3 hHeld.2.2.2.2.2.2.2.2.1), (pw_cell_below hb3 hHeld.2.2.2.2.2.2.2.2.2)⟩ (fun hHeld => ?_)
        clear hK K
        refine norm_ (a' := ?_) ?_ ?_
        rotate_left
        ·show Act.put _ (some 47) _ = _
         simp only [Act.put, lA1, lA2, lA3, i64_w, i32_w]
         rfl
        refine pS 8 48 (lA 36 511) ?_
        refine pS 9 49 (lA 36 1023) ?_
        refine pS 14 54 (lA 36 17407) ?_
        refine tS 10 50 (lA 36 18431) rfl rfl (by kernel_rfl) hHeld z43 ?_
        refine pS 11 51 (lA 36 20479) ?_
        refine pS 12 52 (lA 36 24575) ?_
        refine tS 13 53 (lA 36 32767) rfl rfl (by kernel_rfl) hHeld z43 ?_
        refine one_ (i := 15) (N := some 55) (lA 36 65535) rfl rfl (by kernel_rfl) (by decide) (fun K hK => ?_)
        refine goes_ Try.func84 (by kernel_rfl) rfl #[.agg #[.slice (some ad) m.words.length cW, .int .i64 m.young, .int .i64 m.top, .int .i64 m.old, .slice AC m.cards.length cC], .int .i64 v] (by rfl) rfl rfl z6 ?_
        with_reducible refine (Mem_isOld.calls (some ad) m.words.length cW m.young m.top m.old AC m.cards.length cC v true _ O2.out).mono ?_
        rintro e w9 ⟨rfl, hb3⟩
        refine ⟨_, rfl, ?_⟩
        refine hK.out _ _ ⟨⟨below_step hHeld.1.out hb3⟩, ⟨MV_below hHeld.2.1.out hb3⟩, ⟨(hb3.block _ (blk_lt hHeld.2.2.1.out)).trans hHeld.2.2.1.out⟩, (pw_cell_below hb3 hHeld.2.2.2.1), (pw_cell_below hb3 hHeld.2.2.2.2.1), (pw_cell_below hb3 hHeld.2.2.2.2.2.1), (pw_cell_below hb3 hHeld.2.2.2.2.2.2.1), (pw_cell_below hb3 hHeld.2.2.2.2.2.2.2.1), (pw_cell_below hb3 hHeld.2.2.2.2.2.2.2.2.1), (pw_cell_below hb3 hHeld.2.2.2.2.2.2.2.2.2)⟩ (fun hHeld => ?_)
        clear hK K
        refine norm_ (a' := ?_) ?_ ?_
        rotate_left
        ·show Act.put _ (some 55) _ = _
         simp only [Act.put, lA1, lA2, lA3, i64_w, i32_w]
         rfl
        refine pS 16 56 (lA 36 131071) ?_
        refine pS 17 57 (lA 36 262143) ?_
        refine pS 18 58 (lA 36 524287) ?_
        refine pU 19 59 (lA 36 1048575) ?_
        refine pU 20 60 (lA 36 2097151) ?_
        refine pU 21 61 (lA 36 4194303) ?_
        refine pU 22 62 (lA 36 8388607) ?_
        refine pU 23 63 (lA 36 16777215) ?_
        refine pU 24 64 (lA 36 33554431) ?_
        refine pU 25 65 (lA 36 67108863) ?_
        refine pU 26 66 (lA 36 134217727) ?_
        refine pU 27 67 (lA 36 268435455) ?_
        refine pU 28 68 (lA 36 536870911) ?_
        refine pU 29 69 (lA 36 1073741823) ?_
        refine pU 30 70 (lA 36 2147483647) ?_
        refine pU 31 71 (lA 36 4294967295) ?_
        refine pU 32 72 (lA 36 8589934591) ?_
        refine pU 33 73 (lA 36 17179869183) ?_
        refine pU 34 74 (lA 36 34359738367) ?_
        refine pS 35 75 (lA 36 68719476735) ?_
        refine done_ (by kernel_rfl) ?_
        have HBn := hHeld.1
        have HXn := hHeld.2.2.1
        clear hHeld HB HX
        have HB := HBn
        have HX := HXn
        clear HBn HXn
        go_wp2
        go_roundw
        case rel => exact ⟨j1, k1, rfl, HZ, ⟨by have := HK1.out; have := HK.out; omega⟩, HX, HB⟩
        case measure => have := HK1.out; have := HC0.out; have := HK.out; show (n - k1).toNat < (n - k).toNat; omega
       ·rw [if_neg c3] at hq
        have O2 := Aside0.mk (decide_eq_false c3)
        clear c3
        obtain ⟨cj, hcj⟩ : ∃ cj, cj = wrap64 (x - m.young) := ⟨_, rfl⟩
        obtain ⟨ci, hci⟩ : ∃ ci, ci = wrap64 (Int.tdiv cj 4) := ⟨_, rfl⟩
        rw [← hcj, ← hci] at hq
        have O3 := Aside0.mk (show IntKind.i64.wrap (x - m.young) = cj by rw [hcj, i64_w])
        have O4 := Aside0.mk (show wrap64 (Int.tdiv cj 4) = ci from hci.symm)
        clear hcj hci
        split at hq
        case isFalse => simp at hq
        case isTrue ht =>
        have t1 := eq_true ht.1
        have t2 := eq_true ht.2
        obtain ⟨cv, hcv⟩ : ∃ cv, cv = rdOf false m.cards ci := ⟨_, rfl⟩
        rw [← hcv] at hq
        have O5 := Aside0.mk hcv.symm
        have HQ2 := Aside0.mk (Option.some.inj hq)
        clear hq ht hcv
        obtain rfl := HQ2.out
        cases cv with
        | false =>
         have HZ := Aside0.mk (show false = r by have := HH.out; rw [if_neg (by simp)] at this; exact Option.some.inj this)
         clear HH
         have b0 := (blk_cell HX.out 0).trans rfl
         have b1 := (blk_cell HX.out 1).trans rfl
         go_wp2_with fail
         go_at_call 82
         refine (thing_first.calls g m at_ a _ (MV_below HM.out HB.out) HFi.out).mono ?_
         rintro e w2 ⟨rfl, hb⟩
         clear b0 b1
         have HBn := Aside0.mk (below_step HB.out hb)
         have HXn := Aside0.mk ((hb.block _ (blk_lt HX.out)).trans HX.out)
         clear hb HB HX
         have HB := HBn
         have HX := HXn
         clear HBn HXn
         have b0 := (blk_cell HX.out 0).trans rfl
         have b1 := (blk_cell HX.out 1).trans rfl
         obtain ⟨AW, cW, AC, cC, AF, cF, AB, cB, h0, hW, hC, _⟩ := MV_below HM.out HB.out
         obtain ⟨ad, e0, hcell⟩ := Kd.at_int hW x (by have := HXw.out; omega) (by have := HXw.out; omega)
         cases e0
         rw [← HV.out] at hcell
         have g0 := (blk_cell h0 0).trans rfl
         have G0 := Aside0.mk h0
         have HCc := Aside0.mk hC
         clear h0 hW hC
         go_wp2_with fail
         go_at_call 83
         refine (thing_leads.calls g m at_ k true _ (MV_below HM.out HB.out) HLe.out).mono ?_
         rintro e w3 ⟨rfl, hb⟩
         clear b0 b1 hcell g0
         have G0n := Aside0.mk ((hb.block _ (blk_lt G0.out)).trans G0.out)
         have HCn := Aside0.mk (Kd.C_below HCc.out hb)
         clear G0 HCc
         have G0 := G0n
         have HCc := HCn
         clear G0n HCn
         have HBn := Aside0.mk (below_step HB.out hb)
         have HXn := Aside0.mk ((hb.block _ (blk_lt HX.out)).trans HX.out)
         clear hb HB HX
         have HB := HBn
         have HX := HXn
         clear HBn HXn
         have b0 := (blk_cell HX.out 0).trans rfl
         have b1 := (blk_cell HX.out 1).trans rfl
         go_wp2_with (go_at_call 80; refine (memory_has.calls q g m v true _ (MV_below HM.out HB.out) HHa.out).mono ?_; rintro e w5 ⟨rfl, hd⟩; have hb := hd.below; have HBn := Aside0.mk (below_step HB.out hb); have HXn := Aside0.mk ((hb.block _ (blk_lt HX.out)).trans HX.out); have G0n := Aside0.mk ((hb.block _ (blk_lt G0.out)).trans G0.out); have HCn := Aside0.mk (Kd.C_below HCc.out hb); clear hd hb HB HX G0 HCc b0 b1; have HB := HBn; have HX := HXn; have G0 := G0n; have HCc := HCn; clear HBn HXn G0n HCn; have b0 := (blk_cell HX.out 0).trans rfl; have b1 := (blk_cell HX.out 1).trans rfl; have g0 := (blk_cell G0.out 0).trans rfl; have g1 := (blk_cell G0.out 1).trans rfl; have g2 := (blk_cell G0.out 2).trans rfl; have g3 := (blk_cell G0.out 3).trans rfl; have g4 := (blk_cell G0.out 4).trans rfl; have HM1 := Aside0.mk (MV_below HM.out HB.out); obtain ⟨ad4, e4, hc4⟩ := Kd.at_bool HCc.out ci (of_eq_true t1) (of_eq_true t2); cases e4; rw [O5.out] at hc4; try clear HCc)
         refine start_ (n := 36) (S := fun w' => Aside0 (Below w.heap.size w w') ∧ Aside0 (MV w' g (m)) ∧ Aside0 (w'.heap[w.heap.size]? = some (.cells #[.pointer (some ⟨g, 0, none⟩), .int .i64 at_] 104 (0, 0))) ∧ w'.cell? (⟨w.heap.size, 0, none⟩) = some (.pointer (some ⟨g, 0, none⟩)) ∧ w'.cell? (⟨w.heap.size, 1, none⟩) = some (.int .i64 at_) ∧ w'.cell? (⟨g, 0, none⟩) = some (.slice (some ad) m.words.length cW) ∧ w'.cell? (⟨g, 1, none⟩) = some (.int .i64 m.young) ∧ w'.cell? (⟨g, 2, none⟩) = some (.int .i64 m.top) ∧ w'.cell? (⟨g, 3, none⟩) = some (.int .i64 m.old) ∧ w'.cell? (⟨g, 4, none⟩) = some (.slice (some ad4) m.cards.length cC) ∧ w'.cell? (ad4.add ci.toNat) = some (.bool false)) (ds := []) #[false, false, false, false, false, false, false, false, false, false, false, false, false, false, false, false, false, false, false, false, false, false, false, false, false, false, false, false, false, false, false, false, false, false, false, false] (by kernel_rfl) rfl rfl ⟨⟨below_drew1 HB.out⟩, ⟨MV_below HM1.out (below_drew1 (Below.refl _ _))⟩, ⟨blk_drew HX.out⟩, (by go_simp), (by go_simp), (by go_simp), (by go_simp), (by go_simp), (by go_simp), (by go_simp), (by go_simp)⟩ (fun hHeld => ?_)
         refine pS 0 40 (lA 36 1) ?_
         refine pS 5 45 (lA 36 33) ?_
         refine tS 1 41 (lA 36 35) rfl rfl (by kernel_rfl) hHeld z11 ?_
         refine pS 2 42 (lA 36 39) ?_
         refine pS 3 43 (lA 36 47) ?_
         refine tS 4 44 (lA 36 63) rfl rfl (by kernel_rfl) hHeld z11 ?_
         refine tS 6 46 (lA 36 127) rfl rfl (by kernel_rfl) hHeld z11 ?_
         refine one_ (i := 7) (N := some 47) (lA 36 255) rfl rfl (by kernel_rfl) (by decide) (fun K hK => ?_)
         refine goes_ Try.func84 (by kernel_rfl) rfl #[.agg #[.slice (some ad) m.words.length cW, .int .i64 m.young, .int .i64 m.top, .int .i64 m.old, .slice (some ad4) m.cards.length cC], .int .i64 at_] (by rfl) rfl rfl z6 ?_
         with_reducible refine (Mem_isOld.calls (some ad) m.words.length cW m.young m.top m.old (some ad4) m.cards.length cC at_ true _ O1.out).mono ?_
         rintro e w9 ⟨rfl, hb3⟩
         refine ⟨_, rfl, ?_⟩
         refine hK.out _ _ ⟨⟨below_step hHeld.1.out hb3⟩, ⟨MV_below hHeld.2.1.out hb3⟩, ⟨(hb3.block _ (blk_lt hHeld.2.2.1.out)).trans hHeld.2.2.1.out⟩, (pw_cell_below hb3 hHeld.2.2.2.1), (pw_cell_below hb3 hHeld.2.2.2.2.1), (pw_cell_below hb3 hHeld.2.2.2.2.2.1), (pw_cell_below hb3 hHeld.2.2.2.2.2.2.1), (pw_cell_below hb3 hHeld.2.2.2.2.2.2.2.1), (pw_cell_below hb3 hHeld.2.2.2.2.2.2.2.2.1), (pw_cell_below hb3 hHeld.2.2.2.2.2.2.2.2.2.1), (pw_cell_below hb3 hHeld.2.2.2.2.2.2.2.2.2.2)⟩ (fun hHeld => ?_)
         clear hK K
         refine norm_ (a' := ?_) ?_ ?_
         rotate_left
         ·show Act.put _ (some 47) _ = _
          simp only [Act.put, lA1, lA2, lA3, i64_w, i32_w]
          rfl
         refine pS 8 48 (lA 36 511) ?_
         refine pS 9 49 (lA 36 1023) ?_
         refine pS 14 54 (lA 36 17407) ?_
         refine tS 10 50 (lA 36 18431) rfl rfl (by kernel_rfl) hHeld z11 ?_
         refine pS 11 51 (lA 36 20479) ?_
         refine pS 12 52 (lA 36 24575) ?_
         refine tS 13 53 (lA 36 32767) rfl rfl (by kernel_rfl) hHeld z11 ?_
         refine one_ (i := 15) (N := some 55) (lA 36 65535) rfl rfl (by kernel_rfl) (by decide) (fun K hK => ?_)
         refine goes_ Try.func84 (by kernel_rfl) rfl #[.agg #[.slice (some ad) m.words.length cW, .int .i64 m.young, .int .i64 m.top, .int .i64 m.old, .slice (some ad4) m.cards.length cC], .int .i64 v] (by rfl) rfl rfl z6 ?_
         with_reducible refine (Mem_isOld.calls (some ad) m.words.length cW m.young m.top m.old (some ad4) m.cards.length cC v false _ O2.out).mono ?_
         rintro e w9 ⟨rfl, hb3⟩
         refine ⟨_, rfl, ?_⟩
         refine hK.out _ _ ⟨⟨below_step hHeld.1.out hb3⟩, ⟨MV_below hHeld.2.1.out hb3⟩, ⟨(hb3.block _ (blk_lt hHeld.2.2.1.out)).trans hHeld.2.2.1.out⟩, (pw_cell_below hb3 hHeld.2.2.2.1), (pw_cell_below hb3 hHeld.2.2.2.2.1), (pw_cell_below hb3 hHeld.2.2.2.2.2.1), (pw_cell_below hb3 hHeld.2.2.2.2.2.2.1), (pw_cell_below hb3 hHeld.2.2.2.2.2.2.2.1), (pw_cell_below hb3 hHeld.2.2.2.2.2.2.2.2.1), (pw_cell_below hb3 hHeld.2.2.2.2.2.2.2.2.2.1), (pw_cell_below hb3 hHeld.2.2.2.2.2.2.2.2.2.2)⟩ (fun hHeld => ?_)
         clear hK K
         refine norm_ (a' := ?_) ?_ ?_
         rotate_left
         ·show Act.put _ (some 55) _ = _
          simp only [Act.put, lA1, lA2, lA3, i64_w, i32_w]
          rfl
         refine pS 16 56 (lA 36 131071) ?_
         refine pS 17 57 (lA 36 262143) ?_
         refine pS 18 58 (lA 36 524287) ?_
         refine pS 19 59 (lA 36 1048575) ?_
         refine pS 25 65 (lA 36 34603007) ?_
         refine pS 30 70 (lA 36 1108344831) ?_
         refine tS 20 60 (lA 36 1109393407) rfl rfl (by kernel_rfl) hHeld z11 ?_
         refine pS 21 61 (lA 36 1111490559) ?_
         refine pS 22 62 (lA 36 1115684863) ?_
         refine pS 23 63 (lA 36 1124073471) ?_
         refine tS 24 64 (lA 36 1140850687) rfl rfl (by kernel_rfl) hHeld z11 ?_
         refine tS 26 66 (lA 36 1207959551) rfl rfl (by kernel_rfl) hHeld z11 ?_
         refine pS 27 67 (lA 36 1342177279) ?_
         refine pS 28 68 (lA 36 1610612735) ?_
         refine tS 29 69 (lA 36 2147483647) rfl rfl (by kernel_rfl) hHeld z11 ?_
         refine one_ (i := 31) (N := some 71) (lA 36 4294967295) rfl rfl (by kernel_rfl) (by decide) (fun K hK => ?_)
         refine goes_ Try.func85 (by kernel_rfl) rfl #[.agg #[.slice (some ad) m.words.length cW, .int .i64 m.young, .int .i64 m.top, .int .i64 m.old, .slice (some ad4) m.cards.length cC], .int .i64 x] (by rfl) rfl rfl z6 ?_
         with_reducible refine (Mem_card.calls (some ad) m.words.length cW m.young m.top m.old (some ad4) m.cards.length cC x cj ci _ O3.out O4.out).mono ?_
         rintro e w9 ⟨rfl, hb3⟩
         refine ⟨_, rfl, ?_⟩
         refine hK.out _ _ ⟨⟨below_step hHeld.1.out hb3⟩, ⟨MV_below hHeld.2.1.out hb3⟩, ⟨(hb3.block _ (blk_lt hHeld.2.2.1.out)).trans hHeld.2.2.1.out⟩, (pw_cell_below hb3 hHeld.2.2.2.1), (pw_cell_below hb3 hHeld.2.2.2.2.1), (pw_cell_below hb3 hHeld.2.2.2.2.2.1), (pw_cell_below hb3 hHeld.2.2.2.2.2.2.1), (pw_cell_below hb3 hHeld.2.2.2.2.2.2.2.1), (pw_cell_below hb3 hHeld.2.2.2.2.2.2.2.2.1), (pw_cell_below hb3 hHeld.2.2.2.2.2.2.2.2.2.1), (pw_cell_below hb3 hHeld.2.2.2.2.2.2.2.2.2.2)⟩ (fun hHeld => ?_)
         clear hK K
         refine norm_ (a' := ?_) ?_ ?_
         rotate_left
         ·show Act.put _ (some 71) _ = _
          simp only [Act.put, lA1, lA2, lA3, i64_w, i32_w]
          rfl
         refine pS 32 72 (lA 36 8589934591) ?_
         refine tS 33 73 (lA 36 17179869183) rfl rfl (by kernel_rfl) hHeld z11 ?_
         refine pS 34 74 (lA 36 34359738367) ?_
         refine pS 35 75 (lA 36 68719476735) ?_
         refine done_ (by kernel_rfl) ?_
         have HBn := hHeld.1
         have HXn := hHeld.2.2.1
         clear hHeld HB HX
         have HB := HBn
         have HX := HXn
         clear HBn HXn
         go_wp2
         go_ret
         exact ⟨by rw [← HZ.out]; rfl, HB.out⟩
        | true =>
         have HZ := Aside0.mk (show wordsOk.l q m at_ n j1 k1 = some r by have := HH.out; rw [if_pos rfl] at this; exact this)
         clear HH
         have b0 := (blk_cell HX.out 0).trans rfl
         have b1 := (blk_cell HX.out 1).trans rfl
         go_wp2_with fail
         go_at_call 82
         refine (thing_first.calls g m at_ a _ (MV_below HM.out HB.out) HFi.out).mono ?_
         rintro e w2 ⟨rfl, hb⟩
         clear b0 b1
         have HBn := Aside0.mk (below_step HB.out hb)
         have HXn := Aside0.mk ((hb.block _ (blk_lt HX.out)).trans HX.out)
         clear hb HB HX
         have HB := HBn
         have HX := HXn
         clear HBn HXn
         have b0 := (blk_cell HX.out 0).trans rfl
         have b1 := (blk_cell HX.out 1).trans rfl
         obtain ⟨AW, cW, AC, cC, AF, cF, AB, cB, h0, hW, hC, _⟩ := MV_below HM.out HB.out
         obtain ⟨ad, e0, hcell⟩ := Kd.at_int hW x (by have := HXw.out; omega) (by have := HXw.out; omega)
         cases e0
         rw [← HV.out] at hcell
         have g0 := (blk_cell h0 0).trans rfl
         have G0 := Aside0.mk h0
         have HCc := Aside0.mk hC
         clear h0 hW hC
         go_wp2_with fail
         go_at_call 83
         refine (thing_leads.calls g m at_ k true _ (MV_below HM.out HB.out) HLe.out).mono ?_
         rintro e w3 ⟨rfl, hb⟩
         clear b0 b1 hcell g0
         have G0n := Aside0.mk ((hb.block _ (blk_lt G0.out)).trans G0.out)
         have HCn := Aside0.mk (Kd.C_below HCc.out hb)
         clear G0 HCc
         have G0 := G0n
         have HCc := HCn
         clear G0n HCn
         have HBn := Aside0.mk (below_step HB.out hb)
         have HXn := Aside0.mk ((hb.block _ (blk_lt HX.out)).trans HX.out)
         clear hb HB HX
         have HB := HBn
         have HX := HXn
         clear HBn HXn
         have b0 := (blk_cell HX.out 0).trans rfl
         have b1 := (blk_cell HX.out 1).trans rfl
         go_wp2_with (go_at_call 80; refine (memory_has.calls q g m v true _ (MV_below HM.out HB.out) HHa.out).mono ?_; rintro e w5 ⟨rfl, hd⟩; have hb := hd.below; have HBn := Aside0.mk (below_step HB.out hb); have HXn := Aside0.mk ((hb.block _ (blk_lt HX.out)).trans HX.out); have G0n := Aside0.mk ((hb.block _ (blk_lt G0.out)).trans G0.out); have HCn := Aside0.mk (Kd.C_below HCc.out hb); clear hd hb HB HX G0 HCc b0 b1; have HB := HBn; have HX := HXn; have G0 := G0n; have HCc := HCn; clear HBn HXn G0n HCn; have b0 := (blk_cell HX.out 0).trans rfl; have b1 := (blk_cell HX.out 1).trans rfl; have g0 := (blk_cell G0.out 0).trans rfl; have g1 := (blk_cell G0.out 1).trans rfl; have g2 := (blk_cell G0.out 2).trans rfl; have g3 := (blk_cell G0.out 3).trans rfl; have g4 := (blk_cell G0.out 4).trans rfl; have HM1 := Aside0.mk (MV_below HM.out HB.out); obtain ⟨ad4, e4, hc4⟩ := Kd.at_bool HCc.out ci (of_eq_true t1) (of_eq_true t2); cases e4; rw [O5.out] at hc4; try clear HCc)
         refine start_ (n := 36) (S := fun w' => Aside0 (Below w.heap.size w w') ∧ Aside0 (MV w' g (m)) ∧ Aside0 (w'.heap[w.heap.size]? = some (.cells #[.pointer (some ⟨g, 0, none⟩), .int .i64 at_] 104 (0, 0))) ∧ w'.cell? (⟨w.heap.size, 0, none⟩) = some (.pointer (some ⟨g, 0, none⟩)) ∧ w'.cell? (⟨w.heap.size, 1, none⟩) = some (.int .i64 at_) ∧ w'.cell? (⟨g, 0, none⟩) = some (.slice (some ad) m.words.length cW) ∧ w'.cell? (⟨g, 1, none⟩) = some (.int .i64 m.young) ∧ w'.cell? (⟨g, 2, none⟩) = some (.int .i64 m.top) ∧ w'.cell? (⟨g, 3, none⟩) = some (.int .i64 m.old) ∧ w'.cell? (⟨g, 4, none⟩) = some (.slice (some ad4) m.cards.length cC) ∧ w'.cell? (ad4.add ci.toNat) = some (.bool true)) (ds := []) #[false, false, false, false, false, false, false, false, false, false, false, false, false, false, false, false, false, false, false, false, false, false, false, false, false, false, false, false, false, false, false, false, false, false, false, false] (by kernel_rfl) rfl rfl ⟨⟨below_drew1 HB.out⟩, ⟨MV_below HM1.out (below_drew1 (Below.refl _ _))⟩, ⟨blk_drew HX.out⟩, (by go_simp), (by go_simp), (by go_simp), (by go_simp), (by go_simp), (by go_simp), (by go_simp), (by go_simp)⟩ (fun hHeld => ?_)
         refine pS 0 40 (lA 36 1) ?_
         refine pS 5 45 (lA 36 33) ?_
         refine tS 1 41 (lA 36 35) rfl rfl (by kernel_rfl) hHeld z11 ?_
         refine pS 2 42 (lA 36 39) ?_
         refine pS 3 43 (lA 36 47) ?_
         refine tS 4 44 (lA 36 63) rfl rfl (by kernel_rfl) hHeld z11 ?_
         refine tS 6 46 (lA 36 127) rfl rfl (by kernel_rfl) hHeld z11 ?_
         refine one_ (i := 7) (N := some 47) (lA 36 255) rfl rfl (by kernel_rfl) (by decide) (fun K hK => ?_)
         refine goes_ Try.func84 (by kernel_rfl) rfl #[.agg #[.slice (some ad) m.words.length cW, .int .i64 m.young, .int .i64 m.top, .int .i64 m.old, .slice (some ad4) m.cards.length cC], .int .i64 at_] (by rfl) rfl rfl z6 ?_
         with_reducible refine (Mem_isOld.calls (some ad) m.words.length cW m.young m.top m.old (some ad4) m.cards.length cC at_ true _ O1.out).mono ?_
         rintro e w9 ⟨rfl, hb3⟩
         refine ⟨_, rfl, ?_⟩
         refine hK.out _ _ ⟨⟨below_step hHeld.1.out hb3⟩, ⟨MV_below hHeld.2.1.out hb3⟩, ⟨(hb3.block _ (blk_lt hHeld.2.2.1.out)).trans hHeld.2.2.1.out⟩, (pw_cell_below hb3 hHeld.2.2.2.1), (pw_cell_below hb3 hHeld.2.2.2.2.1), (pw_cell_below hb3 hHeld.2.2.2.2.2.1), (pw_cell_below hb3 hHeld.2.2.2.2.2.2.1), (pw_cell_below hb3 hHeld.2.2.2.2.2.2.2.1), (pw_cell_below hb3 hHeld.2.2.2.2.2.2.2.2.1), (pw_cell_below hb3 hHeld.2.2.2.2.2.2.2.2.2.1), (pw_cell_below hb3 hHeld.2.2.2.2.2.2.2.2.2.2)⟩ (fun hHeld => ?_)
         clear hK K
         refine norm_ (a' := ?_) ?_ ?_
         rotate_left
         ·show Act.put _ (some 47) _ = _
          simp only [Act.put, lA1, lA2, lA3, i64_w, i32_w]
          rfl
         refine pS 8 48 (lA 36 511) ?_
         refine pS 9 49 (lA 36 1023) ?_
         refine pS 14 54 (lA 36 17407) ?_
         refine tS 10 50 (lA 36 18431) rfl rfl (by kernel_rfl) hHeld z11 ?_
         refine pS 11 51 (lA 36 20479) ?_
         refine pS 12 52 (lA 36 24575) ?_
         refine tS 13 53 (lA 36 32767) rfl rfl (by kernel_rfl) hHeld z11 ?_
         refine one_ (i := 15) (N := some 55) (lA 36 65535) rfl rfl (by kernel_rfl) (by decide) (fun K hK => ?_)
         refine goes_ Try.func84 (by kernel_rfl) rfl #[.agg #[.slice (some ad) m.words.length cW, .int .i64 m.young, .int .i64 m.top, .int .i64 m.old, .slice (some ad4) m.cards.length cC], .int .i64 v] (by rfl) rfl rfl z6 ?_
         with_reducible refine (Mem_isOld.calls (some ad) m.words.length cW m.young m.top m.old (some ad4) m.cards.length cC v false _ O2.out).mono ?_
         rintro e w9 ⟨rfl, hb3⟩
         refine ⟨_, rfl, ?_⟩
         refine hK.out _ _ ⟨⟨below_step hHeld.1.out hb3⟩, ⟨MV_below hHeld.2.1.out hb3⟩, ⟨(hb3.block _ (blk_lt hHeld.2.2.1.out)).trans hHeld.2.2.1.out⟩, (pw_cell_below hb3 hHeld.2.2.2.1), (pw_cell_below hb3 hHeld.2.2.2.2.1), (pw_cell_below hb3 hHeld.2.2.2.2.2.1), (pw_cell_below hb3 hHeld.2.2.2.2.2.2.1), (pw_cell_below hb3 hHeld.2.2.2.2.2.2.2.1), (pw_cell_below hb3 hHeld.2.2.2.2.2.2.2.2.1), (pw_cell_below hb3 hHeld.2.2.2.2.2.2.2.2.2.1), (pw_cell_below hb3 hHeld.2.2.2.2.2.2.2.2.2.2)⟩ (fun hHeld => ?_)
         clear hK K
         refine norm_ (a' := ?_) ?_ ?_
         rotate_left
         ·show Act.put _ (some 55) _ = _
          simp only [Act.put, lA1, lA2, lA3, i64_w, i32_w]
          rfl
         refine pS 16 56 (lA 36 131071) ?_
         refine pS 17 57 (lA 36 262143) ?_
         refine pS 18 58 (lA 36 524287) ?_
         refine pS 19 59 (lA 36 1048575) ?_
         refine pS 25 65 (lA 36 34603007) ?_
         refine pS 30 70 (lA 36 1108344831) ?_
         refine tS 20 60 (lA 36 1109393407) rfl rfl (by kernel_rfl) hHeld z11 ?_
         refine pS 21 61 (lA 36 1111490559) ?_
         refine pS 22 62 (lA 36 1115684863) ?_
         refine pS 23 63 (lA 36 1124073471) ?_
         refine tS 24 64 (lA 36 1140850687) rfl rfl (by kernel_rfl) hHeld z11 ?_
         refine tS 26 66 (lA 36 1207959551) rfl rfl (by kernel_rfl) hHeld z11 ?_
         refine pS 27 67 (lA 36 1342177279) ?_
         refine pS 28 68 (lA 36 1610612735) ?_
         refine tS 29 69 (lA 36 2147483647) rfl rfl (by kernel_rfl) hHeld z11 ?_
         refine one_ (i := 31) (N := some 71) (lA 36 4294967295) rfl rfl (by kernel_rfl) (by decide) (fun K hK => ?_)
         refine goes_ Try.func85 (by kernel_rfl) rfl #[.agg #[.slice (some ad) m.words.length cW, .int .i64 m.young, .int .i64 m.top, .int .i64 m.old, .slice (some ad4) m.cards.length cC], .int .i64 x] (by rfl) rfl rfl z6 ?_
         with_reducible refine (Mem_card.calls (some ad) m.words.length cW m.young m.top m.old (some ad4) m.cards.length cC x cj ci _ O3.out O4.out).mono ?_
         rintro e w9 ⟨rfl, hb3⟩
         refine ⟨_, rfl, ?_⟩
         refine hK.out _ _ ⟨⟨below_step hHeld.1.out hb3⟩, ⟨MV_below hHeld.2.1.out hb3⟩, ⟨(hb3.block _ (blk_lt hHeld.2.2.1.out)).trans hHeld.2.2.1.out⟩, (pw_cell_below hb3 hHeld.2.2.2.1), (pw_cell_below hb3 hHeld.2.2.2.2.1), (pw_cell_below hb3 hHeld.2.2.2.2.2.1), (pw_cell_below hb3 hHeld.2.2.2.2.2.2.1), (pw_cell_below hb3 hHeld.2.2.2.2.2.2.2.1), (pw_cell_below hb3 hHeld.2.2.2.2.2.2.2.2.1), (pw_cell_below hb3 hHeld.2.2.2.2.2.2.2.2.2.1), (pw_cell_below hb3 hHeld.2.2.2.2.2.2.2.2.2.2)⟩ (fun hHeld => ?_)
         clear hK K
         refine norm_ (a' := ?_) ?_ ?_
         rotate_left
         ·show Act.put _ (some 71) _ = _
          simp only [Act.put, lA1, lA2, lA3, i64_w, i32_w]
          rfl
         refine pS 32 72 (lA 36 8589934591) ?_
         refine tS 33 73 (lA 36 17179869183) rfl rfl (by kernel_rfl) hHeld z11 ?_
         refine pS 34 74 (lA 36 34359738367) ?_
         refine pS 35 75 (lA 36 68719476735) ?_
         refine done_ (by kernel_rfl) ?_
         have HBn := hHeld.1
         have HXn := hHeld.2.2.1
         clear hHeld HB HX
         have HB := HBn
         have HX := HXn
         clear HBn HXn
         go_wp2
         go_roundw
         case rel => exact ⟨j1, k1, rfl, HZ, ⟨by have := HK1.out; have := HK.out; omega⟩, HX, HB⟩
         case measure => have := HK1.out; have := HC0.out; have := HK.out; show (n - k1).toNat < (n - k).toNat; omega
      ·rw [if_neg c2] at hq
       have O1 := Aside0.mk (decide_eq_false c2)
       have HQ2 := Aside0.mk (Option.some.inj hq)
       clear hq c2
       obtain rfl := HQ2.out
       have HZ := Aside0.mk (show wordsOk.l q m at_ n j1 k1 = some r by have := HH.out; rw [if_pos rfl] at this; exact this)
       clear HH
       have b0 := (blk_cell HX.out 0).trans rfl
       have b1 := (blk_cell HX.out 1).trans rfl
       go_wp2_with fail
       go_at_call 82
       refine (thing_first.calls g m at_ a _ (MV_below HM.out HB.out) HFi.out).mono ?_
       rintro e w2 ⟨rfl, hb⟩
       clear b0 b1
       have HBn := Aside0.mk (below_step HB.out hb)
       have HXn := Aside0.mk ((hb.block _ (blk_lt HX.out)).trans HX.out)
       clear hb HB HX
       have HB := HBn
       have HX := HXn
       clear HBn HXn
       have b0 := (blk_cell HX.out 0).trans rfl
       have b1 := (blk_cell HX.out 1).trans rfl
       obtain ⟨AW, cW, AC, cC, AF, cF, AB, cB, h0, hW, hC, _⟩ := MV_below HM.out HB.out
       obtain ⟨ad, e0, hcell⟩ := Kd.at_int hW x (by have := HXw.out; omega) (by have := HXw.out; omega)
       cases e0
       rw [← HV.out] at hcell
       have g0 := (blk_cell h0 0).trans rfl
       have G0 := Aside0.mk h0
       have HCc := Aside0.mk hC
       clear h0 hW hC
       go_wp2_with fail
       go_at_call 83
       refine (thing_leads.calls g m at_ k true _ (MV_below HM.out HB.out) HLe.out).mono ?_
       rintro e w3 ⟨rfl, hb⟩
       clear b0 b1 hcell g0
       have G0n := Aside0.mk ((hb.block _ (blk_lt G0.out)).trans G0.out)
       have HCn := Aside0.mk (Kd.C_below HCc.out hb)
       clear G0 HCc
       have G0 := G0n
       have HCc := HCn
       clear G0n HCn
       have HBn := Aside0.mk (below_step HB.out hb)
       have HXn := Aside0.mk ((hb.block _ (blk_lt HX.out)).trans HX.out)
       clear hb HB HX
       have HB := HBn
       have HX := HXn
       clear HBn HXn
       have b0 := (blk_cell HX.out 0).trans rfl
       have b1 := (blk_cell HX.out 1).trans rfl
       go_wp2_with (go_at_call 80; refine (memory_has.calls q g m v true _ (MV_below HM.out HB.out) HHa.out).mono ?_; rintro e w5 ⟨rfl, hd⟩; have hb := hd.below; have HBn := Aside0.mk (below_step HB.out hb); have HXn := Aside0.mk ((hb.block _ (blk_lt HX.out)).trans HX.out); have G0n := Aside0.mk ((hb.block _ (blk_lt G0.out)).trans G0.out); have HCn := Aside0.mk (Kd.C_below HCc.out hb); clear hd hb HB HX G0 HCc b0 b1; have HB := HBn; have HX := HXn; have G0 := G0n; have HCc := HCn; clear HBn HXn G0n HCn; have b0 := (blk_cell HX.out 0).trans rfl; have b1 := (blk_cell HX.out 1).trans rfl; have g0 := (blk_cell G0.out 0).trans rfl; have g1 := (blk_cell G0.out 1).trans rfl; have g2 := (blk_cell G0.out 2).trans rfl; have g3 := (blk_cell G0.out 3).trans rfl; have g4 := (blk_cell G0.out 4).trans rfl; have HM1 := Aside0.mk (MV_below HM.out HB.out); try clear HCc)
       refine start_ (n := 36) (S := fun w' => Aside0 (Below w.heap.size w w') ∧ Aside0 (MV w' g (m)) ∧ Aside0 (w'.heap[w.heap.size]? = some (.cells #[.pointer (some ⟨g, 0, none⟩), .int .i64 at_] 104 (0, 0))) ∧ w'.cell? (⟨w.heap.size, 0, none⟩) = some (.pointer (some ⟨g, 0, none⟩)) ∧ w'.cell? (⟨w.heap.size, 1, none⟩) = some (.int .i64 at_) ∧ w'.cell? (⟨g, 0, none⟩) = some (.slice (some ad) m.words.length cW) ∧ w'.cell? (⟨g, 1, none⟩) = some (.int .i64 m.young) ∧ w'.cell? (⟨g, 2, none⟩) = some (.int .i64 m.top) ∧ w'.cell? (⟨g, 3, none⟩) = some (.int .i64 m.old) ∧ w'.cell? (⟨g, 4, none⟩) = some (.slice AC m.cards.length cC)) (ds := []) #[false, false, false, false, false, false, false, false, false, false, false, false, false, false, false, false, false, false, false, false, false, false, false, false, false, false, false, false, false, false, false, false, false, false, false, false] (by kernel_rfl) rfl rfl ⟨⟨below_drew1 HB.out⟩, ⟨MV_below HM1.out (below_drew1 (Below.refl _ _))⟩, ⟨blk_drew HX.out⟩, (by go_simp), (by go_simp), (by go_simp), (by go_simp), (by go_simp), (by go_simp), (by go_simp)⟩ (fun hHeld => ?_)
       refine pS 0 40 (lA 36 1) ?_
       refine pS 5 45 (lA 36 33) ?_
       refine tS 1 41 (lA 36 35) rfl rfl (by kernel_rfl) hHeld z43 ?_
       refine pS 2 42 (lA 36 39) ?_
       refine pS 3 43 (lA 36 47) ?_
       refine tS 4 44 (lA 36 63) rfl rfl (by kernel_rfl) hHeld z43 ?_
       refine tS 6 46 (lA 36 127) rfl rfl (by kernel_rfl) hHeld z43 ?_
       refine one_ (i := 7) (N := some 47) (lA 36 255) rfl rfl (by kernel_rfl) (by decide) (fun K hK => ?_)
       refine goes_ Try.func84 (by kernel_rfl) rfl #[.agg #[.slice (some ad) m.words.length cW, .int .i64 m.young, .int .i64 m.top, .int .i64 m.old, .slice AC m.cards.length cC], .int .i64 at_] (by rfl) rfl rfl z6 ?_
       with_reducible refine (Mem_isOld.calls (some ad) m.words.length cW m.young m.top m.old AC m.cards.length cC at_ false _ O1.out).mono ?_
       rintro e w9 ⟨rfl, hb3⟩
       refine ⟨_, rfl, ?_⟩
       refine hK.out _ _ ⟨⟨below_step hHeld.1.out hb3⟩, ⟨MV_below hHeld.2.1.out hb3⟩, ⟨(hb3.block _ (blk_lt hHeld.2.2.1.out)).trans hHeld.2.2.1.out⟩, (pw_cell_below hb3 hHeld.2.2.2.1), (pw_cell_below hb3 hHeld.2.2.2.2.1), (pw_cell_below hb3 hHeld.2.2.2.2.2.1), (pw_cell_below hb3 hHeld.2.2.2.2.2.2.1), (pw_cell_below hb3 hHeld.2.2.2.2.2.2.2.1), (pw_cell_below hb3 hHeld.2.2.2.2.2.2.2.2.1), (pw_cell_below hb3 hHeld.2.2.2.2.2.2.2.2.2)⟩ (fun hHeld => ?_)
       clear hK K
       refine norm_ (a' := ?_) ?_ ?_
       rotate_left
       ·show Act.put _ (some 47) _ = _
        simp only [Act.put, lA1, lA2, lA3, i64_w, i32_w]
        rfl
       refine pS 8 48 (lA 36 511) ?_
       refine pU 9 49 (lA 36 1023) ?_
       refine pU 10 50 (lA 36 2047) ?_
       refine pU 11 51 (lA 36 4095) ?_
       refine pU 12 52 (lA 36 8191) ?_
       refine pU 13 53 (lA 36 16383) ?_
       refine pU 14 54 (lA 36 32767) ?_
       refine pU 15 55 (lA 36 65535) ?_
       refine pU 16 56 (lA 36 131071) ?_
       refine pS 17 57 (lA 36 262143) ?_
       refine pS 18 58 (lA 36 524287) ?_
       refine pU 19 59 (lA 36 1048575) ?_
       refine pU 20 60 (lA 36 2097151) ?_
       refine pU 21 61 (lA 36 4194303) ?_
       refine pU 22 62 (lA 36 8388607) ?_
       refine pU 23 63 (lA 36 16777215) ?_
       refine pU 24 64 (lA 36 33554431) ?_
       refine pU 25 65 (lA 36 67108863) ?_
       refine pU 26 66 (lA 36 134217727) ?_
       refine pU 27 67 (lA 36 268435455) ?_
       refine pU 28 68 (lA 36 536870911) ?_
       refine pU 29 69 (lA 36 1073741823) ?_
       refine pU 30 70 (lA 36 2147483647) ?_
       refine pU 31 71 (lA 36 4294967295) ?_
       refine pU 32 72 (lA 36 8589934591) ?_
       refine pU 33 73 (lA 36 17179869183) ?_
       refine pU 34 74 (lA 36 34359738367) ?_
       refine pS 35 75 (lA 36 68719476735) ?_
       refine done_ (by kernel_rfl) ?_
       have HBn := hHeld.1
       have HXn := hHeld.2.2.1
       clear hHeld HB HX
       have HB := HBn
       have HX := HXn
       clear HBn HXn
       go_wp2
       go_roundw
       case rel => exact ⟨j1, k1, rfl, HZ, ⟨by have := HK1.out; have := HK.out; omega⟩, HX, HB⟩
       case measure => have := HK1.out; have := HC0.out; have := HK.out; show (n - k1).toNat < (n - k).toNat; omega
end Go.Proofs.Ytmniglgahodghaa.K
namespace Go.Proofs.Ytmniglgahodghaa.K
open Go.RowKit Go.Proofs.YtmniglgahodghaaW.PrintWords Go.Proofs.YtmniglgahodghaaW.PrintLast Go.Proofs.YtmniglgahodghaaW.PrintMore
attribute [local go_sem] max2_int min2_int max_two min_two max_three min_three max_four min_four
set_option linter.unusedVariables false
set_option linter.unusedSimpArgs false
def thingsOk (q : Nat) (m : Mm) : List Int → Option Bool
  | [] => some true
  | a :: r => (wordsOk.f q m a).bind fun ok => if ok = true then thingsOk q m r else some false
def mopen (k q : Nat) (l0 : List S69) (ws : List Int) (y t o : Int) (cs : List Bool) : Option (Option Mm) :=
  (impl_ClassesOk.f k l0).bind fun c => if c = true then ((impl_partsOk.f ws y t o cs).bind fun p => if p = true then ((impl_allFields.f k l0).bind fun F =>
    if F.all (fun r => decide (r.length ≤ 4294967296)) = true ∧ ws.length ≤ 1048576 ∧ cs.length ≤ 1048576 then ((mwalk ws F t q 0 []).bind fun r1 => if r1.1 = true then (if r1.2.length ≤ 1048576 then ((mwalk ws F o q y r1.2).bind fun r2 => if r2.1 = true then (if r2.2.length ≤ 1048576 then ((thingsOk q ⟨ws, y, t, o, cs, F, r2.2⟩ r2.2).bind fun ok => if ok = true then some (some ⟨ws, y, t, o, cs, F, r2.2⟩) else some none) else none) else some none) else none) else some none) else none) else some none) else some none
def OpenPost (w : World) (r : Option Mm) (e : Ending) (w' : World) : Prop :=
  match r with
  | none => e = .returned (.tuple #[.pointer none, .bool false]) ∧ Below w.heap.size w w'
  | some m => ∃ g, e = .returned (.tuple #[.pointer (some ⟨g, 0, none⟩), .bool true]) ∧ MO w' w.heap.size g m ∧ Below w.heap.size w w'
theorem fshort_of {F : List (List Int)} (h : F.all (fun r => decide (r.length ≤ 4294967296)) = true) : FShort F := by
 intro c h0 h1
 have h2 : c.toNat < F.length := by omega
 have h3 := List.all_eq_true.mp h (F[c.toNat]) (List.getElem_mem h2)
 have h4 : rdL F c = F[c.toNat] := by unfold rdL; rw [List.getD_eq_getElem?_getD, List.getElem?_eq_getElem h2]; rfl
 rw [h4]
 exact of_decide_eq_true h3
theorem parts_true {ws : List Int} {y t o : Int} {cs : List Bool} (h : impl_partsOk.f ws y t o cs = some true) : 0 ≤ y ∧ y ≤ 40 ∧ 0 ≤ t ∧ t ≤ y ∧ y ≤ o ∧ o ≤ ws.length := by
 unfold impl_partsOk.f at h
 split at h
 case isFalse => simp at h
 case isTrue =>
 have h := Option.some.inj h
 simp only [Bool.and_eq_true] at h
 obtain ⟨⟨⟨⟨⟨⟨h0, h1⟩, h2⟩, h3⟩, h4⟩, h5⟩, h6⟩ := h
 unfold pOk at h0 h2 h3
 have h0 := of_decide_eq_true h0
 have h2 := of_decide_eq_true h2
 have h3 := of_decide_eq_true h3
 exact ⟨h0.1, h0.2, h2.1, h2.2, h3.1, h3.2⟩
theorem MO_cells {w : World} {b g : Nat} {m : Mm} (h : MO w b g m) : w.cell? ⟨g, 1, none⟩ = some (.int .i64 m.young) ∧ w.cell? ⟨g, 2, none⟩ = some (.int .i64 m.top) ∧ w.cell? ⟨g, 3, none⟩ = some (.int .i64 m.old) := by
  obtain ⟨_, _, _, _, _, _, _, _, h0, _⟩ := h
  exact ⟨(blk_cell h0 1).trans rfl, (blk_cell h0 2).trans rfl, (blk_cell h0 3).trans rfl⟩
theorem MO_new {w3 w4 : World} {b : Nat} {AU AV AF : Option Addr} {cU cV cF : Nat} {l0 : List Int} {l4 : List Bool} {F : List (List Int)} {a1 a2 a3 : Int} (hb : b ≤ w3.heap.size) (hw : Below w3.heap.size w3 w4)
  (h1 : Kd.R (Kd.int .i64) 3 w3 b (fun k => some k ≠ (Value.slice AV l4.length cV).ownBlock) (.slice AU l0.length cU) l0)
  (h2 : Kd.R Kd.bool 4 w3 b (fun k => some k ≠ (Value.slice AU l0.length cU).ownBlock) (.slice AV l4.length cV) l4)
  (h3 : Kd.S (Kd.slice 3 (Kd.int .i64)) 23 w4 w3.heap.size (fun _ => True) (.slice AF F.length cF) F) :
  MO (w4.alloc (.cells #[.slice AU l0.length cU, .int .i64 a1, .int .i64 a2, .int .i64 a3, .slice AV l4.length cV, .slice AF F.length cF, .slice none 0 0] 79 (0, 0))) b w4.heap.size ⟨l0, a1, a2, a3, l4, F, []⟩ := by
 have hs := hw.size
 have u1 := Kd.R_lt h1
 have u2 := Kd.R_lt h2
 have nn : ∀ k : Nat, some k ≠ (Value.slice none 0 0).ownBlock := fun k => by simp [Value.ownBlock]
 have al := below_alloc (Below.refl w4.heap.size w4) (.cells #[.slice AU l0.length cU, .int .i64 a1, .int .i64 a2, .int .i64 a3, .slice AV l4.length cV, .slice AF F.length cF, .slice none 0 0] 79 (0, 0))
 refine ⟨AU, cU, AV, cV, AF, cF, none, 0, blk_new _ _, by show b ≤ w4.heap.size; omega, (Kd.R_reads' (Kd.S_R h3)).2.1, ?_, ?_, ?_, ?_⟩
 ·exact Kd.R_below (Kd.R_mono (Kd.R_below (Kd.R_bound h1) hw) (fun k hk => ⟨⟨by have := hk.2.2.1; omega, hk.1⟩, nn k⟩)) al
 ·exact Kd.R_below (Kd.R_mono (Kd.R_below (Kd.R_bound h2) hw) (fun k hk => ⟨⟨by have := hk.2.2.1; omega, hk.1⟩, nn k⟩)) al
 ·exact Kd.F_below (Kd.F_mono (Kd.R_F (Kd.R_bound (Kd.S_R h3))) (fun k hk => ⟨⟨⟨by have := hk.2.2.1; omega, fun e => by have := u1 k e.symm; have := hk.2.1; omega⟩, fun e => by have := u2 k e.symm; have := hk.2.1; omega⟩, nn k⟩)) al
 ·exact Kd.R_nil _ _ _ _ _
set_option maxHeartbeats 32000000 in
set_option maxRecDepth 100000 in
theorem memOpen.calls (k q : Nat) (A0 : Option Addr) (c0 : Nat) (l0 : List S69) (AW : Option Addr) (cW : Nat) (ws : List Int) (y t o : Int) (AC : Option Addr) (cC : Nat) (cs : List Bool) (r : Option Mm) (w : World)
  (hr0 : Kd.C k69 w A0 l0.length l0) (hc0 : l0.length ≤ c0) (hrW : Kd.C (Kd.int .i64) w AW ws.length ws) (hcW : ws.length ≤ cW) (hrC : Kd.C Kd.bool w AC cs.length cs) (hcC : cs.length ≤ cC) (h : mopen k q l0 ws y t o cs = some r) :
  Calls Try.prog 45 #[.slice A0 l0.length c0, .agg #[.slice AW ws.length cW, .int .i64 y, .int .i64 t, .int .i64 o, .slice AC cs.length cC]] w (OpenPost w r) := by
 have HR0 := Aside0.mk hr0
 have HC0 := Aside0.mk hc0
 have HRW := Aside0.mk hrW
 have HCW := Aside0.mk hcW
 have HRC := Aside0.mk hrC
 have HCC := Aside0.mk hcC
 clear hr0 hc0 hrW hcW hrC hcC
 unfold mopen at h
 obtain ⟨c, hc, h⟩ := Option.bind_eq_some_iff.mp h
 have H1 := Aside0.mk hc
 clear hc
 have HB0 := Aside0.mk (below_alloc (Below.refl w.heap.size w) (.cells #[.slice AW ws.length cW, .int .i64 y, .int .i64 t, .int .i64 o, .slice AC cs.length cC] 29 (0, 0)))
 have HX0 := Aside0.mk (blk_new w (.cells #[.slice AW ws.length cW, .int .i64 y, .int .i64 t, .int .i64 o, .slice AC cs.length cC] 29 (0, 0)))
 cases c with
 | false =>
  rw [if_neg (by simp)] at h
  have HR := Aside0.mk (Option.some.inj h)
  clear h
  go_enter Try.func45, Try.ntmps45
  go_wp2_with (go_at_call 73; refine (impl_ClassesOk.calls k A0 c0 l0 false _ (Kd.C_below HR0.out HB0.out) HC0.out H1.out).mono ?_; rintro e w1 ⟨rfl, hb⟩; have HB := Aside0.mk (below_step HB0.out hb); have HX := Aside0.mk ((hb.block _ (blk_lt HX0.out)).trans HX0.out); clear hb HB0 HX0; have x0 := (blk_cell HX.out 0).trans rfl; have x1 := (blk_cell HX.out 1).trans rfl; have x2 := (blk_cell HX.out 2).trans rfl; have x3 := (blk_cell HX.out 3).trans rfl; have x4 := (blk_cell HX.out 4).trans rfl)
  go_ret2
  rw [← HR.out]
  exact ⟨rfl, HB.out⟩
 | true =>
 rw [if_pos rfl] at h
 obtain ⟨p, hp, h⟩ := Option.bind_eq_some_iff.mp h
 have H2 := Aside0.mk hp
 clear hp
 cases p with
 | false =>
  rw [if_neg (by simp)] at h
  have HR := Aside0.mk (Option.some.inj h)
  clear h
  go_enter Try.func45, Try.ntmps45
  go_wp2_with first | (go_at_call 73; refine (impl_ClassesOk.calls k A0 c0 l0 true _ (Kd.C_below HR0.out HB0.out) HC0.out H1.out).mono ?_; rintro e w1 ⟨rfl, hb⟩; have HB := Aside0.mk (below_step HB0.out hb); have HX := Aside0.mk ((hb.block _ (blk_lt HX0.out)).trans HX0.out); clear hb HB0 HX0; have x0 := (blk_cell HX.out 0).trans rfl; have x1 := (blk_cell HX.out 1).trans rfl; have x2 := (blk_cell HX.out 2).trans rfl; have x3 := (blk_cell HX.out 3).trans rfl; have x4 := (blk_cell HX.out 4).trans rfl) | (go_at_call 74; refine (impl_partsOk.calls AW cW ws y t o AC cC cs false _ (Kd.C_below HRW.out HB.out) HCW.out H2.out).mono ?_; rintro e w2 ⟨rfl, hb⟩; have HBn := Aside0.mk (below_step HB.out hb); have HXn := Aside0.mk ((hb.block _ (blk_lt HX.out)).trans HX.out); clear hb HB HX x0 x1 x2 x3 x4; have HB := HBn; have HX := HXn; clear HBn HXn; have x0 := (blk_cell HX.out 0).trans rfl; have x1 := (blk_cell HX.out 1).trans rfl; have x2 := (blk_cell HX.out 2).trans rfl; have x3 := (blk_cell HX.out 3).trans rfl; have x4 := (blk_cell HX.out 4).trans rfl)
  go_ret2
  rw [← HR.out]
  exact ⟨rfl, HB.out⟩
 | true =>
 rw [if_pos rfl] at h
 obtain ⟨F, hF, h⟩ := Option.bind_eq_some_iff.mp h
 have H3 := Aside0.mk hF
 clear hF
 split at h
 case isFalse => simp at h
 case isTrue hl =>
 have HL1 := Aside0.mk (fshort_of hl.1)
 have HL2 := Aside0.mk hl.2.1
 have HL3 := Aside0.mk hl.2.2
 clear hl
 have HP := Aside0.mk (parts_true H2.out)
 obtain ⟨r1, hr1, h⟩ := Option.bind_eq_some_iff.mp h
 have H4 := Aside0.mk hr1
 clear hr1
 have H := Aside0.mk h
 clear h
 go_enter Try.func45, Try.ntmps45
 go_wp2_with first | (go_at_call 73; refine (impl_ClassesOk.calls k A0 c0 l0 true _ (Kd.C_below HR0.out HB0.out) HC0.out H1.out).mono ?_; rintro e w1 ⟨rfl, hb⟩; have HB := Aside0.mk (below_step HB0.out hb); have HX := Aside0.mk ((hb.block _ (blk_lt HX0.out)).trans HX0.out); clear hb HB0 HX0; have x0 := (blk_cell HX.out 0).trans rfl; have x1 := (blk_cell HX.out 1).trans rfl; have x2 := (blk_cell HX.out 2).trans rfl; have x3 := (blk_cell HX.out 3).trans rfl; have x4 := (blk_cell HX.out 4).trans rfl) | (go_at_call 74; refine (impl_partsOk.calls AW cW ws y t o AC cC cs true _ (Kd.C_below HRW.out HB.out) HCW.out H2.out).mono ?_; rintro e w2 ⟨rfl, hb⟩; have HBn := Aside0.mk (below_step HB.out hb); have HXn := Aside0.mk ((hb.block _ (blk_lt HX.out)).trans HX.out); clear hb HB HX x0 x1 x2 x3 x4; have HB := HBn; have HX := HXn; clear HBn HXn; have x0 := (blk_cell HX.out 0).trans rfl; have x1 := (blk_cell HX.out 1).trans rfl; have x2 := (blk_cell HX.out 2).trans rfl; have x3 := (blk_cell HX.out 3).trans rfl; have x4 := (blk_cell HX.out 4).trans rfl) | fail
 go_at_call 75
 refine (impl_memClone.calls AW cW ws y t o AC cC cs _ (Kd.C_below HRW.out HB.out) HCW.out (Kd.C_below HRC.out HB.out) HCC.out (by have := HL2.out; omega) (by have := HL3.out; omega)).mono ?_
 rintro e w3 ⟨u, v, rfl, hu, hv, hb⟩
 have HS2 := Aside0.mk (below_size HB.out)
 have HBn := Aside0.mk (below_step HB.out hb)
 have HU := Aside0.mk (Kd.R_lower hu HS2.out)
 have HV := Aside0.mk (Kd.R_lower hv HS2.out)
 obtain ⟨AU, cU, rfl⟩ := Kd.R_slice hu
 obtain ⟨AV, cV, rfl⟩ := Kd.R_slice hv
 clear hu hv hb HB HX HS2 x0 x1 x2 x3 x4
 have HB := HBn
 clear HBn
 go_wp2_with fail
 go_at_call 76
 refine (impl_allFields.calls k A0 c0 l0 F _ (Kd.C_below HR0.out HB.out) HC0.out H3.out).mono ?_
 rintro e w4 ⟨vf, rfl, hf, hb⟩
 obtain ⟨AF, cF, rfl⟩ := Kd.S_slice hf
 have HM0 := Aside0.mk (MO_new (a1 := y) (a2 := t) (a3 := o) (below_size HB.out) hb HU.out HV.out hf)
 have HBn := Aside0.mk (below_alloc (below_step HB.out hb) (.cells #[.slice AU ws.length cU, .int .i64 y, .int .i64 t, .int .i64 o, .slice AV cs.length cV, .slice AF F.length cF, .slice none 0 0] 79 (0, 0)))
 clear hf hb HB HU HV
 have HB := HBn
 clear HBn
 obtain ⟨g, hg⟩ : ∃ g, g = w4.heap.size := ⟨_, rfl⟩
 have HG := Aside0.mk hg
 go_wp2
 rw [← hg] at HM0 ⊢
 clear hg
 generalize w4.alloc (.cells #[.slice AU ws.length cU, .int .i64 y, .int .i64 t, .int .i64 o, .slice AV cs.length cV, .slice AF F.length cF, .slice none 0 0] 79 (0, 0)) = W5 at HB HM0 ⊢
 obtain ⟨k1, k2, k3⟩ := MO_cells HM0.out
 dsimp only at k1 k2 k3
 obtain ⟨r1b, r1l⟩ := r1
 have hh := H.out
 cases r1b with
 | false =>
  rw [if_neg (by simp)] at hh
  have HR := Aside0.mk (Option.some.inj hh)
  clear hh H
  refine start_ (n := 23) (S := fun w' => Aside0 (Below w.heap.size w w') ∧ w'.cell? ⟨g, 1, none⟩ = some (.int .i64 y) ∧ w'.cell? ⟨g, 2, none⟩ = some (.int .i64 t) ∧ w'.cell? ⟨g, 3, none⟩ = some (.int .i64 o)) (ds := []) #[false, false, false, false, false, false, false, false, false, false, false, false, false, false, false, false, false, false, false, false, false, false, false] (by kernel_rfl) rfl rfl ⟨⟨below_drew1 HB.out⟩, (by go_simp), (by go_simp), (by go_simp)⟩ (fun hHeld => ?_)
  refine pS 0 23 (lA 23 1) ?_
  refine pS 1 24 (lA 23 3) ?_
  refine pS 2 25 (lA 23 7) ?_
  refine pS 3 26 (lA 23 15) ?_
  refine pS 4 27 (lA 23 31) ?_
  refine tS 5 28 (lA 23 63) rfl rfl (by kernel_rfl) hHeld z18 ?_
  refine one_ (i := 6) (N := some 29) (lA 23 127) rfl rfl (by kernel_rfl) (by decide) (fun K hK => ?_)
  refine goes_ Try.func77 (by kernel_rfl) rfl #[.pointer (some ⟨g, 0, none⟩), .int .i64 0, .int .i64 t] (by rfl) rfl rfl z6 ?_
  with_reducible refine (memory_walk.calls w.heap.size g _ 0 t q (false, r1l) _ (MO_below HM0.out (below_drew1 (Below.refl _ _))) hHeld.1.out.size (by decide) (by have := HP.out; show t ≤ (ws.length : Int); omega) HL2.out (Nat.zero_le _) HL1.out H4.out).mono ?_
  rintro e w5 ⟨rfl, ho1, hb1⟩
  have hMO1 := Aside0.mk ho1
  have hB1 := Aside0.mk hb1
  obtain ⟨c1_, c2_, c3_⟩ := MO_cells ho1
  dsimp only at c1_ c2_ c3_
  refine ⟨_, rfl, ?_⟩
  refine hK.out _ _ ⟨⟨hHeld.1.out.trans hB1.out⟩, c1_, c2_, c3_⟩ (fun hHeld => ?_)
  clear hK K
  refine norm_ (a' := ?_) ?_ ?_
  rotate_left
  ·show Act.put _ (some 29) _ = _
   simp only [Act.put, lA1, lA2, lA3, i64_w, i32_w]
   rfl
  refine pS 7 30 (lA 23 255) ?_
  refine pS 8 31 (lA 23 511) ?_
  refine pU 9 32 (lA 23 1023) ?_
  refine pU 10 33 (lA 23 2047) ?_
  refine pU 11 34 (lA 23 4095) ?_
  refine pU 12 35 (lA 23 8191) ?_
  refine pU 13 36 (lA 23 16383) ?_
  refine pU 14 37 (lA 23 32767) ?_
  refine pU 15 38 (lA 23 65535) ?_
  refine pU 16 39 (lA 23 131071) ?_
  refine pU 17 40 (lA 23 262143) ?_
  refine pU 18 41 (lA 23 524287) ?_
  refine pU 19 42 (lA 23 1048575) ?_
  refine pU 20 43 (lA 23 2097151) ?_
  refine pU 21 44 (lA 23 4194303) ?_
  refine pS 22 45 (lA 23 8388607) ?_
  refine done_ (by kernel_rfl) ?_
  go_wp2
  go_ret2
  rw [← HR.out]
  exact ⟨rfl, hHeld.1.out⟩
 | true =>
 rw [if_pos rfl] at hh
 split at hh
 case isFalse => simp at hh
 case isTrue hl =>
 have HL4 := Aside0.mk hl
 clear hl
 obtain ⟨r2, hr2, hh⟩ := Option.bind_eq_some_iff.mp hh
 have H5 := Aside0.mk hr2
 clear hr2 H
 obtain ⟨r2b, r2l⟩ := r2
 cases r2b with
 | false =>
  rw [if_neg (by simp)] at hh
  have HR := Aside0.mk (Option.some.inj hh)
  clear hh
  refine start_ (n := 23) (S := fun w' => Aside0 (Below w.heap.size w w') ∧ w'.cell? ⟨g, 1, none⟩ = some (.int .i64 y) ∧ w'.cell? ⟨g, 2, none⟩ = some (.int .i64 t) ∧ w'.cell? ⟨g, 3, none⟩ = some (.int .i64 o)) (ds := []) #[false, false, false, false, false, false, false, false, false, false, false, false, false, false, false, false, false, false, false, false, false, false, false] (by kernel_rfl) rfl rfl ⟨⟨below_drew1 HB.out⟩, (by go_simp), (by go_simp), (by go_simp)⟩ (fun hHeld => ?_)
  refine pS 0 23 (lA 23 1) ?_
  refine pS 1 24 (lA 23 3) ?_
  refine pS 2 25 (lA 23 7) ?_
  refine pS 3 26 (lA 23 15) ?_
  refine pS 4 27 (lA 23 31) ?_
  refine tS 5 28 (lA 23 63) rfl rfl (by kernel_rfl) hHeld z18 ?_
  refine one_ (i := 6) (N := some 29) (lA 23 127) rfl rfl (by kernel_rfl) (by decide) (fun K hK => ?_)
  refine goes_ Try.func77 (by kernel_rfl) rfl #[.pointer (some ⟨g, 0, none⟩), .int .i64 0, .int .i64 t] (by rfl) rfl rfl z6 ?_
  with_reducible refine (memory_walk.calls w.heap.size g _ 0 t q (true, r1l) _ (MO_below HM0.out (below_drew1 (Below.refl _ _))) hHeld.1.out.size (by decide) (by have := HP.out; show t ≤ (ws.length : Int); omega) HL2.out (Nat.zero_le _) HL1.out H4.out).mono ?_
  rintro e w5 ⟨rfl, ho1, hb1⟩
  have hMO1 := Aside0.mk ho1
  have hB1 := Aside0.mk hb1
  obtain ⟨c1_, c2_, c3_⟩ := MO_cells ho1
  dsimp only at c1_ c2_ c3_
  refine ⟨_, rfl, ?_⟩
  refine hK.out _ _ ⟨⟨hHeld.1.out.trans hB1.out⟩, c1_, c2_, c3_⟩ (fun hHeld => ?_)
  clear hK K
  refine norm_ (a' := ?_) ?_ ?_
  rotate_left
  ·show Act.put _ (some 29) _ = _
   simp only [Act.put, lA1, lA2, lA3, i64_w, i32_w]
   rfl
  refine pS 7 30 (lA 23 255) ?_
  refine pS 8 31 (lA 23 511) ?_
  refine pS 9 32 (lA 23 1023) ?_
  refine pS 10 33 (lA 23 2047) ?_
  refine pS 11 34 (lA 23 4095) ?_
  refine pS 12 35 (lA 23 8191) ?_
  refine pS 13 36 (lA 23 16383) ?_
  refine pS 15 38 (lA 23 49151) ?_
  refine pS 16 39 (lA 23 114687) ?_
  refine pS 17 40 (lA 23 245759) ?_
  refine pS 18 41 (lA 23 507903) ?_
  refine tS 14 37 (lA 23 524287) rfl rfl (by kernel_rfl) hHeld z18 ?_
  refine tS 19 42 (lA 23 1048575) rfl rfl (by kernel_rfl) hHeld z18 ?_
  refine one_ (i := 20) (N := some 43) (lA 23 2097151) rfl rfl (by kernel_rfl) (by decide) (fun K hK => ?_)
  refine goes_ Try.func77 (by kernel_rfl) rfl #[.pointer (some ⟨g, 0, none⟩), .int .i64 y, .int .i64 o] (by rfl) rfl rfl z6 ?_
  with_reducible refine (memory_walk.calls w.heap.size g _ y o q (false, r2l) _ hMO1.out hHeld.1.out.size HP.out.1 (by have := HP.out; show o ≤ (ws.length : Int); omega) HL2.out HL4.out HL1.out H5.out).mono ?_
  rintro e w6 ⟨rfl, ho2, hb2⟩
  have hMO2 := Aside0.mk ho2
  have hB2 := Aside0.mk hb2
  obtain ⟨d1_, d2_, d3_⟩ := MO_cells ho2
  dsimp only at d1_ d2_ d3_
  refine ⟨_, rfl, ?_⟩
  refine hK.out _ _ ⟨⟨hHeld.1.out.trans hB2.out⟩, d1_, d2_, d3_⟩ (fun hHeld => ?_)
  clear hK K
  refine norm_ (a' := ?_) ?_ ?_
  rotate_left
  ·show Act.put _ (some 43) _ = _
   simp only [Act.put, lA1, lA2, lA3, i64_w, i32_w]
   rfl
  refine pS 21 44 (lA 23 4194303) ?_
  refine pS 22 45 (lA 23 8388607) ?_
  refine done_ (by kernel_rfl) ?_
  go_wp2
  go_ret2
  rw [← HR.out]
  exact ⟨rfl, hHeld.1.out⟩
 | true =>
 rw [if_pos rfl] at hh
 split at hh
 case isFalse => simp at hh
 case isTrue hl =>
 have HL5 := Aside0.mk hl
 clear hl
 obtain ⟨ok, hok, hh⟩ := Option.bind_eq_some_iff.mp hh
 have H6 := Aside0.mk hok
 have H7 := Aside0.mk hh
 clear hok hh
 refine start_ (n := 23) (S := fun w' => Aside0 (Below w.heap.size w w') ∧ w'.cell? ⟨g, 1, none⟩ = some (.int .i64 y) ∧ w'.cell? ⟨g, 2, none⟩ = some (.int .i64 t) ∧ w'.cell? ⟨g, 3, none⟩ = some (.int .i64 o)) (ds := []) #[false, false, false, false, false, false, false, false, false, false, false, false, false, false, false, false, false, false, false, false, false, false, false] (by kernel_rfl) rfl rfl ⟨⟨below_drew1 HB.out⟩, (by go_simp), (by go_simp), (by go_simp)⟩ (fun hHeld => ?_)
 refine pS 0 23 (lA 23 1) ?_
 refine pS 1 24 (lA 23 3) ?_
 refine pS 2 25 (lA 23 7) ?_
 refine pS 3 26 (lA 23 15) ?_
 refine pS 4 27 (lA 23 31) ?_
 refine tS 5 28 (lA 23 63) rfl rfl (by kernel_rfl) hHeld z18 ?_
 refine one_ (i := 6) (N := some 29) (lA 23 127) rfl rfl (by kernel_rfl) (by decide) (fun K hK => ?_)
 refine goes_ Try.func77 (by kernel_rfl) rfl #[.pointer (some ⟨g, 0, none⟩), .int .i64 0, .int .i64 t] (by rfl) rfl rfl z6 ?_
 with_reducible refine (memory_walk.calls w.heap.size g _ 0 t q (true, r1l) _ (MO_below HM0.out (below_drew1 (Below.refl _ _))) hHeld.1.out.size (by decide) (by have := HP.out; show t ≤ (ws.length : Int); omega) HL2.out (Nat.zero_le _) HL1.out H4.out).mono ?_
 rintro e w5 ⟨rfl, ho1, hb1⟩
 have hMO1 := Aside0.mk ho1
 have hB1 := Aside0.mk hb1
 obtain ⟨c1_, c2_, c3_⟩ := MO_cells ho1
 dsimp only at c1_ c2_ c3_
 refine ⟨_, rfl, ?_⟩
 refine hK.out _ _ ⟨⟨hHeld.1.out.trans hB1.out⟩, c1_, c2_, c3_⟩ (fun hHeld => ?_)
 clear hK K
 refine norm_ (a' := ?_) ?_ ?_
 rotate_left
 ·show Act.put _ (some 29) _ = _
  simp only [Act.put, lA1, lA2, lA3, i64_w, i32_w]
  rfl
 refine pS 7 30 (lA 23 255) ?_
 refine pS 8 31 (lA 23 511) ?_
 refine pS 9 32 (lA 23 1023) ?_
 refine pS 10 33 (lA 23 2047) ?_
 refine pS 11 34 (lA 23 4095) ?_
 refine pS 12 35 (lA 23 8191) ?_
 refine pS 13 36 (lA 23 16383) ?_
 refine pS 15 38 (lA 23 49151) ?_
 refine pS 16 39 (lA 23 114687) ?_
 refine pS 17 40 (lA 23 245759) ?_
 refine pS 18 41 (lA 23 507903) ?_
 refine tS 14 37 (lA 23 524287) rfl rfl (by kernel_rfl) hHeld z18 ?_
 refine tS 19 42 (lA 23 1048575) rfl rfl (by kernel_rfl) hHeld z18 ?_
 refine one_ (i := 20) (N := some 43) (lA 23 2097151) rfl rfl (by kernel_rfl) (by decide) (fun K hK => ?_)
 refine goes_ Try.func77 (by kernel_rfl) rfl #[.pointer (some ⟨g, 0, none⟩), .int .i64 y, .int .i64 o] (by rfl) rfl rfl z6 ?_
 with_reducible refine (memory_walk.calls w.heap.size g _ y o q (true, r2l) _ hMO1.out hHeld.1.out.size HP.out.1 (by have := HP.out; show o ≤ (ws.length : Int); omega) HL2.out HL4.out HL1.out H5.out).mono ?_
 rintro e w6 ⟨rfl, ho2, hb2⟩
 have hMO2 := Aside0.mk ho2
 have hB2 := Aside0.mk hb2
 obtain ⟨d1_, d2_, d3_⟩ := MO_cells ho2
 dsimp only at d1_ d2_ d3_
 refine ⟨_, rfl, ?_⟩
 refine hK.out _ _ ⟨⟨hHeld.1.out.trans hB2.out⟩, d1_, d2_, d3_⟩ (fun hHeld => ?_)
 clear hK K
 refine norm_ (a' := ?_) ?_ ?_
 rotate_left
 ·show Act.put _ (some 43) _ = _
  simp only [Act.put, lA1, lA2, lA3, i64_w, i32_w]
  rfl
 refine pS 21 44 (lA 23 4194303) ?_
 refine pS 22 45 (lA 23 8388607) ?_
 refine done_ (by kernel_rfl) ?_
 have HB := hHeld.1
 clear hHeld
 obtain ⟨AW6, cW6, AC6, cC6, AF6, cF6, AB, cB, g0, hg1, _, _, _, _, rB⟩ := hMO2.out
 have k6 := (blk_cell g0 6).trans rfl
 have HCB := Aside0.mk (Kd.R_reads' rB).2.2
 clear g0 rB hg1
 go_wp2
 go_loopw [51] (fun i wr => ∃ j : Nat, i = .int .i64 j ∧ j ≤ r2l.length ∧ Aside0 (thingsOk q ⟨ws, y, t, o, cs, F, r2l⟩ (r2l.drop j) = some ok) ∧ Aside0 (Below w6.heap.size w6 wr)) (fun i _ => r2l.length - (intOf i).toNat)
 case atStart => exact ⟨0, rfl, Nat.zero_le _, ⟨by rw [List.drop_zero]; exact H6.out⟩, ⟨Below.refl _ _⟩⟩
 case round =>
  clear H6
  obtain ⟨j, rfl, hj, HT, HB6⟩ := hrel
  by_cases hlt : j < r2l.length
  ·have hd := List.drop_eq_getElem_cons hlt
   have hg : r2l[j] = rd r2l j := by unfold rd; rw [Int.toNat_natCast, List.getD_eq_getElem?_getD, List.getElem?_eq_getElem hlt]; rfl
   obtain ⟨ad, e0, hcell⟩ := Kd.at_int (Kd.C_below HCB.out HB6.out) j (by omega) (by omega)
   cases e0
   rw [Int.toNat_natCast] at hcell
   have ht := HT.out
   rw [hd, hg] at ht
   unfold thingsOk at ht
   obtain ⟨o1, ho1, ht⟩ := Option.bind_eq_some_iff.mp ht
   have HO1 := Aside0.mk ho1
   clear hd hg HT ho1
   generalize rd r2l j = x at *
   cases o1 with
   | false =>
    rw [if_neg (by simp)] at ht
    have h7 := H7.out
    rw [← Option.some.inj ht, if_neg (by simp)] at h7
    have HR := Aside0.mk (Option.some.inj h7)
    clear ht h7
    go_wp2_with fail
    go_at_call 78
    refine (memory_thing.calls g x _).mono ?_
    rintro e w7 ⟨rfl, hb⟩
    have HB7 := Aside0.mk (below_step HB6.out hb)
    clear hb
    go_wp2_with fail
    go_at_call 79
    refine (thing_wordsOk.calls q g _ x false _ (MV_below (MO_MV hMO2.out) HB7.out) HO1.out).mono ?_
    rintro e w8 ⟨rfl, hb⟩
    have HB8 := Aside0.mk (below_step HB7.out hb)
    clear hb HB7
    go_wp2
    go_ret2
    rw [← HR.out]
    exact ⟨rfl, below_then HB.out (Nat.le_trans (Nat.le_refl _) HB.out.size) HB8.out⟩
   | true =>
    rw [if_pos rfl] at ht
    have HT2 := Aside0.mk ht
    clear ht
    go_wp2_with fail
    go_at_call 78
    refine (memory_thing.calls g x _).mono ?_
    rintro e w7 ⟨rfl, hb⟩
    have HB7 := Aside0.mk (below_step HB6.out hb)
    clear hb
    go_wp2_with fail
    go_at_call 79
    refine (thing_wordsOk.calls q g _ x true _ (MV_below (MO_MV hMO2.out) HB7.out) HO1.out).mono ?_
    rintro e w8 ⟨rfl, hb⟩
    have HB8 := Aside0.mk (below_step HB7.out hb)
    clear hb HB7
    go_wp2
    go_roundw
    case rel => exact ⟨j + 1, by rw [show wrap64 ((j : Int) + 1) = ((j + 1 : Nat) : Int) by have := HL5.out; unfold wrap64; omega], by omega, HT2, HB8⟩
    case measure => rw [show wrap64 ((j : Int) + 1) = ((j + 1 : Nat) : Int) by have := HL5.out; unfold wrap64; omega]; simp only [intOf, Int.toNat_natCast]; omega
  ·have d0 : decide ((j : Int) < r2l.length) = false := decide_eq_false (by omega)
   have ht := HT.out
   rw [List.drop_eq_nil_of_le (by omega)] at ht
   have h7 := H7.out
   rw [← Option.some.inj ht, if_pos rfl] at h7
   have HR := Aside0.mk (Option.some.inj h7)
   clear ht h7
   go_wp2
   go_ret2
   rw [← HR.out]
   exact ⟨g, rfl, MO_below hMO2.out HB6.out, below_then HB.out HB.out.size HB6.out⟩
end Go.Proofs.Ytmniglgahodghaa.K
namespace Go.Proofs.Ytmniglgahodghaa.K
open Go.RowKit Go.Proofs.YtmniglgahodghaaW.PrintWords Go.Proofs.YtmniglgahodghaaW.PrintLast Go.Proofs.YtmniglgahodghaaW.PrintMore
attribute [local go_sem] max2_int min2_int max_two min_two max_three min_three max_four min_four
set_option linter.unusedVariables false
set_option linter.unusedSimpArgs false
def memory_get.f (m : Mm) (at_ k : Int) : Option Int := (thing_first.f m at_).bind fun a => if 0 ≤ a + k ∧ a + k < m.words.length then some (rd m.words (a + k)) else none
set_option maxHeartbeats 4000000 in
set_option maxRecDepth 100000 in
theorem memory_get.calls (g : Nat) (m : Mm) (at_ k r : Int) (w : World) (hm : MV w g m) (h : memory_get.f m at_ k = some r) :
  Calls Try.prog 90 #[.pointer (some ⟨g, 0, none⟩), .int .i64 at_, .int .i64 k] w fun e w' => e = .returned (.int .i64 r) ∧ Below w.heap.size w w' := by
 unfold memory_get.f at h
 obtain ⟨a, ha, h⟩ := Option.bind_eq_some_iff.mp h
 have l1 := thing_first_lt ha
 split at h
 case isFalse => simp at h
 case isTrue h2 =>
 have HFi := Aside0.mk ha
 have HM1 := Aside0.mk hm
 have HR := Aside0.mk (Option.some.inj h)
 obtain ⟨j, hj⟩ : ∃ j, j = a + k := ⟨_, rfl⟩
 have q1 : IntKind.i64.wrap (a + k) = j := by rw [hj]; exact IntWalk.i64_in _ ⟨by omega, by omega⟩
 rw [← hj] at HR
 obtain ⟨AW, cW, AC, cC, AF, cF, AB, cB, h0, hW, _, _, _, _⟩ := hm
 have p1 := eq_true (show 0 ≤ j by omega)
 have p2 := eq_true (show j < (m.words.length : Int) by omega)
 obtain ⟨ad, e0, hx⟩ := Kd.at_int hW j (by omega) (by omega)
 cases e0
 have g0 := (blk_cell h0 0).trans rfl
 have HB := Aside0.mk (Below.refl w.heap.size w)
 clear ha h h0 hW h2 l1 hj
 go_enter Try.func90, Try.ntmps90
 go_wp2
 refine start_ (n := 14) (S := fun w' => Aside0 (Below w.heap.size w w') ∧ Aside0 (MV w' g (m)) ∧ w'.cell? (⟨g, 0, none⟩) = some (.slice (some ad) m.words.length cW) ∧ w'.cell? (ad.add j.toNat) = some (.int .i64 (rd m.words j))) (ds := []) #[false, false, false, false, false, false, false, false, false, false, false, false, false, false] (by kernel_rfl) rfl rfl ⟨⟨below_drew1 HB.out⟩, ⟨MV_below HM1.out (below_drew1 (Below.refl _ _))⟩, (by go_simp), (by go_simp)⟩ (fun hHeld => ?_)
 refine pS 0 7 (lA 14 1) ?_
 refine pS 1 8 (lA 14 3) ?_
 refine pS 2 9 (lA 14 7) ?_
 refine pS 3 10 (lA 14 15) ?_
 refine pS 5 12 (lA 14 47) ?_
 refine pS 6 13 (lA 14 111) ?_
 refine pS 9 16 (lA 14 623) ?_
 refine tS 4 11 (lA 14 639) rfl rfl (by kernel_rfl) hHeld z18 ?_
 refine one_ (i := 7) (N := some 14) (lA 14 767) rfl rfl (by kernel_rfl) (by decide) (fun K hK => ?_)
 refine goes_ Try.func78 (by kernel_rfl) rfl #[.pointer (some ⟨g, 0, none⟩), .int .i64 at_] (by rfl) rfl rfl z6 ?_
 with_reducible refine (memory_thing.calls g at_ _).mono ?_
 rintro e w3 ⟨rfl, hb3⟩
 refine ⟨_, rfl, ?_⟩
 refine hK.out _ _ ⟨⟨below_step hHeld.1.out hb3⟩, ⟨MV_below hHeld.2.1.out hb3⟩, (pw_cell_below hb3 hHeld.2.2.1), (pw_cell_below hb3 hHeld.2.2.2)⟩ (fun hHeld => ?_)
 clear hK K
 refine norm_ (a' := ?_) ?_ ?_
 rotate_left
 ·show Act.put _ (some 14) _ = _
  simp only [Act.put, lA1, lA2, lA3, i64_w, i32_w]
  rfl
 refine one_ (i := 8) (N := some 15) (lA 14 1023) rfl rfl (by kernel_rfl) (by decide) (fun K hK => ?_)
 refine goes_ Try.func82 (by kernel_rfl) rfl #[thV g at_] (by rfl) rfl rfl z6 ?_
 with_reducible refine (thing_first.calls g m at_ a _ hHeld.2.1.out HFi.out).mono ?_
 rintro e w3 ⟨rfl, hb3⟩
 refine ⟨_, rfl, ?_⟩
 refine hK.out _ _ ⟨⟨below_step hHeld.1.out hb3⟩, ⟨MV_below hHeld.2.1.out hb3⟩, (pw_cell_below hb3 hHeld.2.2.1), (pw_cell_below hb3 hHeld.2.2.2)⟩ (fun hHeld => ?_)
 clear hK K
 refine norm_ (a' := ?_) ?_ ?_
 rotate_left
 ·show Act.put _ (some 15) _ = _
  simp only [Act.put, lA1, lA2, lA3, i64_w, i32_w]
  rfl
 refine pS 10 17 (lA 14 2047) ?_
 refine pS 11 18 (lA 14 4095) ?_
 refine tS 12 19 (lA 14 8191) rfl rfl (by kernel_rfl) hHeld z18 ?_
 refine pS 13 6 (lA 14 16383) ?_
 refine done_ (by kernel_rfl) ?_
 go_wp2
 go_ret
 exact ⟨by rw [← HR.out]; rfl, hHeld.1.out⟩
end Go.Proofs.Ytmniglgahodghaa.K
namespace Go.Proofs.Ytmniglgahodghaa.K
open Go.RowKit Go.Proofs.YtmniglgahodghaaW.PrintWords Go.Proofs.YtmniglgahodghaaW.PrintLast Go.Proofs.YtmniglgahodghaaW.PrintMore
attribute [local go_sem] max2_int min2_int max_two min_two max_three min_three max_four min_four
set_option linter.unusedVariables false
set_option linter.unusedSimpArgs false
def impl_leadingTo.f (a0 : Int) : Option (Bool × Int) := some (true, a0)
set_option maxHeartbeats 8000000 in
set_option maxRecDepth 100000 in
theorem impl_leadingTo.calls (a0 : Int) (r1 : Bool) (r2 : Int) (w : World) (h : impl_leadingTo.f a0 = some (r1, r2)) :
  Calls Try.prog 91 #[.int .i64 a0] w fun e w' => e = .returned (.agg #[.bool r1, .int .i64 r2]) ∧ Below w.heap.size w w' := by
 have hu112 := Try.underlying112
 have HB := Aside0.mk (Below.refl w.heap.size w)
 have H : (some (true, a0)) = some (r1, r2) := h
 clear h
 simp only [Option.some.injEq, Prod.mk.injEq] at H
 obtain ⟨rfl, rfl⟩ := H
 go_enter Try.func91, Try.ntmps91
 go_wp2_with (first | ((with_reducible refine gate_dst (N := 2) rfl ?_); refine box_event ?hg (N := 2) ?hd (cs := #[.bool false, .int .i64 0]) (t := 112) ?hr ?_; (case hd => rfl); (case hg => rfl); (case hr => first | (go_simp; done) | (go_simp; rfl)); intro gb400 hg w2 hbox hb; have BK400 := Aside0.mk (hbox); have GW400 := Aside0.mk ((by rw [hg]; exact (below_size z1) : w.heap.size ≤ gb400)); have GE400 := Aside0.mk ((by rw [hg]; exact (below_size z1) : w.heap.size ≤ gb400)); replace HB := Aside0.mk (below_step z1 hb); clear hb hbox hg; obtain ⟨hcz3_0, hcz3_1, hfz3_0, hfz3_1⟩ := cbf2 BK400))
 refine bodyPost_ret (results_cell_row rfl _ _ gb400 112 #[.bool true, .int .i64 a0] (0, 0) _ rfl (by (with_reducible repeat (first | refine blk_drewN ?_ _ | refine blk_drew ?_ | refine blk_alloc ?_ _)); refine blk_put (cs := #[.bool true, .int .i64 0]) ?_ 1 _ rfl; (with_reducible repeat (first | refine blk_drewN ?_ _ | refine blk_drew ?_ | refine blk_alloc ?_ _)); refine blk_put (cs := #[.bool false, .int .i64 0]) ?_ 0 _ rfl; (with_reducible repeat (first | refine blk_drewN ?_ _ | refine blk_drew ?_ | refine blk_alloc ?_ _)); exact BK400.out) Try.underlying112 rfl (by kernel_rfl)) rfl ?_
 exact ⟨by first | rfl | (simp [errW_none, errW_some] <;> rfl) | (simp [*, errW_none, errW_some] <;> rfl), by repeat (first | (with_reducible first | exact HB.out | apply below_alloc | apply pw_below_drewN | apply below_drew1 | refine below_set ?_ GE400.out) | exact HB.out)⟩
end Go.Proofs.Ytmniglgahodghaa.K
namespace Go.Proofs.Ytmniglgahodghaa.K
open Go.RowKit Go.Proofs.YtmniglgahodghaaW.PrintWords Go.Proofs.YtmniglgahodghaaW.PrintLast Go.Proofs.YtmniglgahodghaaW.PrintMore
attribute [local go_sem] max2_int min2_int max_two min_two max_three min_three max_four min_four
set_option linter.unusedVariables false
set_option linter.unusedSimpArgs false
def memory_number.f (k : Nat) (m : Mm) (at_ : Int) : Option Int := if at_ = 0 then some 0 else (slices_BinarySearch_int_int.f k m.begins at_).bind fun p => some (wrap64 (p.1 + 1))
set_option maxHeartbeats 4000000 in
set_option maxRecDepth 100000 in
theorem memory_number.calls (k : Nat) (g : Nat) (m : Mm) (at_ r : Int) (w : World) (hm : MV w g m) (h : memory_number.f k m at_ = some r) :
  Calls Try.prog 92 #[.pointer (some ⟨g, 0, none⟩), .int .i64 at_] w fun e w' => e = .returned (.int .i64 r) ∧ Below w.heap.size w w' := by
 unfold memory_number.f at h
 by_cases c0 : at_ = 0
 ·rw [if_pos c0] at h
  obtain rfl := Option.some.inj h
  have d0 : (at_ == 0) = true := beq_iff_eq.mpr c0
  clear c0 h
  go_enter Try.func92, Try.ntmps92
  go_wp2
  go_ret
  exact ⟨rfl, by repeat (first | exact Below.refl _ _ | apply below_alloc | apply pw_below_drewN | apply below_drew1)⟩
 rw [if_neg c0] at h
 have d0 : (at_ == 0) = false := beq_eq_false_iff_ne.mpr c0
 obtain ⟨⟨p1, p2⟩, hp, h⟩ := Option.bind_eq_some_iff.mp h
 have HR := Aside0.mk (Option.some.inj h)
 have HP := Aside0.mk hp
 obtain ⟨AW, cW, AC, cC, AF, cF, AB, cB, h0, _, _, _, hB, _, _, _, lB⟩ := hm
 have HBg := Aside0.mk hB
 have HL := Aside0.mk lB
 have g6 := (blk_cell h0 6).trans rfl
 clear hp h h0 hB lB c0
 go_enter Try.func92, Try.ntmps92
 go_wp2_with (go_at_call 96; refine (slices_BinarySearch_int_int.calls k AB cB m.begins at_ p1 p2 _ HBg.out HL.out HP.out).mono ?_; rintro e w' ⟨rfl, ⟨nd, rfl⟩⟩)
 go_ret
 exact ⟨by rw [← HR.out, ← i64_w]; rfl, (Drawn0.step (Drawn0.refl _) _).below⟩
end Go.Proofs.Ytmniglgahodghaa.K
namespace Go.Proofs.Ytmniglgahodghaa.K
open Go.RowKit Go.Proofs.YtmniglgahodghaaW.PrintWords Go.Proofs.YtmniglgahodghaaW.PrintLast Go.Proofs.YtmniglgahodghaaW.PrintMore
attribute [local go_sem] max2_int min2_int max_two min_two max_three min_three max_four min_four
set_option linter.unusedVariables false
set_option linter.unusedSimpArgs false
def objVals (q : Nat) (m : Mm) (a n : Int) : Nat → Int → List S112 → Option (List S112)
  | 0, _, _ => none
  | j + 1, x, acc => if x < n then (memory_get.f m a x).bind fun v => (thing_leads.f m a x).bind fun d => if acc.length ≤ 1048576 ∧ x ≤ 1048576 then
      (if d = true then (memory_number.f q m v).bind fun u => objVals q m a n j (x + 1) (acc ++ [⟨true, u⟩]) else objVals q m a n j (x + 1) (acc ++ [⟨false, v⟩])) else none else some acc
def objsL (q : Nat) (m : Mm) : List Int → List S86 → Option (List S86)
  | [], acc => some acc
  | a :: r, acc => (thing_class.f m a).bind fun c => (thing_count.f m a).bind fun n => (objVals q m a n q 0 []).bind fun vs => if acc.length ≤ 1048576 ∧ 0 ≤ n then objsL q m r (acc ++ [⟨c, vs⟩]) else none
def memory_objs.f (q : Nat) (m : Mm) : Option (List S86) := if m.begins.length ≤ 1048576 then objsL q m m.begins [] else none
theorem S_grown_ {α : Type} {d : Kd α} {e base : Nat} {ok : Nat → Prop} {w w1 : World} {v : Value} {xs : List α} {row : Option Nat} (h : Kd.S d e w base ok v xs) (hg : w.grownBy w1 row) (hne : ∀ k, ok k → some k ≠ row) : Kd.S d e w1 base ok v xs := by
  obtain ⟨f, hR⟩ := h
  exact ⟨f, Kd.R_grown hR hg hne⟩
theorem S_far_ {α : Type} {d : Kd α} {e base : Nat} {ok : Nat → Prop} {w : World} {v : Value} {xs : List α} (h : Kd.S d e w base ok v xs) {p : Addr} (hne : ∀ k, ok k → k ≠ p.block) (u : Value) : Kd.S d e (w.setCell p u) base ok v xs := by
  obtain ⟨f, hR⟩ := h
  exact ⟨f, Kd.R_far hR hne u⟩
set_option maxHeartbeats 32000000 in
set_option maxRecDepth 100000 in
theorem memory_objs.calls (q : Nat) (g : Nat) (m : Mm) (r : List S86) (w : World) (hm : MV w g m) (h : memory_objs.f q m = some r) :
  Calls Try.prog 53 #[.pointer (some ⟨g, 0, none⟩)] w fun e w' => ∃ v0_ : Value, e = .returned v0_ ∧ Kd.S k86 86 w' w.heap.size (fun _ => True) v0_ r ∧ Below w.heap.size w w' := by
 unfold memory_objs.f at h
 split at h
 case isFalse => simp at h
 case isTrue hl =>
 have HL := Aside0.mk hl
 have HM := Aside0.mk hm
 have HA0 := Aside0.mk h
 obtain ⟨AW, cW, AC, cC, AF, cF, AB, cB, h0, _, _, _, hB, _, _, _, lB⟩ := hm
 have HBg := Aside0.mk hB
 have g6 := (blk_cell h0 6).trans rfl
 clear h h0 hB lB
 go_enter Try.func53, Try.ntmps53
 go_wp2
 go_loopw [3, 15] (fun v3 v15 wr => ∃ (j : Nat) (acc : List S86), v15 = .int .i64 j ∧ j ≤ m.begins.length ∧ Aside0 (objsL q m (m.begins.drop j) acc = some r) ∧ Aside0 (Kd.S k86 86 wr w.heap.size (fun _ => True) v3 acc) ∧ Aside0 (Below w.heap.size w wr)) (fun _ v15 _ => m.begins.length - (intOf v15).toNat)
 case atStart => exact ⟨0, [], rfl, Nat.zero_le _, by rw [List.drop_zero]; exact HA0, ⟨Kd.S_nil _ _ _ _ _⟩, ⟨Below.refl _ _⟩⟩
 case round =>
  clear HA0 g6
  obtain ⟨j, acc, rfl, hj, HA, HS, HB⟩ := hrel
  by_cases c : j < m.begins.length
  ·have d0 : decide ((j : Int) < m.begins.length) = true := decide_eq_true (by omega)
   obtain ⟨ad, e0, hx⟩ := Kd.at_int (Kd.C_below HBg.out HB.out) (j : Int) (by omega) (by omega)
   cases e0
   have p1 := eq_true (show (0 : Int) ≤ (j : Int) by omega)
   have p2 := eq_true (show (j : Int) < (m.begins.length : Int) by omega)
   obtain ⟨a, ha⟩ : ∃ a, a = rd m.begins j := ⟨_, rfl⟩
   rw [← ha, Int.toNat_natCast] at hx
   have hh := HA.out
   have hea : m.begins[j] = a := by rw [ha]; unfold rd; rw [Int.toNat_natCast, List.getD_eq_getElem?_getD, List.getElem?_eq_getElem c]; rfl
   rw [List.drop_eq_getElem_cons c, hea, objsL] at hh
   obtain ⟨cl, hc, hh⟩ := Option.bind_eq_some_iff.mp hh
   obtain ⟨n, hn, hh⟩ := Option.bind_eq_some_iff.mp hh
   obtain ⟨vs, hv, hh⟩ := Option.bind_eq_some_iff.mp hh
   split at hh
   case isFalse => simp at hh
   case isTrue hal =>
   have HC := Aside0.mk hc
   have HN := Aside0.mk hn
   have HV := Aside0.mk hv
   have HH := Aside0.mk hh
   have HAL := Aside0.mk hal
   have HJ := Aside0.mk c
   clear hc hn hv hh hal ha hea HA hj
   obtain ⟨b1, hb1⟩ : ∃ b, b = wr.heap.size := ⟨_, rfl⟩
   have HS1 := Aside0.mk (show Kd.S k86 86 wr w.heap.size (fun k_ => k_ < b1) _ acc from Kd.S_mono (Kd.S_bound HS.out) (fun k_ hk_ => by rw [hb1]; exact hk_.2.2.1))
   have HZ := Aside0.mk (show w.heap.size ≤ b1 by rw [hb1]; exact HB.out.size)
   clear HS c
   go_wp2_with fail
   go_at_call 78
   refine (memory_thing.calls g a _).mono ?_
   rintro e w1 ⟨rfl, hb⟩
   have HB1 := Aside0.mk (below_step HB.out hb)
   replace HS1 := Aside0.mk (Kd.S_below HS1.out hb)
   have h1 := below_size hb
   rw [← hb1] at h1
   clear hb hb1 HB hx p1 p2
   unfold thV
   obtain ⟨bt, hbt⟩ : ∃ b, b = w1.heap.size := ⟨_, rfl⟩
   go_wp2_with fail
   go_at_call 89
   refine (thing_class.calls g m a cl _ (MV_below HM.out (below_alloc HB1.out _)) HC.out).mono ?_
   rintro e w2 ⟨rfl, hb⟩
   have BT := Aside0.mk (box_new hb)
   have HB2 := Aside0.mk (below_step (below_alloc HB1.out _) hb)
   replace HS1 := Aside0.mk (Kd.S_below (Kd.S_alloc HS1.out _) hb)
   have h2 : bt < w2.heap.size := by rw [hbt]; exact blk_lt BT.out
   rw [← hbt] at BT h1 ⊢
   clear hb hbt HB1
   obtain ⟨bo, hbo⟩ : ∃ b, b = w2.heap.size := ⟨_, rfl⟩
   have t0 : ∀ o, (w2.alloc o).cell? ⟨bt, 0, none⟩ = _ := fun o => (blk_cell (blk_alloc BT.out o) 0).trans rfl
   have t1 : ∀ o, (w2.alloc o).cell? ⟨bt, 1, none⟩ = _ := fun o => (blk_cell (blk_alloc BT.out o) 1).trans rfl
   have t0' := (blk_cell BT.out 0).trans rfl
   have t1' := (blk_cell BT.out 1).trans rfl
   go_wp2_with fail
   go_at_call 81
   refine (thing_count.calls g m a n _ (MV_below HM.out (below_alloc HB2.out _)) HN.out).mono ?_
   rintro e w3 ⟨rfl, hb⟩
   have BO := Aside0.mk (box_new hb)
   replace BT := Aside0.mk (blk_below (blk_alloc BT.out _) hb)
   have HB3 := Aside0.mk (below_step (below_alloc HB2.out _) hb)
   replace HS1 := Aside0.mk (Kd.S_below (Kd.S_alloc HS1.out _) hb)
   have h3 : bo < w3.heap.size := by rw [hbo]; exact blk_lt BO.out
   rw [← hbo] at BO h2 ⊢
   obtain ⟨b2, hb2⟩ : ∃ b, b = w3.heap.size := ⟨_, rfl⟩
   rw [← hb2] at h3
   have HO := Aside0.mk (show w.heap.size ≤ b1 ∧ b1 ≤ bt ∧ bt < bo ∧ bo < b2 from ⟨HZ.out, h1, h2, h3⟩)
   have RV := Aside0.mk (show Kd.R k112 112 w3 b2 (fun k_ => b2 ≤ k_) (.slice none 0 0) [] from Kd.R_nil _ _ _ _ _)
   have HW := Aside0.mk (show b2 ≤ w3.heap.size by omega)
   clear hb hbo hb2 HB2 t0 t1 t0' t1' h1 h2 h3 HZ
   go_wp2
   go_loopw [27] (fun v27 wi => ∃ (x : Int) (k2 : Nat) (av : List S112) (vv : Value), v27 = .int .i64 x ∧ Aside0 (0 ≤ x ∧ x ≤ n) ∧ Aside0 (objVals q m a n k2 x av = some vs) ∧ Aside0 (wi.heap[bt]? = some (.cells #[.pointer (some ⟨g, 0, none⟩), .int .i64 a] 104 (0, 0))) ∧ Aside0 (wi.heap[bo]? = some (.cells #[.int .i64 cl, vv] 86 (0, 0))) ∧ Aside0 (Kd.R k112 112 wi b2 (fun k_ => b2 ≤ k_) vv av) ∧ Aside0 (Kd.S k86 86 wi w.heap.size (fun k_ => k_ < b1) u3 acc) ∧ Aside0 (Below w.heap.size w wi) ∧ Aside0 (b2 ≤ wi.heap.size)) (fun v27 _ => (n - intOf v27).toNat)
   case atStart => exact ⟨0, q, [], _, rfl, ⟨by have := HAL.out; omega⟩, HV, BT, BO, RV, HS1, HB3, HW⟩
   case round =>
   clear HV BT BO RV HS1 HB3 HW
   obtain ⟨x, k2, av, vv, rfl, HX, HA, BT, BO, RV, HS1, HB3, HW⟩ := hrel
   have hh2 := HA.out
   clear HA
   cases k2 with
   | zero => exact absurd hh2 (by simp [objVals])
   | succ k2 =>
    unfold objVals at hh2
    have hho := HO.out
    have hhx := HX.out
    by_cases c : x < n
    ·rw [if_pos c] at hh2
     have d1 : decide (x < n) = true := decide_eq_true c
     obtain ⟨v, hv, hh2⟩ := Option.bind_eq_some_iff.mp hh2
     obtain ⟨d, hd, hh2⟩ := Option.bind_eq_some_iff.mp hh2
     split at hh2
     case isFalse => simp at hh2
     case isTrue hal2 =>
     have HG := Aside0.mk hv
     have HD := Aside0.mk hd
     have HA2 := Aside0.mk hal2
     have HH2 := Aside0.mk hh2
     clear hv hd hh2
     have q1 : IntKind.i64.wrap (x + 1) = x + 1 := IntWalk.i64_in _ ⟨by omega, by omega⟩
     have HCx := Aside0.mk c
     clear c hho hhx hal2
     go_wp2_with fail
     go_at_call 90
     refine (memory_get.calls g m a x v _ (MV_below HM.out HB3.out) HG.out).mono ?_
     rintro e w4 ⟨rfl, hb⟩
     replace BT := Aside0.mk (blk_below BT.out hb)
     replace BO := Aside0.mk (blk_below BO.out hb)
     replace RV := Aside0.mk (Kd.R_below RV.out hb)
     replace HS1 := Aside0.mk (Kd.S_below HS1.out hb)
     replace HB3 := Aside0.mk (below_step HB3.out hb)
     replace HW := Aside0.mk (Nat.le_trans HW.out (below_size hb))
     clear hb
     have t0 := (blk_cell BT.out 0).trans rfl
     have t1 := (blk_cell BT.out 1).trans rfl
     go_wp2_with fail
     go_at_call 83
     refine (thing_leads.calls g m a x d _ (MV_below HM.out HB3.out) HD.out).mono ?_
     rintro e w5 ⟨rfl, hb⟩
     replace BT := Aside0.mk (blk_below BT.out hb)
     replace BO := Aside0.mk (blk_below BO.out hb)
     replace RV := Aside0.mk (Kd.R_below RV.out hb)
     replace HS1 := Aside0.mk (Kd.S_below HS1.out hb)
     replace HB3 := Aside0.mk (below_step HB3.out hb)
     replace HW := Aside0.mk (Nat.le_trans HW.out (below_size hb))
     clear hb t0 t1
     obtain ⟨AV, cV, hvv⟩ := Kd.R_slice RV.out
     subst hvv
     have o1 := (blk_cell BO.out 1).trans rfl
     have y1 := blk_frozen BO.out 1
     have hh2 := HH2.out
     clear HH2
     cases d with
     | false =>
      rw [if_neg (by simp)] at hh2
      have HR2 := Aside0.mk hh2
      clear hh2
      go_wp2_with ((with_reducible refine gate_builtin (b := .append) (xs := #[.tmp 47, .tmp 50]) rfl ?_); at_builtin; refine Kd.R_append k112 (w0 := w5) b2 rfl (.tmp 47) (.tmp 50) 84 112 (.agg #[(.bool false), (.int .i64 0)]) 16 rfl Try.underlying84 info112 rfl (by decide) (by omega) (.slice AV av.length cV) av (⟨false, v⟩ : S112) [.bool false, .int .i64 v] (fun k_ => b2 ≤ k_) (fun _ => False) rfl (by first | rfl | (go_simp; done) | (go_simp; rfl)) ?aP (fun _ hk => hk.elim) ?aF ?aO ?aB ?aS ?aL ?_; (case aP => exact k112_mkM _ _ _ (⟨false, v⟩ : S112)); (case aB => exact Below.refl _ _); (case aF => exact fun k hk => Nat.le_trans HW.out hk); (case aO => exact RV.out); (case aS => exact HW.out); (case aL => have := HA2.out; omega); intro v67 w6 ho hbn hgr hat; obtain ⟨AN, cN, e67⟩ := Kd.R_slice ho; subst e67; have hob : ∀ k, k < b2 → some k ≠ (Value.slice AV av.length cV).ownBlock := fun k hk e_ => (by have := RV.out.1 k e_.symm; omega); have BT6 := Aside0.mk (blk_grown BT.out hgr (hob bt (by have := HO.out; omega))); have BO6 := Aside0.mk (blk_grown BO.out hgr (hob bo (by have := HO.out; omega))); have HS6 := Aside0.mk (S_grown_ HS1.out hgr (fun k hk => hob k (by have := HO.out; omega))); have R6 := Aside0.mk ho; have HB6 := Aside0.mk (HB3.out.trans (hbn.mono (by have := HO.out; omega))); have HW6 := Aside0.mk (Nat.le_trans HW.out hbn.size); have o6 := (blk_cell BO6.out 1).trans rfl; have y6 := blk_frozen BO6.out 1; clear ho hbn hgr hat hob; clear o1 y1)
      go_roundw
      case rel => exact ⟨x + 1, k2, av ++ [⟨false, v⟩], _, rfl, ⟨by have := HX.out; have := HCx.out; omega⟩, HR2, ⟨blk_far BT6.out (by have := HO.out; show bt ≠ bo; omega) _⟩, ⟨blk_put BO6.out 1 _ rfl⟩, by rw [show av.length + 1 = (av ++ [(⟨false, v⟩ : S112)]).length by simp]; exact ⟨Kd.R_far (p := ⟨bo, 1, none⟩) R6.out (fun k_ hk_ => by have := HO.out; show k_ ≠ bo; omega) _⟩, ⟨S_far_ HS6.out (p := ⟨bo, 1, none⟩) (fun k_ hk_ => by have := HO.out; show k_ ≠ bo; omega) _⟩, ⟨below_set HB6.out (by have := HO.out; omega)⟩, ⟨by have := HW6.out; simpa using this⟩⟩
      case measure => have := HX.out; have := HCx.out; simp only [intOf]; omega
     | true =>
      rw [if_pos rfl] at hh2
      obtain ⟨u, hu, hh2⟩ := Option.bind_eq_some_iff.mp hh2
      have HNu := Aside0.mk hu
      have HR2 := Aside0.mk hh2
      clear hh2 hu
      go_wp2
      refine start_ (n := 10) (S := fun w' => Aside0 (Below w5.heap.size w5 w') ∧ w'.cell? ⟨bo, 1, none⟩ = some (.slice AV av.length cV)) (ds := [7, 9]) #[false, false, false, false, false, false, false, false, false, false] (by kernel_rfl) rfl rfl ⟨⟨below_drew1 (Below.refl _ _)⟩, (by go_simp)⟩ (fun hHeld => ?_)
      refine pS 0 37 #[true, false, false, false, false, false, false, false, false, false] ?_
      refine pS 2 39 #[true, false, true, false, false, false, false, false, false, false] ?_
      refine pS 3 40 #[true, false, true, true, false, false, false, false, false, false] ?_
      refine tS 1 38 #[true, true, true, true, false, false, false, false, false, false] rfl rfl (by kernel_rfl) hHeld (by rintro w' ⟨s0, s1⟩; go_simp; with_reducible rfl) ?_
      refine one_ (i := 4) (N := some 41) #[true, true, true, true, true, false, false, false, false, false] rfl rfl (by kernel_rfl) (by decide) (fun K hK => ?_)
      refine goes_ Try.func92 (by kernel_rfl) rfl #[.pointer (some ⟨g, 0, none⟩), .int .i64 v] (by rfl) rfl rfl z6 ?_
      with_reducible refine (memory_number.calls q g m v u _ (MV_below HM.out (below_step HB3.out hHeld.1.out)) HNu.out).mono ?_
      rintro e w7 ⟨rfl, hb7⟩
      refine ⟨_, rfl, ?_⟩
      refine hK.out _ _ ⟨⟨below_step hHeld.1.out hb7⟩, (pw_cell_below hb7 hHeld.2)⟩ (fun hHeld => ?_)
      clear hK K
      refine norm_ (a' := ?_) ?_ ?_
      rotate_left
      ·show Act.put _ (some 41) _ = _
       simp only [Act.put, lA1, lA2, lA3, i64_w, i32_w]
       rfl
      refine one_ (i := 5) (N := some 42) #[true, true, true, true, true, true, false, false, false, false] rfl rfl (by kernel_rfl) (by decide) (fun K hK => ?_)
      refine goes_ Try.func91 (by kernel_rfl) rfl #[.int .i64 u] (by rfl) rfl rfl z6 ?_
      with_reducible refine (impl_leadingTo.calls u true u _ rfl).mono ?_
      rintro e w8 ⟨rfl, hd8⟩
      have hb8 := hd8
      refine ⟨_, rfl, ?_⟩
      refine hK.out _ _ ⟨⟨below_step hHeld.1.out hb8⟩, (pw_cell_below hb8 hHeld.2)⟩ (fun hHeld => ?_)
      clear hK K
      refine norm_ (a' := ?_) ?_ ?_
      rotate_left
      ·show Act.put _ (some 42) _ = _
       simp only [Act.put, lA1, lA2, lA3, i64_w, i32_w]
       rfl
      refine one_ (i := 6) (N := some 43) #[true, true, true, true, true, true, true, false, false, false] rfl rfl (by kernel_rfl) (by decide) (fun K hK => ?_)
      have HBW := Aside0.mk hHeld.1.out
      refine value_ (w1 := ?_) (v := ?_) (by rfl) rfl ?_ ?_
      rotate_left 2
      ·go_simp
       constructor
       ·rfl
       ·rfl
      refine hK.out _ _ ⟨⟨below_alloc hHeld.1.out _⟩, (pw_cell_below (below_alloc (Below.refl _ _) _) hHeld.2)⟩ (fun hHeld => ?_)
      clear hK K
      refine norm_ (a' := ?_) ?_ ?_
      rotate_left
      ·show Act.put _ (some 43) _ = _
       simp only [Act.put, lA1, lA2, lA3, i64_w, i32_w]
       rfl
      refine last_ (i := 7) (N := some 44) #[true, true, true, true, true, true, true, true, false, false] rfl rfl (by kernel_rfl) (by decide) (fun K hK => ?_)
      refine Kd.R_append_step k112 (w0 := w5) b2 (by rfl) (.tmp 38) (.tmp 43) 84 112 (.agg #[(.bool false), (.int .i64 0)]) 16 rfl Try.underlying84 info112 rfl (by decide) (by omega) (.slice AV av.length cV) av (⟨true, u⟩ : S112) [.bool true, .int .i64 u] (fun k_ => b2 ≤ k_) (fun _ => False) rfl (by first | rfl | (go_simp; done) | (go_simp; rfl)) ?aP (fun _ hk => hk.elim) ?aF ?aO ?aB ?aS ?aL ?_
      (case aP => exact k112_mkM _ _ _ (⟨true, u⟩ : S112))
      (case aB => exact (HBW.out.mono HW.out))
      (case aF => exact fun k hk => Nat.le_trans (Nat.le_trans HW.out HBW.out.size) hk)
      (case aO => exact (Kd.R_below RV.out HBW.out))
      (case aS => exact (Nat.le_trans HW.out HBW.out.size))
      (case aL => have := HA2.out; omega)
      intro v67 w6 ho hbn hgr hat
      obtain ⟨AN, cN, e67⟩ := Kd.R_slice ho
      subst e67
      have hob : ∀ k, k < b2 → some k ≠ (Value.slice AV av.length cV).ownBlock := fun k hk e_ => (by have := RV.out.1 k e_.symm; omega)
      have BT6 := Aside0.mk (blk_grown (blk_below BT.out HBW.out) hgr (hob bt (by have := HO.out; omega)))
      have BO6 := Aside0.mk (blk_grown (blk_below BO.out HBW.out) hgr (hob bo (by have := HO.out; omega)))
      have HS6 := Aside0.mk (S_grown_ (Kd.S_below HS1.out HBW.out) hgr (fun k hk => hob k (by have := HO.out; omega)))
      have R6 := Aside0.mk ho
      have HB6 := Aside0.mk (HB3.out.trans (hbn.mono (by have := HO.out; omega)))
      have HW6 := Aside0.mk (Nat.le_trans HW.out hbn.size)
      have o6 := (blk_cell BO6.out 1).trans rfl
      have y6 := blk_frozen BO6.out 1
      clear ho hbn hgr hat hob
      clear o1 y1
      refine hK.out _ _ ?_
      clear hK K
      refine norm_ (a' := ?_) ?_ ?_
      rotate_left
      ·show Act.put _ (some 44) _ = _
       simp only [Act.put, lA1, lA2, lA3, i64_w, i32_w]
       rfl
      refine pS 8 45 #[true, true, true, true, true, true, true, true, true, false] ?_
      refine last_ (i := 9) (N := none) #[true, true, true, true, true, true, true, true, true, true] rfl rfl (by kernel_rfl) (by decide) (fun K hK => ?_)
      refine skip_ (w1 := ?_) (by rfl) rfl ?_ ?_
      rotate_left
      ·go_simp
       rfl
      refine hK.out _ _ ?_
      clear hK K
      refine done_ (by kernel_rfl) ?_
      go_wp2
      go_roundw
      case rel => exact ⟨x + 1, k2, av ++ [⟨true, u⟩], _, rfl, ⟨by have := HX.out; have := HCx.out; omega⟩, HR2, ⟨blk_far BT6.out (by have := HO.out; show bt ≠ bo; omega) _⟩, ⟨blk_put BO6.out 1 _ rfl⟩, by rw [show av.length + 1 = (av ++ [(⟨true, u⟩ : S112)]).length by simp]; exact ⟨Kd.R_far (p := ⟨bo, 1, none⟩) R6.out (fun k_ hk_ => by have := HO.out; show k_ ≠ bo; omega) _⟩, ⟨S_far_ HS6.out (p := ⟨bo, 1, none⟩) (fun k_ hk_ => by have := HO.out; show k_ ≠ bo; omega) _⟩, ⟨below_set HB6.out (by have := HO.out; omega)⟩, ⟨by have := HW6.out; simpa using this⟩⟩
      case measure => have := HX.out; have := HCx.out; simp only [intOf]; omega
    ·rw [if_neg c] at hh2
     have d1 : decide (x < n) = false := decide_eq_false c
     obtain rfl := Option.some.inj hh2
     have o0 := (blk_cell BO.out 0).trans rfl
     have o1 := (blk_cell BO.out 1).trans rfl
     obtain ⟨AV, cV, hvv⟩ := Kd.R_slice RV.out
     subst hvv
     clear hh2 c hho hhx
     go_wp2_with ((with_reducible refine gate_builtin (b := .append) (xs := #[.tmp 54, .tmp 56]) rfl ?_); at_builtin; refine Kd.S_append k86 (w0 := w) w.heap.size rfl (.tmp 54) (.tmp 56) 40 86 (.agg #[(.int .i64 0), (.slice none 0 0)]) 32 rfl Try.underlying40 info86 rfl (by decide) (by omega) u3 acc (⟨cl, av⟩ : S86) [.int .i64 cl, .slice AV av.length cV] (fun _ => True) (fun k_ => b2 ≤ k_) rfl (by first | rfl | (go_simp; done) | (go_simp; rfl)) ?aP ?aK ?aF ?aO ?aB ?aS ?aL ?_; (case aP => exact k86_mkM _ _ _ (⟨cl, av⟩ : S86) (Kd.R_lower RV.out (by have := HO.out; omega))); (case aK => exact fun k_ hk_ => ⟨trivial, fun e_ => by have := (Kd.S_R HS1.out).1 k_ e_.symm; have := HO.out; omega⟩); (case aF => exact fun _ _ => trivial); (case aO => exact Kd.S_mono HS1.out (fun k_ hk_ => ⟨trivial, by have := HO.out; omega⟩)); (case aB => exact HB3.out); (case aS => exact HB3.out.size); (case aL => have := HAL.out; omega); intro v57 w9 ho hbn hgr hat; have HS9 := Aside0.mk ho; have HB9 := Aside0.mk hbn; clear ho hbn hgr hat o0 o1)
     go_roundw
     case rel => exact ⟨j + 1, acc ++ [⟨cl, av⟩], by rw [show wrap64 ((j : Int) + 1) = ((j + 1 : Nat) : Int) by have := HL.out; have := HJ.out; unfold wrap64; omega], HJ.out, HH, HS9, HB9⟩
     case measure => rw [show wrap64 ((j : Int) + 1) = ((j + 1 : Nat) : Int) by have := HL.out; have := HJ.out; unfold wrap64; omega]; have := HJ.out; simp only [intOf, Int.toNat_natCast]; omega
  ·have d0 : decide ((j : Int) < m.begins.length) = false := decide_eq_false (by omega)
   have hh := HA.out
   rw [List.drop_eq_nil_of_le (by omega), objsL] at hh
   obtain rfl := Option.some.inj hh
   clear hh
   go_wp2
   go_ret
   exact ⟨_, rfl, HS.out, HB.out⟩
end Go.Proofs.Ytmniglgahodghaa.K
namespace Go.Proofs.Ytmniglgahodghaa.K
open Go.RowKit Go.Proofs.YtmniglgahodghaaW.PrintWords Go.Proofs.YtmniglgahodghaaW.PrintLast Go.Proofs.YtmniglgahodghaaW.PrintMore
attribute [local go_sem] max2_int min2_int max_two min_two max_three min_three max_four min_four
set_option linter.unusedVariables false
set_option linter.unusedSimpArgs false
end Go.Proofs.Ytmniglgahodghaa.K
namespace Go.Proofs.Ytmniglgahodghaa.K
open Go.RowKit Go.Proofs.YtmniglgahodghaaW.PrintWords Go.Proofs.YtmniglgahodghaaW.PrintLast Go.Proofs.YtmniglgahodghaaW.PrintMore
attribute [local go_sem] max2_int min2_int max_two min_two max_three min_three max_four min_four
set_option linter.unusedVariables false
set_option linter.unusedSimpArgs false
def objsOf (k : Nat) : Option Mm → Option (List S86)
  | none => some []
  | some m => memory_objs.f k m
def impl_MemObjs.f (k : Nat) (l0 : List (S69)) (l1_0 : List Int) (a1_1 : Int) (a1_2 : Int) (a1_3 : Int) (l1_4 : List Bool) : Option (List S86) := (mopen k k l0 l1_0 a1_1 a1_2 a1_3 l1_4).bind fun r => objsOf k r
set_option maxHeartbeats 8000000 in
set_option maxRecDepth 100000 in
theorem impl_MemObjs.calls (k : Nat) (A0 : Option Addr) (c0 : Nat) (l0 : List (S69)) (A1_0 : Option Addr) (c1_0 : Nat) (l1_0 : List Int) (a1_1 : Int) (a1_2 : Int) (a1_3 : Int) (A1_4 : Option Addr) (c1_4 : Nat) (l1_4 : List Bool) (r : List S86) (w : World) (hr0 : Kd.C k69 w A0 l0.length l0) (hc0 : l0.length ≤ c0) (hr1_0 : Kd.C (Kd.int .i64) w A1_0 l1_0.length l1_0) (hc1_0 : l1_0.length ≤ c1_0) (hr1_4 : Kd.C Kd.bool w A1_4 l1_4.length l1_4) (hc1_4 : l1_4.length ≤ c1_4) (h : impl_MemObjs.f k l0 l1_0 a1_1 a1_2 a1_3 l1_4 = some r) :
  Calls Try.prog 19 #[.slice A0 l0.length c0, .agg #[.slice A1_0 l1_0.length c1_0, .int .i64 a1_1, .int .i64 a1_2, .int .i64 a1_3, .slice A1_4 l1_4.length c1_4]] w fun e w' => ∃ v0_ : Value, e = .returned (v0_) ∧ Kd.S k86 86 w' w.heap.size (fun _ => True) v0_ r ∧ Below w.heap.size w w' := by
 unfold impl_MemObjs.f at h
 obtain ⟨m, hm, h⟩ := Option.bind_eq_some_iff.mp h
 have HM := Aside0.mk hm
 have HR0 := Aside0.mk hr0
 have HC0 := Aside0.mk hc0
 have HR1 := Aside0.mk hr1_0
 have HC1 := Aside0.mk hc1_0
 have HR4 := Aside0.mk hr1_4
 have HC4 := Aside0.mk hc1_4
 have HB := Aside0.mk (below_alloc (Below.refl w.heap.size w) (.cells #[.slice A1_0 l1_0.length c1_0, .int .i64 a1_1, .int .i64 a1_2, .int .i64 a1_3, .slice A1_4 l1_4.length c1_4] 29 (0, 0)))
 have HH := Aside0.mk h
 clear hr0 hc0 hr1_0 hc1_0 hr1_4 hc1_4 h hm
 go_enter Try.func19, Try.ntmps19
 go_wp2_with fail
 go_at_call 45
 refine (memOpen.calls k k A0 c0 l0 A1_0 c1_0 l1_0 a1_1 a1_2 a1_3 A1_4 c1_4 l1_4 m _ (Kd.C_below HR0.out HB.out) HC0.out (Kd.C_below HR1.out HB.out) HC1.out (Kd.C_below HR4.out HB.out) HC4.out HM.out).mono ?_
 cases m with
 | none =>
  rintro e w1 ⟨rfl, hb⟩
  have HB1 := Aside0.mk (below_step HB.out hb)
  have hh := Option.some.inj HH.out
  subst hh
  clear hb HM HH
  go_wp2
  go_ret
  exact ⟨_, rfl, Kd.S_nil _ _ _ _ _, HB1.out⟩
 | some m =>
  rintro e w1 ⟨g, rfl, hmo, hb⟩
  have HB1 := Aside0.mk (below_step HB.out hb)
  have HV := Aside0.mk (MO_MV hmo)
  clear hb HM hmo
  go_wp2_with fail
  go_at_call 53
  refine (memory_objs.calls k g m r _ HV.out HH.out).mono ?_
  rintro e w2 ⟨v, rfl, ho, hb⟩
  have HB2 := Aside0.mk (below_step HB1.out hb)
  have HO := Aside0.mk (Kd.S_lower ho (below_size HB1.out))
  clear hb ho
  go_wp2
  go_ret
  exact ⟨_, rfl, HO.out, HB2.out⟩
end Go.Proofs.Ytmniglgahodghaa.K
