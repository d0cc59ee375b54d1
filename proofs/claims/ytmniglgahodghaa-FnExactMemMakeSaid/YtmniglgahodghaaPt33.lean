import Derived.Test.YtmniglgahodghaaPt24
import Derived.Test.YtmniglgahodghaaPt32
import Derived.Test.YtmniglgahodghaaPt30
import Derived.Test.YtmniglgahodghaaPt31
import Derived.Shelf.Spec.SlicesInsertGrow
namespace Go.Proofs.Ytmniglgahodghaa.K
open Go.RowKit Go.Proofs.YtmniglgahodghaaW.PrintWords Go.Proofs.YtmniglgahodghaaW.PrintLast Go.Proofs.YtmniglgahodghaaW.PrintMore
attribute [local go_sem] max2_int min2_int max_two min_two max_three min_three max_four min_four
set_option linter.unusedVariables false
set_option linter.unusedSimpArgs false
def cardOk (m : Mm) (at_ v x : Int) : Option Bool := if at_ > m.young then (if v > m.young then some true else (if 0 ≤ wrap64 (Int.tdiv (wrap64 (x - m.young)) 4) ∧ wrap64 (Int.tdiv (wrap64 (x - m.young)) 4) < m.cards.length then some (rdOf false m.cards (wrap64 (Int.tdiv (wrap64 (x - m.young)) 4))) else none)) else some true
def wordAt (q : Nat) (m : Mm) (at_ k : Int) : Option Bool := (thing_first.f m at_).bind fun a => if 0 ≤ a + k ∧ a + k < m.words.length then (thing_leads.f m at_ k).bind fun b => if b = true then (if rd m.words (a + k) = 0 then some true else (memory_has.f q m (rd m.words (a + k))).bind fun h => if h = true then cardOk m at_ (rd m.words (a + k)) (a + k) else some false) else impl_isWord.f (rd m.words (a + k)) else none
def wordsOk.l (q : Nat) (m : Mm) (at_ n : Int) : Nat → Int → Option Bool
  | 0, _ => none
  | j + 1, k => if k < n then (wordAt q m at_ k).bind fun ok => if ok = true then wordsOk.l q m at_ n j (k + 1) else some false else some true
def wordsOk.f (q : Nat) (m : Mm) (at_ : Int) : Option Bool := (thing_count.f m at_).bind fun n => if n ≤ 1099511627776 then wordsOk.l q m at_ n (n.toNat + 1) 0 else none
set_option maxHeartbeats 32000000 in
set_option maxRecDepth 100000 in
theorem thing_wordsOk.calls (q g : Nat) (m : Mm) (at_ : Int) (r : Bool) (w : World) (hm : MV w g m) (h : wordsOk.f q m at_ = some r) :
  Calls Try.prog 79 #[thV g at_] w fun e w' => e = .returned (.bool r) ∧ Below w.heap.size w w' := by
 unfold wordsOk.f at h
 obtain ⟨n, hn, h⟩ := Option.bind_eq_some_iff.mp h
 split at h
 case isFalse => simp at h
 case isTrue hn2 =>
 have HN := Aside0.mk hn
 have HM := Aside0.mk hm
 have HA := Aside0.mk h
 have HN2 := Aside0.mk hn2
 clear hm hn h hn2
 unfold thV
 go_enter Try.func79, Try.ntmps79
 go_wp2_with fail
 go_at_call 81
 refine (thing_count.calls g m at_ n _ (MV_below HM.out (below_alloc (Below.refl _ _) _)) HN.out).mono ?_
 rintro e w1 ⟨rfl, hb⟩
 have HB1 := Aside0.mk (below_step (below_alloc (Below.refl _ _) _) hb : Below w.heap.size w w1)
 have HX1 := Aside0.mk (box_new hb)
 clear hb
 go_wp2
 go_loopw [8] (fun i wr => ∃ (j : Nat) (k : Int), i = .int .i64 k ∧ Aside0 (wordsOk.l q m at_ n j k = some r) ∧ Aside0 (0 ≤ k) ∧ Aside0 (wr.heap[w.heap.size]? = some (.cells #[.pointer (some ⟨g, 0, none⟩), .int .i64 at_] 104 (0, 0))) ∧ Aside0 (Below w.heap.size w wr)) (fun i _ => (n - intOf i).toNat)
 case atStart => exact ⟨n.toNat + 1, 0, rfl, HA, ⟨Int.le_refl _⟩, HX1, HB1⟩
 case round =>
  clear HA HX1 HB1
  obtain ⟨j, k, rfl, HA, HK, HX, HB⟩ := hrel
  cases j with
  | zero => exact absurd HA.out (by simp [wordsOk.l])
  | succ j1 =>
   have H := HA.out
   clear HA
   unfold wordsOk.l at H
   by_cases c0 : k < n
   case neg =>
    rw [if_neg c0] at H
    have d0 : decide (k < n) = false := decide_eq_false c0
    have HR := Aside0.mk (Option.some.inj H)
    clear H c0
    go_wp2
    go_ret
    exact ⟨by rw [← HR.out]; rfl, HB.out⟩
   case pos =>
    rw [if_pos c0] at H
    have d0 : decide (k < n) = true := decide_eq_true c0
    obtain ⟨ok, hk, H⟩ := Option.bind_eq_some_iff.mp H
    unfold wordAt at hk
    obtain ⟨a, ha, hk⟩ := Option.bind_eq_some_iff.mp hk
    split at hk
    case isFalse => simp at hk
    case isTrue hx =>
    obtain ⟨b, hb, hk⟩ := Option.bind_eq_some_iff.mp hk
    have lf := thing_first_lt ha
    have HFi := Aside0.mk ha
    have HLe := Aside0.mk hb
    obtain ⟨x, hx0⟩ : ∃ x, x = a + k := ⟨_, rfl⟩
    have q1 : IntKind.i64.wrap (a + k) = x := by rw [hx0]; exact IntWalk.i64_in _ ⟨by omega, by omega⟩
    rw [← hx0] at hk hx
    obtain ⟨v, hv⟩ : ∃ v, v = rd m.words x := ⟨_, rfl⟩
    rw [← hv] at hk
    have HV := Aside0.mk hv
    have p1 := eq_true hx.1
    have p2 := eq_true hx.2
    have HXw := Aside0.mk (show x < (m.words.length : Int) ∧ 0 ≤ x from ⟨hx.2, hx.1⟩)
    have HLf := Aside0.mk lf
    have HC0 := Aside0.mk c0
    obtain ⟨k1, hk1⟩ : ∃ k1, k1 = k + 1 := ⟨_, rfl⟩
    have q2 : IntKind.i64.wrap (k + 1) = k1 := by rw [hk1]; exact IntWalk.i64_in _ ⟨by have := HK.out; omega, by have := HN2.out; omega⟩
    have HK1 := Aside0.mk hk1
    rw [← hk1] at H
    have HH := Aside0.mk H
    have HQ := Aside0.mk hk
    clear ha hb hx0 hx hv lf c0 hk1 H hk
    cases b with
    | false =>
     have hq := HQ.out
     rw [if_neg (by simp)] at hq
     have HQ2 := Aside0.mk hq
     clear hq HQ
     cases ok with
     | false =>
      have HZ := Aside0.mk (show false = r by have := HH.out; rw [if_neg (by simp)] at this; exact Option.some.inj this)
      clear HH
      have b0 := (blk_cell HX.out 0).trans rfl
      have b1 := (blk_cell HX.out 1).trans rfl
      go_wp2_with fail
      go_at_call 82
      refine (thing_first.calls g m at_ a _ (MV_below HM.out HB.out) HFi.out).mono ?_
      rintro e w2 ⟨rfl, hb⟩
      clear b0 b1
      have HBn := Aside0.mk (below_step HB.out hb)
      have HXn := Aside0.mk ((hb.block _ (blk_lt HX.out)).trans HX.out)
      clear hb HB HX
      have HB := HBn
      have HX := HXn
      clear HBn HXn
      have b0 := (blk_cell HX.out 0).trans rfl
      have b1 := (blk_cell HX.out 1).trans rfl
      obtain ⟨AW, cW, AC, cC, AF, cF, AB, cB, h0, hW, hC, _⟩ := MV_below HM.out HB.out
      obtain ⟨ad, e0, hcell⟩ := Kd.at_int hW x (by have := HXw.out; omega) (by have := HXw.out; omega)
      cases e0
      rw [← HV.out] at hcell
      have g0 := (blk_cell h0 0).trans rfl
      have G0 := Aside0.mk h0
      have HCc := Aside0.mk hC
      clear h0 hW hC
      go_wp2_with fail
      go_at_call 83
      refine (thing_leads.calls g m at_ k false _ (MV_below HM.out HB.out) HLe.out).mono ?_
      rintro e w3 ⟨rfl, hb⟩
      clear b0 b1 hcell g0
      have G0n := Aside0.mk ((hb.block _ (blk_lt G0.out)).trans G0.out)
      have HCn := Aside0.mk (Kd.C_below HCc.out hb)
      clear G0 HCc
      have G0 := G0n
      have HCc := HCn
      clear G0n HCn
      have HBn := Aside0.mk (below_step HB.out hb)
      have HXn := Aside0.mk ((hb.block _ (blk_lt HX.out)).trans HX.out)
      clear hb HB HX
      have HB := HBn
      have HX := HXn
      clear HBn HXn
      go_wp2_with (go_at_call 86; refine (impl_isWord.calls v false _ HQ2.out).mono ?_; rintro e w4 ⟨rfl, hd⟩; have hb := hd.below; have HBn := Aside0.mk (below_step HB.out hb); have HXn := Aside0.mk ((hb.block _ (blk_lt HX.out)).trans HX.out); clear hd hb HB HX; have HB := HBn; have HX := HXn; clear HBn HXn)
      go_ret
      exact ⟨by rw [← HZ.out]; rfl, HB.out⟩
     | true =>
      have HZ := Aside0.mk (show wordsOk.l q m at_ n j1 k1 = some r by have := HH.out; rw [if_pos rfl] at this; exact this)
      clear HH
      have b0 := (blk_cell HX.out 0).trans rfl
      have b1 := (blk_cell HX.out 1).trans rfl
      go_wp2_with fail
      go_at_call 82
      refine (thing_first.calls g m at_ a _ (MV_below HM.out HB.out) HFi.out).mono ?_
      rintro e w2 ⟨rfl, hb⟩
      clear b0 b1
      have HBn := Aside0.mk (below_step HB.out hb)
      have HXn := Aside0.mk ((hb.block _ (blk_lt HX.out)).trans HX.out)
      clear hb HB HX
      have HB := HBn
      have HX := HXn
      clear HBn HXn
      have b0 := (blk_cell HX.out 0).trans rfl
      have b1 := (blk_cell HX.out 1).trans rfl
      obtain ⟨AW, cW, AC, cC, AF, cF, AB, cB, h0, hW, hC, _⟩ := MV_below HM.out HB.out
      obtain ⟨ad, e0, hcell⟩ := Kd.at_int hW x (by have := HXw.out; omega) (by have := HXw.out; omega)
      cases e0
      rw [← HV.out] at hcell
      have g0 := (blk_cell h0 0).trans rfl
      have G0 := Aside0.mk h0
      have HCc := Aside0.mk hC
      clear h0 hW hC
      go_wp2_with fail
      go_at_call 83
      refine (thing_leads.calls g m at_ k false _ (MV_below HM.out HB.out) HLe.out).mono ?_
      rintro e w3 ⟨rfl, hb⟩
      clear b0 b1 hcell g0
      have G0n := Aside0.mk ((hb.block _ (blk_lt G0.out)).trans G0.out)
      have HCn := Aside0.mk (Kd.C_below HCc.out hb)
      clear G0 HCc
      have G0 := G0n
      have HCc := HCn
      clear G0n HCn
      have HBn := Aside0.mk (below_step HB.out hb)
      have HXn := Aside0.mk ((hb.block _ (blk_lt HX.out)).trans HX.out)
      clear hb HB HX
      have HB := HBn
      have HX := HXn
      clear HBn HXn
      go_wp2_with (go_at_call 86; refine (impl_isWord.calls v true _ HQ2.out).mono ?_; rintro e w4 ⟨rfl, hd⟩; have hb := hd.below; have HBn := Aside0.mk (below_step HB.out hb); have HXn := Aside0.mk ((hb.block _ (blk_lt HX.out)).trans HX.out); clear hd hb HB HX; have HB := HBn; have HX := HXn; clear HBn HXn)
      go_roundw
      case rel => exact ⟨j1, k1, rfl, HZ, ⟨by have := HK1.out; have := HK.out; omega⟩, HX, HB⟩
      case measure => have := HK1.out; have := HC0.out; have := HK.out; show (n - k1).toNat < (n - k).toNat; omega
    | true =>
     have hq := HQ.out
     rw [if_pos rfl] at hq
     by_cases c1 : v = 0
     ·rw [if_pos c1] at hq
      have e1 : (v != 0) = false := by rw [c1]; rfl
      have HQ2 := Aside0.mk (Option.some.inj hq)
      clear hq HQ c1
      obtain rfl := HQ2.out
      have HZ := Aside0.mk (show wordsOk.l q m at_ n j1 k1 = some r by have := HH.out; rw [if_pos rfl] at this; exact this)
      clear HH
      have b0 := (blk_cell HX.out 0).trans rfl
      have b1 := (blk_cell HX.out 1).trans rfl
      go_wp2_with fail
      go_at_call 82
      refine (thing_first.calls g m at_ a _ (MV_below HM.out HB.out) HFi.out).mono ?_
      rintro e w2 ⟨rfl, hb⟩
      clear b0 b1
      have HBn := Aside0.mk (below_step HB.out hb)
      have HXn := Aside0.mk ((hb.block _ (blk_lt HX.out)).trans HX.out)
      clear hb HB HX
      have HB := HBn
      have HX := HXn
      clear HBn HXn
      have b0 := (blk_cell HX.out 0).trans rfl
      have b1 := (blk_cell HX.out 1).trans rfl
      obtain ⟨AW, cW, AC, cC, AF, cF, AB, cB, h0, hW, hC, _⟩ := MV_below HM.out HB.out
      obtain ⟨ad, e0, hcell⟩ := Kd.at_int hW x (by have := HXw.out; omega) (by have := HXw.out; omega)
      cases e0
      rw [← HV.out] at hcell
      have g0 := (blk_cell h0 0).trans rfl
      have G0 := Aside0.mk h0
      have HCc := Aside0.mk hC
      clear h0 hW hC
      go_wp2_with fail
      go_at_call 83
      refine (thing_leads.calls g m at_ k true _ (MV_below HM.out HB.out) HLe.out).mono ?_
      rintro e w3 ⟨rfl, hb⟩
      clear b0 b1 hcell g0
      have G0n := Aside0.mk ((hb.block _ (blk_lt G0.out)).trans G0.out)
      have HCn := Aside0.mk (Kd.C_below HCc.out hb)
      clear G0 HCc
      have G0 := G0n
      have HCc := HCn
      clear G0n HCn
      have HBn := Aside0.mk (below_step HB.out hb)
      have HXn := Aside0.mk ((hb.block _ (blk_lt HX.out)).trans HX.out)
      clear hb HB HX
      have HB := HBn
      have HX := HXn
      clear HBn HXn
      go_wp2
      go_roundw
      case rel => exact ⟨j1, k1, rfl, HZ, ⟨by have := HK1.out; have := HK.out; omega⟩, HX, HB⟩
      case measure => have := HK1.out; have := HC0.out; have := HK.out; show (n - k1).toNat < (n - k).toNat; omega
     rw [if_neg c1] at hq
     have e1 : (v != 0) = true := bne_iff_ne.mpr c1
     obtain ⟨h, hh, hq⟩ := Option.bind_eq_some_iff.mp hq
     have HHa := Aside0.mk hh
     clear hh c1 HQ
     cases h with
     | false =>
      rw [if_neg (by simp)] at hq
      have HQ2 := Aside0.mk (Option.some.inj hq)
      clear hq
      obtain rfl := HQ2.out
      have HZ := Aside0.mk (show false = r by have := HH.out; rw [if_neg (by simp)] at this; exact Option.some.inj this)
      clear HH
      have b0 := (blk_cell HX.out 0).trans rfl
      have b1 := (blk_cell HX.out 1).trans rfl
      go_wp2_with fail
      go_at_call 82
      refine (thing_first.calls g m at_ a _ (MV_below HM.out HB.out) HFi.out).mono ?_
      rintro e w2 ⟨rfl, hb⟩
      clear b0 b1
      have HBn := Aside0.mk (below_step HB.out hb)
      have HXn := Aside0.mk ((hb.block _ (blk_lt HX.out)).trans HX.out)
      clear hb HB HX
      have HB := HBn
      have HX := HXn
      clear HBn HXn
      have b0 := (blk_cell HX.out 0).trans rfl
      have b1 := (blk_cell HX.out 1).trans rfl
      obtain ⟨AW, cW, AC, cC, AF, cF, AB, cB, h0, hW, hC, _⟩ := MV_below HM.out HB.out
      obtain ⟨ad, e0, hcell⟩ := Kd.at_int hW x (by have := HXw.out; omega) (by have := HXw.out; omega)
      cases e0
      rw [← HV.out] at hcell
      have g0 := (blk_cell h0 0).trans rfl
      have G0 := Aside0.mk h0
      have HCc := Aside0.mk hC
      clear h0 hW hC
      go_wp2_with fail
      go_at_call 83
      refine (thing_leads.calls g m at_ k true _ (MV_below HM.out HB.out) HLe.out).mono ?_
      rintro e w3 ⟨rfl, hb⟩
      clear b0 b1 hcell g0
      have G0n := Aside0.mk ((hb.block _ (blk_lt G0.out)).trans G0.out)
      have HCn := Aside0.mk (Kd.C_below HCc.out hb)
      clear G0 HCc
      have G0 := G0n
      have HCc := HCn
      clear G0n HCn
      have HBn := Aside0.mk (below_step HB.out hb)
      have HXn := Aside0.mk ((hb.block _ (blk_lt HX.out)).trans HX.out)
      clear hb HB HX
      have HB := HBn
      have HX := HXn
      clear HBn HXn
      have b0 := (blk_cell HX.out 0).trans rfl
      have b1 := (blk_cell HX.out 1).trans rfl
      go_wp2_with (go_at_call 80; refine (memory_has.calls q g m v false _ (MV_below HM.out HB.out) HHa.out).mono ?_; rintro e w5 ⟨rfl, hd⟩; have hb := hd.below; have HBn := Aside0.mk (below_step HB.out hb); have HXn := Aside0.mk ((hb.block _ (blk_lt HX.out)).trans HX.out); have G0n := Aside0.mk ((hb.block _ (blk_lt G0.out)).trans G0.out); have HCn := Aside0.mk (Kd.C_below HCc.out hb); clear hd hb HB HX G0 HCc b0 b1; have HB := HBn; have HX := HXn; have G0 := G0n; have HCc := HCn; clear HBn HXn G0n HCn)
      go_ret
      exact ⟨by rw [← HZ.out]; rfl, HB.out⟩
     | true =>
      rw [if_pos rfl] at hq
      unfold cardOk at hq
      by_cases c2 : at_ > m.young
      ·rw [if_pos c2] at hq
       have O1 := Aside0.mk (decide_eq_true c2)
       clear c2
       by_cases c3 : v > m.young
       ·rw [if_pos c3] at hq
        have O2 := Aside0.mk (decide_eq_true c3)
        have HQ2 := Aside0.mk (Option.some.inj hq)
        clear hq c3
        obtain rfl := HQ2.out
        have HZ := Aside0.mk (show wordsOk.l q m at_ n j1 k1 = some r by have := HH.out; rw [if_pos rfl] at this; exact this)
        clear HH
        have b0 := (blk_cell HX.out 0).trans rfl
        have b1 := (blk_cell HX.out 1).trans rfl
        go_wp2_with fail
        go_at_call 82
        refine (thing_first.calls g m at_ a _ (MV_below HM.out HB.out) HFi.out).mono ?_
        rintro e w2 ⟨rfl, hb⟩
        clear b0 b1
        have HBn := Aside0.mk (below_step HB.out hb)
        have HXn := Aside0.mk ((hb.block _ (blk_lt HX.out)).trans HX.out)
        clear hb HB HX
        have HB := HBn
        have HX := HXn
        clear HBn HXn
        have b0 := (blk_cell HX.out 0).trans rfl
        have b1 := (blk_cell HX.out 1).trans rfl
        obtain ⟨AW, cW, AC, cC, AF, cF, AB, cB, h0, hW, hC, _⟩ := MV_below HM.out HB.out
        obtain ⟨ad, e0, hcell⟩ := Kd.at_int hW x (by have := HXw.out; omega) (by have := HXw.out; omega)
        cases e0
        rw [← HV.out] at hcell
        have g0 := (blk_cell h0 0).trans rfl
        have G0 := Aside0.mk h0
        have HCc := Aside0.mk hC
        clear h0 hW hC
        go_wp2_with fail
        go_at_call 83
        refine (thing_leads.calls g m at_ k true _ (MV_below HM.out HB.out) HLe.out).mono ?_
        rintro e w3 ⟨rfl, hb⟩
        clear b0 b1 hcell g0
        have G0n := Aside0.mk ((hb.block _ (blk_lt G0.out)).trans G0.out)
        have HCn := Aside0.mk (Kd.C_below HCc.out hb)
        clear G0 HCc
        have G0 := G0n
        have HCc := HCn
        clear G0n HCn
        have HBn := Aside0.mk (below_step HB.out hb)
        have HXn := Aside0.mk ((hb.block _ (blk_lt HX.out)).trans HX.out)
        clear hb HB HX
        have HB := HBn
        have HX := HXn
        clear HBn HXn
        have b0 := (blk_cell HX.out 0).trans rfl
        have b1 := (blk_cell HX.out 1).trans rfl
        go_wp2_with (go_at_call 80; refine (memory_has.calls q g m v true _ (MV_below HM.out HB.out) HHa.out).mono ?_; rintro e w5 ⟨rfl, hd⟩; have hb := hd.below; have HBn := Aside0.mk (below_step HB.out hb); have HXn := Aside0.mk ((hb.block _ (blk_lt HX.out)).trans HX.out); have G0n := Aside0.mk ((hb.block _ (blk_lt G0.out)).trans G0.out); have HCn := Aside0.mk (Kd.C_below HCc.out hb); clear hd hb HB HX G0 HCc b0 b1; have HB := HBn; have HX := HXn; have G0 := G0n; have HCc := HCn; clear HBn HXn G0n HCn; have b0 := (blk_cell HX.out 0).trans rfl; have b1 := (blk_cell HX.out 1).trans rfl; have g0 := (blk_cell G0.out 0).trans rfl; have g1 := (blk_cell G0.out 1).trans rfl; have g2 := (blk_cell G0.out 2).trans rfl; have g3 := (blk_cell G0.out 3).trans rfl; have g4 := (blk_cell G0.out 4).trans rfl; have HM1 := Aside0.mk (MV_below HM.out HB.out); try clear HCc)
        refine start_ (n := 36) (S := fun w' => Aside0 (Below w.heap.size w w') ∧ Aside0 (MV w' g (m)) ∧ Aside0 (w'.heap[w.heap.size]? = some (.cells #[.pointer (some ⟨g, 0, none⟩), .int .i64 at_] 104 (0, 0))) ∧ w'.cell? (⟨w.heap.size, 0, none⟩) = some (.pointer (some ⟨g, 0, none⟩)) ∧ w'.cell? (⟨w.heap.size, 1, none⟩) = some (.int .i64 at_) ∧ w'.cell? (⟨g, 0, none⟩) = some (.slice (some ad) m.words.length cW) ∧ w'.cell? (⟨g, 1, none⟩) = some (.int .i64 m.young) ∧ w'.cell? (⟨g, 2, none⟩) = some (.int .i64 m.top) ∧ w'.cell? (⟨g, 3, none⟩) = some (.int .i64 m.old) ∧ w'.cell? (⟨g, 4, none⟩) = some (.slice AC m.cards.length cC)) (ds := []) #[false, false, false, false, false, false, false, false, false, false, false, false, false, false, false, false, false, false, false, false, false, false, false, false, false, false, false, false, false, false, false, false, false, false, false, false] (by kernel_rfl) rfl rfl ⟨⟨below_drew1 HB.out⟩, ⟨MV_below HM1.out (below_drew1 (Below.refl _ _))⟩, ⟨blk_drew HX.out⟩, (by go_simp), (by go_simp), (by go_simp), (by go_simp), (by go_simp), (by go_simp), (by go_simp)⟩ (fun hHeld => ?_)
        refine pS 0 40 (lA 36 1) ?_
        refine pS 5 45 (lA 36 33) ?_
        refine tS 1 41 (lA 36 35) rfl rfl (by kernel_rfl) hHeld z41 ?_
        refine pS 2 42 (lA 36 39) ?_
        refine pS 3 43 (lA 36 47) ?_
        refine tS 4 44 (lA 36 63) rfl rfl (by kernel_rfl) hHeld z41 ?_
        refine tS 6 46 (lA 36 127) rfl rfl (by kernel_rfl) hHeld z41 ?_
        refine one_ (i := 7) (N := some 47) (lA 36 255) rfl rfl (by kernel_rfl) (by decide) (fun K hK => ?_)
        refine goes_ Try.func84 (by kernel_rfl) rfl #[.agg #[.slice (some ad) m.words.length cW, .int .i64 m.young, .int .i64 m.top, .int .i64 m.old, .slice AC m.cards.length cC], .int .i64 at_] (by rfl) rfl rfl z5 ?_
        with_reducible refine (Mem_isOld.calls (some ad) m.words.length cW m.young m.top m.old AC m.cards.length cC at_ true _ O1.out).mono ?_
        rintro e w9 ⟨rfl, hb3⟩
        refine ⟨_, rfl, ?_⟩
        refine hK.out _ _ ⟨⟨below_step hHeld.1.out hb3⟩, ⟨MV_below hHeld.2.1.out hb3⟩, ⟨(hb3.block _ (blk_lt hHeld.2.2.1.out)).trans hHeld.2.2.1.out⟩, (pw_cell_below hb3 hHeld.2.2.2.1), (pw_cell_below hb3 hHeld.2.2.2.2.1), (pw_cell_below hb3 hHeld.2.2.2.2.2.1), (pw_cell_below hb3 hHeld.2.2.2.2.2.2.1), (pw_cell_below hb3 hHeld.2.2.2.2.2.2.2.1), (pw_cell_below hb3 hHeld.2.2.2.2.2.2.2.2.1), (pw_cell_below hb3 hHeld.2.2.2.2.2.2.2.2.2)⟩ (fun hHeld => ?_)
        clear hK K
        refine norm_ (a' := ?_) ?_ ?_
        rotate_left
        ·show Act.put _ (some 47) _ = _
         simp only [Act.put, lA1, lA2, lA3, i64_w, i32_w]
         rfl
        refine pS 8 48 (lA 36 511) ?_
        refine pS 9 49 (lA 36 1023) ?_
        refine pS 14 54 (lA 36 17407) ?_
        refine tS 10 50 (lA 36 18431) rfl rfl (by kernel_rfl) hHeld z41 ?_
        refine pS 11 51 (lA 36 20479) ?_
        refine pS 12 52 (lA 36 24575) ?_
        refine tS 13 53 (lA 36 32767) rfl rfl (by kernel_rfl) hHeld z41 ?_
        refine one_ (i := 15) (N := some 55) (lA 36 65535) rfl rfl (by kernel_rfl) (by decide) (fun K hK => ?_)
        refine goes_ Try.func84 (by kernel_rfl) rfl #[.agg #[.slice (some ad) m.words.length cW, .int .i64 m.young, .int .i64 m.top, .int .i64 m.old, .slice AC m.cards.length cC], .int .i64 v] (by rfl) rfl rfl z5 ?_
        with_reducible refine (Mem_isOld.calls (some ad) m.words.length cW m.young m.top m.old AC m.cards.length cC v true _ O2.out).mono ?_
        rintro e w9 ⟨rfl, hb3⟩
        refine ⟨_, rfl, ?_⟩
        refine hK.out _ _ ⟨⟨below_step hHeld.1.out hb3⟩, ⟨MV_below hHeld.2.1.out hb3⟩, ⟨(hb3.block _ (blk_lt hHeld.2.2.1.out)).trans hHeld.2.2.1.out⟩, (pw_cell_below hb3 hHeld.2.2.2.1), (pw_cell_below hb3 hHeld.2.2.2.2.1), (pw_cell_below hb3 hHeld.2.2.2.2.2.1), (pw_cell_below hb3 hHeld.2.2.2.2.2.2.1), (pw_cell_below hb3 hHeld.2.2.2.2.2.2.2.1), (pw_cell_below hb3 hHeld.2.2.2.2.2.2.2.2.1), (pw_cell_below hb3 hHeld.2.2.2.2.2.2.2.2.2)⟩ (fun hHeld => ?_)
        clear hK K
        refine norm_ (a' := ?_) ?_ ?_
        rotate_left
        ·show Act.put _ (some 55) _ = _
         simp only [Act.put, lA1, lA2, lA3, i64_w, i32_w]
         rfl
        refine pS 16 56 (lA 36 131071) ?_
        refine pS 17 57 (lA 36 262143) ?_
        refine pS 18 58 (lA 36 524287) ?_
        refine pU 19 59 (lA 36 1048575) ?_
        refine pU 20 60 (lA 36 2097151) ?_
        refine pU 21 61 (lA 36 4194303) ?_
        refine pU 22 62 (lA 36 8388607) ?_
        refine pU 23 63 (lA 36 16777215) ?_
        refine pU 24 64 (lA 36 33554431) ?_
        refine pU 25 65 (lA 36 67108863) ?_
        refine pU 26 66 (lA 36 134217727) ?_
        refine pU 27 67 (lA 36 268435455) ?_
        refine pU 28 68 (lA 36 536870911) ?_
        refine pU 29 69 (lA 36 1073741823) ?_
        refine pU 30 70 (lA 36 2147483647) ?_
        refine pU 31 71 (lA 36 4294967295) ?_
        refine pU 32 72 (lA 36 8589934591) ?_
        refine pU 33 73 (lA 36 17179869183) ?_
        refine pU 34 74 (lA 36 34359738367) ?_
        refine pS 35 75 (lA 36 68719476735) ?_
        refine done_ (by kernel_rfl) ?_
        have HBn := hHeld.1
        have HXn := hHeld.2.2.1
        clear hHeld HB HX
        have HB := HBn
        have HX := HXn
        clear HBn HXn
        go_wp2
        go_roundw
        case rel => exact ⟨j1, k1, rfl, HZ, ⟨by have := HK1.out; have := HK.out; omega⟩, HX, HB⟩
        case measure => have := HK1.out; have := HC0.out; have := HK.out; show (n - k1).toNat < (n - k).toNat; omega
       ·rw [if_neg c3] at hq
        have O2 := Aside0.mk (decide_eq_false c3)
        clear c3
        obtain ⟨cj, hcj⟩ : ∃ cj, cj = wrap64 (x - m.young) := ⟨_, rfl⟩
        obtain ⟨ci, hci⟩ : ∃ ci, ci = wrap64 (Int.tdiv cj 4) := ⟨_, rfl⟩
        rw [← hcj, ← hci] at hq
        have O3 := Aside0.mk (show IntKind.i64.wrap (x - m.young) = cj by rw [hcj, i64_w])
        have O4 := Aside0.mk (show wrap64 (Int.tdiv cj 4) = ci from hci.symm)
        clear hcj hci
        split at hq
        case isFalse => simp at hq
        case isTrue ht =>
        have t1 := eq_true ht.1
        have t2 := eq_true ht.2
        obtain ⟨cv, hcv⟩ : ∃ cv, cv = rdOf false m.cards ci := ⟨_, rfl⟩
        rw [← hcv] at hq
        have O5 := Aside0.mk hcv.symm
        have HQ2 := Aside0.mk (Option.some.inj hq)
        clear hq ht hcv
        obtain rfl := HQ2.out
        cases cv with
        | false =>
         have HZ := Aside0.mk (show false = r by have := HH.out; rw [if_neg (by simp)] at this; exact Option.some.inj this)
         clear HH
         have b0 := (blk_cell HX.out 0).trans rfl
         have b1 := (blk_cell HX.out 1).trans rfl
         go_wp2_with fail
         go_at_call 82
         refine (thing_first.calls g m at_ a _ (MV_below HM.out HB.out) HFi.out).mono ?_
         rintro e w2 ⟨rfl, hb⟩
         clear b0 b1
         have HBn := Aside0.mk (below_step HB.out hb)
         have HXn := Aside0.mk ((hb.block _ (blk_lt HX.out)).trans HX.out)
         clear hb HB HX
         have HB := HBn
         have HX := HXn
         clear HBn HXn
         have b0 := (blk_cell HX.out 0).trans rfl
         have b1 := (blk_cell HX.out 1).trans rfl
         obtain ⟨AW, cW, AC, cC, AF, cF, AB, cB, h0, hW, hC, _⟩ := MV_below HM.out HB.out
         obtain ⟨ad, e0, hcell⟩ := Kd.at_int hW x (by have := HXw.out; omega) (by have := HXw.out; omega)
         cases e0
         rw [← HV.out] at hcell
         have g0 := (blk_cell h0 0).trans rfl
         have G0 := Aside0.mk h0
         have HCc := Aside0.mk hC
         clear h0 hW hC
         go_wp2_with fail
         go_at_call 83
         refine (thing_leads.calls g m at_ k true _ (MV_below HM.out HB.out) HLe.out).mono ?_
         rintro e w3 ⟨rfl, hb⟩
         clear b0 b1 hcell g0
         have G0n := Aside0.mk ((hb.block _ (blk_lt G0.out)).trans G0.out)
         have HCn := Aside0.mk (Kd.C_below HCc.out hb)
         clear G0 HCc
         have G0 := G0n
         have HCc := HCn
         clear G0n HCn
         have HBn := Aside0.mk (below_step HB.out hb)
         have HXn := Aside0.mk ((hb.block _ (blk_lt HX.out)).trans HX.out)
         clear hb HB HX
         have HB := HBn
         have HX := HXn
         clear HBn HXn
         have b0 := (blk_cell HX.out 0).trans rfl
         have b1 := (blk_cell HX.out 1).trans rfl
         go_wp2_with (go_at_call 80; refine (memory_has.calls q g m v true _ (MV_below HM.out HB.out) HHa.out).mono ?_; rintro e w5 ⟨rfl, hd⟩; have hb := hd.below; have HBn := Aside0.mk (below_step HB.out hb); have HXn := Aside0.mk ((hb.block _ (blk_lt HX.out)).trans HX.out); have G0n := Aside0.mk ((hb.block _ (blk_lt G0.out)).trans G0.out); have HCn := Aside0.mk (Kd.C_below HCc.out hb); clear hd hb HB HX G0 HCc b0 b1; have HB := HBn; have HX := HXn; have G0 := G0n; have HCc := HCn; clear HBn HXn G0n HCn; have b0 := (blk_cell HX.out 0).trans rfl; have b1 := (blk_cell HX.out 1).trans rfl; have g0 := (blk_cell G0.out 0).trans rfl; have g1 := (blk_cell G0.out 1).trans rfl; have g2 := (blk_cell G0.out 2).trans rfl; have g3 := (blk_cell G0.out 3).trans rfl; have g4 := (blk_cell G0.out 4).trans rfl; have HM1 := Aside0.mk (MV_below HM.out HB.out); obtain ⟨ad4, e4, hc4⟩ := Kd.at_bool HCc.out ci (of_eq_true t1) (of_eq_true t2); cases e4; rw [O5.out] at hc4; try clear HCc)
         refine start_ (n := 36) (S := fun w' => Aside0 (Below w.heap.size w w') ∧ Aside0 (MV w' g (m)) ∧ Aside0 (w'.heap[w.heap.size]? = some (.cells #[.pointer (some ⟨g, 0, none⟩), .int .i64 at_] 104 (0, 0))) ∧ w'.cell? (⟨w.heap.size, 0, none⟩) = some (.pointer (some ⟨g, 0, none⟩)) ∧ w'.cell? (⟨w.heap.size, 1, none⟩) = some (.int .i64 at_) ∧ w'.cell? (⟨g, 0, none⟩) = some (.slice (some ad) m.words.length cW) ∧ w'.cell? (⟨g, 1, none⟩) = some (.int .i64 m.young) ∧ w'.cell? (⟨g, 2, none⟩) = some (.int .i64 m.top) ∧ w'.cell? (⟨g, 3, none⟩) = some (.int .i64 m.old) ∧ w'.cell? (⟨g, 4, none⟩) = some (.slice (some ad4) m.cards.length cC) ∧ w'.cell? (ad4.add ci.toNat) = some (.bool false)) (ds := []) #[false, false, false, false, false, false, false, false, false, false, false, false, false, false, false, false, false, false, false, false, false, false, false, false, false, false, false, false, false, false, false, false, false, false, false, false] (by kernel_rfl) rfl rfl ⟨⟨below_drew1 HB.out⟩, ⟨MV_below HM1.out (below_drew1 (Below.refl _ _))⟩, ⟨blk_drew HX.out⟩, (by go_simp), (by go_simp), (by go_simp), (by go_simp), (by go_simp), (by go_simp), (by go_simp), (by go_simp)⟩ (fun hHeld => ?_)
         refine pS 0 40 (lA 36 1) ?_
         refine pS 5 45 (lA 36 33) ?_
         refine tS 1 41 (lA 36 35) rfl rfl (by kernel_rfl) hHeld z9 ?_
         refine pS 2 42 (lA 36 39) ?_
         refine pS 3 43 (lA 36 47) ?_
         refine tS 4 44 (lA 36 63) rfl rfl (by kernel_rfl) hHeld z9 ?_
         refine tS 6 46 (lA 36 127) rfl rfl (by kernel_rfl) hHeld z9 ?_
         refine one_ (i := 7) (N := some 47) (lA 36 255) rfl rfl (by kernel_rfl) (by decide) (fun K hK => ?_)
         refine goes_ Try.func84 (by kernel_rfl) rfl #[.agg #[.slice (some ad) m.words.length cW, .int .i64 m.young, .int .i64 m.top, .int .i64 m.old, .slice (some ad4) m.cards.length cC], .int .i64 at_] (by rfl) rfl rfl z5 ?_
         with_reducible refine (Mem_isOld.calls (some ad) m.words.length cW m.young m.top m.old (some ad4) m.cards.length cC at_ true _ O1.out).mono ?_
         rintro e w9 ⟨rfl, hb3⟩
         refine ⟨_, rfl, ?_⟩
         refine hK.out _ _ ⟨⟨below_step hHeld.1.out hb3⟩, ⟨MV_below hHeld.2.1.out hb3⟩, ⟨(hb3.block _ (blk_lt hHeld.2.2.1.out)).trans hHeld.2.2.1.out⟩, (pw_cell_below hb3 hHeld.2.2.2.1), (pw_cell_below hb3 hHeld.2.2.2.2.1), (pw_cell_below hb3 hHeld.2.2.2.2.2.1), (pw_cell_below hb3 hHeld.2.2.2.2.2.2.1), (pw_cell_below hb3 hHeld.2.2.2.2.2.2.2.1), (pw_cell_below hb3 hHeld.2.2.2.2.2.2.2.2.1), (pw_cell_below hb3 hHeld.2.2.2.2.2.2.2.2.2.1), (pw_cell_below hb3 hHeld.2.2.2.2.2.2.2.2.2.2)⟩ (fun hHeld => ?_)
         clear hK K
         refine norm_ (a' := ?_) ?_ ?_
         rotate_left
         ·show Act.put _ (some 47) _ = _
          simp only [Act.put, lA1, lA2, lA3, i64_w, i32_w]
          rfl
         refine pS 8 48 (lA 36 511) ?_
         refine pS 9 49 (lA 36 1023) ?_
         refine pS 14 54 (lA 36 17407) ?_
         refine tS 10 50 (lA 36 18431) rfl rfl (by kernel_rfl) hHeld z9 ?_
         refine pS 11 51 (lA 36 20479) ?_
         refine pS 12 52 (lA 36 24575) ?_
         refine tS 13 53 (lA 36 32767) rfl rfl (by kernel_rfl) hHeld z9 ?_
         refine one_ (i := 15) (N := some 55) (lA 36 65535) rfl rfl (by kernel_rfl) (by decide) (fun K hK => ?_)
         refine goes_ Try.func84 (by kernel_rfl) rfl #[.agg #[.slice (some ad) m.words.length cW, .int .i64 m.young, .int .i64 m.top, .int .i64 m.old, .slice (some ad4) m.cards.length cC], .int .i64 v] (by rfl) rfl rfl z5 ?_
         with_reducible refine (Mem_isOld.calls (some ad) m.words.length cW m.young m.top m.old (some ad4) m.cards.length cC v false _ O2.out).mono ?_
         rintro e w9 ⟨rfl, hb3⟩
         refine ⟨_, rfl, ?_⟩
         refine hK.out _ _ ⟨⟨below_step hHeld.1.out hb3⟩, ⟨MV_below hHeld.2.1.out hb3⟩, ⟨(hb3.block _ (blk_lt hHeld.2.2.1.out)).trans hHeld.2.2.1.out⟩, (pw_cell_below hb3 hHeld.2.2.2.1), (pw_cell_below hb3 hHeld.2.2.2.2.1), (pw_cell_below hb3 hHeld.2.2.2.2.2.1), (pw_cell_below hb3 hHeld.2.2.2.2.2.2.1), (pw_cell_below hb3 hHeld.2.2.2.2.2.2.2.1), (pw_cell_below hb3 hHeld.2.2.2.2.2.2.2.2.1), (pw_cell_below hb3 hHeld.2.2.2.2.2.2.2.2.2.1), (pw_cell_below hb3 hHeld.2.2.2.2.2.2.2.2.2.2)⟩ (fun hHeld => ?_)
         clear hK K
         refine norm_ (a' := ?_) ?_ ?_
         rotate_left
         ·show Act.put _ (some 55) _ = _
          simp only [Act.put, lA1, lA2, lA3, i64_w, i32_w]
          rfl
         refine pS 16 56 (lA 36 131071) ?_
         refine pS 17 57 (lA 36 262143) ?_
         refine pS 18 58 (lA 36 524287) ?_
         refine pS 19 59 (lA 36 1048575) ?_
         refine pS 25 65 (lA 36 34603007) ?_
         refine pS 30 70 (lA 36 1108344831) ?_
         refine tS 20 60 (lA 36 1109393407) rfl rfl (by kernel_rfl) hHeld z9 ?_
         refine pS 21 61 (lA 36 1111490559) ?_
         refine pS 22 62 (lA 36 1115684863) ?_
         refine pS 23 63 (lA 36 1124073471) ?_
         refine tS 24 64 (lA 36 1140850687) rfl rfl (by kernel_rfl) hHeld z9 ?_
         refine tS 26 66 (lA 36 1207959551) rfl rfl (by kernel_rfl) hHeld z9 ?_
         refine pS 27 67 (lA 36 1342177279) ?_
         refine pS 28 68 (lA 36 1610612735) ?_
         refine tS 29 69 (lA 36 2147483647) rfl rfl (by kernel_rfl) hHeld z9 ?_
         refine one_ (i := 31) (N := some 71) (lA 36 4294967295) rfl rfl (by kernel_rfl) (by decide) (fun K hK => ?_)
         refine goes_ Try.func85 (by kernel_rfl) rfl #[.agg #[.slice (some ad) m.words.length cW, .int .i64 m.young, .int .i64 m.top, .int .i64 m.old, .slice (some ad4) m.cards.length cC], .int .i64 x] (by rfl) rfl rfl z5 ?_
         with_reducible refine (Mem_card.calls (some ad) m.words.length cW m.young m.top m.old (some ad4) m.cards.length cC x cj ci _ O3.out O4.out).mono ?_
         rintro e w9 ⟨rfl, hb3⟩
         refine ⟨_, rfl, ?_⟩
         refine hK.out _ _ ⟨⟨below_step hHeld.1.out hb3⟩, ⟨MV_below hHeld.2.1.out hb3⟩, ⟨(hb3.block _ (blk_lt hHeld.2.2.1.out)).trans hHeld.2.2.1.out⟩, (pw_cell_below hb3 hHeld.2.2.2.1), (pw_cell_below hb3 hHeld.2.2.2.2.1), (pw_cell_below hb3 hHeld.2.2.2.2.2.1), (pw_cell_below hb3 hHeld.2.2.2.2.2.2.1), (pw_cell_below hb3 hHeld.2.2.2.2.2.2.2.1), (pw_cell_below hb3 hHeld.2.2.2.2.2.2.2.2.1), (pw_cell_below hb3 hHeld.2.2.2.2.2.2.2.2.2.1), (pw_cell_below hb3 hHeld.2.2.2.2.2.2.2.2.2.2)⟩ (fun hHeld => ?_)
         clear hK K
         refine norm_ (a' := ?_) ?_ ?_
         rotate_left
         ·show Act.put _ (some 71) _ = _
          simp only [Act.put, lA1, lA2, lA3, i64_w, i32_w]
          rfl
         refine pS 32 72 (lA 36 8589934591) ?_
         refine tS 33 73 (lA 36 17179869183) rfl rfl (by kernel_rfl) hHeld z9 ?_
         refine pS 34 74 (lA 36 34359738367) ?_
         refine pS 35 75 (lA 36 68719476735) ?_
         refine done_ (by kernel_rfl) ?_
         have HBn := hHeld.1
         have HXn := hHeld.2.2.1
         clear hHeld HB HX
         have HB := HBn
         have HX := HXn
         clear HBn HXn
         go_wp2
         go_ret
         exact ⟨by rw [← HZ.out]; rfl, HB.out⟩
        | true =>
         have HZ := Aside0.mk (show wordsOk.l q m at_ n j1 k1 = some r by have := HH.out; rw [if_pos rfl] at this; exact this)
         clear HH
         have b0 := (blk_cell HX.out 0).trans rfl
         have b1 := (blk_cell HX.out 1).trans rfl
         go_wp2_with fail
         go_at_call 82
         refine (thing_first.calls g m at_ a _ (MV_below HM.out HB.out) HFi.out).mono ?_
         rintro e w2 ⟨rfl, hb⟩
         clear b0 b1
         have HBn := Aside0.mk (below_step HB.out hb)
         have HXn := Aside0.mk ((hb.block _ (blk_lt HX.out)).trans HX.out)
         clear hb HB HX
         have HB := HBn
         have HX := HXn
         clear HBn HXn
         have b0 := (blk_cell HX.out 0).trans rfl
         have b1 := (blk_cell HX.out 1).trans rfl
         obtain ⟨AW, cW, AC, cC, AF, cF, AB, cB, h0, hW, hC, _⟩ := MV_below HM.out HB.out
         obtain ⟨ad, e0, hcell⟩ := Kd.at_int hW x (by have := HXw.out; omega) (by have := HXw.out; omega)
         cases e0
         rw [← HV.out] at hcell
         have g0 := (blk_cell h0 0).trans rfl
         have G0 := Aside0.mk h0
         have HCc := Aside0.mk hC
         clear h0 hW hC
         go_wp2_with fail
         go_at_call 83
         refine (thing_leads.calls g m at_ k true _ (MV_below HM.out HB.out) HLe.out).mono ?_
         rintro e w3 ⟨rfl, hb⟩
         clear b0 b1 hcell g0
         have G0n := Aside0.mk ((hb.block _ (blk_lt G0.out)).trans G0.out)
         have HCn := Aside0.mk (Kd.C_below HCc.out hb)
         clear G0 HCc
         have G0 := G0n
         have HCc := HCn
         clear G0n HCn
         have HBn := Aside0.mk (below_step HB.out hb)
         have HXn := Aside0.mk ((hb.block _ (blk_lt HX.out)).trans HX.out)
         clear hb HB HX
         have HB := HBn
         have HX := HXn
         clear HBn HXn
         have b0 := (blk_cell HX.out 0).trans rfl
         have b1 := (blk_cell HX.out 1).trans rfl
         go_wp2_with (go_at_call 80; refine (memory_has.calls q g m v true _ (MV_below HM.out HB.out) HHa.out).mono ?_; rintro e w5 ⟨rfl, hd⟩; have hb := hd.below; have HBn := Aside0.mk (below_step HB.out hb); have HXn := Aside0.mk ((hb.block _ (blk_lt HX.out)).trans HX.out); have G0n := Aside0.mk ((hb.block _ (blk_lt G0.out)).trans G0.out); have HCn := Aside0.mk (Kd.C_below HCc.out hb); clear hd hb HB HX G0 HCc b0 b1; have HB := HBn; have HX := HXn; have G0 := G0n; have HCc := HCn; clear HBn HXn G0n HCn; have b0 := (blk_cell HX.out 0).trans rfl; have b1 := (blk_cell HX.out 1).trans rfl; have g0 := (blk_cell G0.out 0).trans rfl; have g1 := (blk_cell G0.out 1).trans rfl; have g2 := (blk_cell G0.out 2).trans rfl; have g3 := (blk_cell G0.out 3).trans rfl; have g4 := (blk_cell G0.out 4).trans rfl; have HM1 := Aside0.mk (MV_below HM.out HB.out); obtain ⟨ad4, e4, hc4⟩ := Kd.at_bool HCc.out ci (of_eq_true t1) (of_eq_true t2); cases e4; rw [O5.out] at hc4; try clear HCc)
         refine start_ (n := 36) (S := fun w' => Aside0 (Below w.heap.size w w') ∧ Aside0 (MV w' g (m)) ∧ Aside0 (w'.heap[w.heap.size]? = some (.cells #[.pointer (some ⟨g, 0, none⟩), .int .i64 at_] 104 (0, 0))) ∧ w'.cell? (⟨w.heap.size, 0, none⟩) = some (.pointer (some ⟨g, 0, none⟩)) ∧ w'.cell? (⟨w.heap.size, 1, none⟩) = some (.int .i64 at_) ∧ w'.cell? (⟨g, 0, none⟩) = some (.slice (some ad) m.words.length cW) ∧ w'.cell? (⟨g, 1, none⟩) = some (.int .i64 m.young) ∧ w'.cell? (⟨g, 2, none⟩) = some (.int .i64 m.top) ∧ w'.cell? (⟨g, 3, none⟩) = some (.int .i64 m.old) ∧ w'.cell? (⟨g, 4, none⟩) = some (.slice (some ad4) m.cards.length cC) ∧ w'.cell? (ad4.add ci.toNat) = some (.bool true)) (ds := []) #[false, false, false, false, false, false, false, false, false, false, false, false, false, false, false, false, false, false, false, false, false, false, false, false, false, false, false, false, false, false, false, false, false, false, false, false] (by kernel_rfl) rfl rfl ⟨⟨below_drew1 HB.out⟩, ⟨MV_below HM1.out (below_drew1 (Below.refl _ _))⟩, ⟨blk_drew HX.out⟩, (by go_simp), (by go_simp), (by go_simp), (by go_simp), (by go_simp), (by go_simp), (by go_simp), (by go_simp)⟩ (fun hHeld => ?_)
         refine pS 0 40 (lA 36 1) ?_
         refine pS 5 45 (lA 36 33) ?_
         refine tS 1 41 (lA 36 35) rfl rfl (by kernel_rfl) hHeld z9 ?_
         refine pS 2 42 (lA 36 39) ?_
         refine pS 3 43 (lA 36 47) ?_
         refine tS 4 44 (lA 36 63) rfl rfl (by kernel_rfl) hHeld z9 ?_
         refine tS 6 46 (lA 36 127) rfl rfl (by kernel_rfl) hHeld z9 ?_
         refine one_ (i := 7) (N := some 47) (lA 36 255) rfl rfl (by kernel_rfl) (by decide) (fun K hK => ?_)
         refine goes_ Try.func84 (by kernel_rfl) rfl #[.agg #[.slice (some ad) m.words.length cW, .int .i64 m.young, .int .i64 m.top, .int .i64 m.old, .slice (some ad4) m.cards.length cC], .int .i64 at_] (by rfl) rfl rfl z5 ?_
         with_reducible refine (Mem_isOld.calls (some ad) m.words.length cW m.young m.top m.old (some ad4) m.cards.length cC at_ true _ O1.out).mono ?_
         rintro e w9 ⟨rfl, hb3⟩
         refine ⟨_, rfl, ?_⟩
         refine hK.out _ _ ⟨⟨below_step hHeld.1.out hb3⟩, ⟨MV_below hHeld.2.1.out hb3⟩, ⟨(hb3.block _ (blk_lt hHeld.2.2.1.out)).trans hHeld.2.2.1.out⟩, (pw_cell_below hb3 hHeld.2.2.2.1), (pw_cell_below hb3 hHeld.2.2.2.2.1), (pw_cell_below hb3 hHeld.2.2.2.2.2.1), (pw_cell_below hb3 hHeld.2.2.2.2.2.2.1), (pw_cell_below hb3 hHeld.2.2.2.2.2.2.2.1), (pw_cell_below hb3 hHeld.2.2.2.2.2.2.2.2.1), (pw_cell_below hb3 hHeld.2.2.2.2.2.2.2.2.2.1), (pw_cell_below hb3 hHeld.2.2.2.2.2.2.2.2.2.2)⟩ (fun hHeld => ?_)
         clear hK K
         refine norm_ (a' := ?_) ?_ ?_
         rotate_left
         ·show Act.put _ (some 47) _ = _
          simp only [Act.put, lA1, lA2, lA3, i64_w, i32_w]
          rfl
         refine pS 8 48 (lA 36 511) ?_
         refine pS 9 49 (lA 36 1023) ?_
         refine pS 14 54 (lA 36 17407) ?_
         refine tS 10 50 (lA 36 18431) rfl rfl (by kernel_rfl) hHeld z9 ?_
         refine pS 11 51 (lA 36 20479) ?_
         refine pS 12 52 (lA 36 24575) ?_
         refine tS 13 53 (lA 36 32767) rfl rfl (by kernel_rfl) hHeld z9 ?_
         refine one_ (i := 15) (N := some 55) (lA 36 65535) rfl rfl (by kernel_rfl) (by decide) (fun K hK => ?_)
         refine goes_ Try.func84 (by kernel_rfl) rfl #[.agg #[.slice (some ad) m.words.length cW, .int .i64 m.young, .int .i64 m.top, .int .i64 m.old, .slice (some ad4) m.cards.length cC], .int .i64 v] (by rfl) rfl rfl z5 ?_
         with_reducible refine (Mem_isOld.calls (some ad) m.words.length cW m.young m.top m.old (some ad4) m.cards.length cC v false _ O2.out).mono ?_
         rintro e w9 ⟨rfl, hb3⟩
         refine ⟨_, rfl, ?_⟩
         refine hK.out _ _ ⟨⟨below_step hHeld.1.out hb3⟩, ⟨MV_below hHeld.2.1.out hb3⟩, ⟨(hb3.block _ (blk_lt hHeld.2.2.1.out)).trans hHeld.2.2.1.out⟩, (pw_cell_below hb3 hHeld.2.2.2.1), (pw_cell_below hb3 hHeld.2.2.2.2.1), (pw_cell_below hb3 hHeld.2.2.2.2.2.1), (pw_cell_below hb3 hHeld.2.2.2.2.2.2.1), (pw_cell_below hb3 hHeld.2.2.2.2.2.2.2.1), (pw_cell_below hb3 hHeld.2.2.2.2.2.2.2.2.1), (pw_cell_below hb3 hHeld.2.2.2.2.2.2.2.2.2.1), (pw_cell_below hb3 hHeld.2.2.2.2.2.2.2.2.2.2)⟩ (fun hHeld => ?_)
         clear hK K
         refine norm_ (a' := ?_) ?_ ?_
         rotate_left
         ·show Act.put _ (some 55) _ = _
          simp only [Act.put, lA1, lA2, lA3, i64_w, i32_w]
          rfl
         refine pS 16 56 (lA 36 131071) ?_
         refine pS 17 57 (lA 36 262143) ?_
         refine pS 18 58 (lA 36 524287) ?_
         refine pS 19 59 (lA 36 1048575) ?_
         refine pS 25 65 (lA 36 34603007) ?_
         refine pS 30 70 (lA 36 1108344831) ?_
         refine tS 20 60 (lA 36 1109393407) rfl rfl (by kernel_rfl) hHeld z9 ?_
         refine pS 21 61 (lA 36 1111490559) ?_
         refine pS 22 62 (lA 36 1115684863) ?_
         refine pS 23 63 (lA 36 1124073471) ?_
         refine tS 24 64 (lA 36 1140850687) rfl rfl (by kernel_rfl) hHeld z9 ?_
         refine tS 26 66 (lA 36 1207959551) rfl rfl (by kernel_rfl) hHeld z9 ?_
         refine pS 27 67 (lA 36 1342177279) ?_
         refine pS 28 68 (lA 36 1610612735) ?_
         refine tS 29 69 (lA 36 2147483647) rfl rfl (by kernel_rfl) hHeld z9 ?_
         refine one_ (i := 31) (N := some 71) (lA 36 4294967295) rfl rfl (by kernel_rfl) (by decide) (fun K hK => ?_)
         refine goes_ Try.func85 (by kernel_rfl) rfl #[.agg #[.slice (some ad) m.words.length cW, .int .i64 m.young, .int .i64 m.top, .int .i64 m.old, .slice (some ad4) m.cards.length cC], .int .i64 x] (by rfl) rfl rfl z5 ?_
         with_reducible refine (Mem_card.calls (some ad) m.words.length cW m.young m.top m.old (some ad4) m.cards.length cC x cj ci _ O3.out O4.out).mono ?_
         rintro e w9 ⟨rfl, hb3⟩
         refine ⟨_, rfl, ?_⟩
         refine hK.out _ _ ⟨⟨below_step hHeld.1.out hb3⟩, ⟨MV_below hHeld.2.1.out hb3⟩, ⟨(hb3.block _ (blk_lt hHeld.2.2.1.out)).trans hHeld.2.2.1.out⟩, (pw_cell_below hb3 hHeld.2.2.2.1), (pw_cell_below hb3 hHeld.2.2.2.2.1), (pw_cell_below hb3 hHeld.2.2.2.2.2.1), (pw_cell_below hb3 hHeld.2.2.2.2.2.2.1), (pw_cell_below hb3 hHeld.2.2.2.2.2.2.2.1), (pw_cell_below hb3 hHeld.2.2.2.2.2.2.2.2.1), (pw_cell_below hb3 hHeld.2.2.2.2.2.2.2.2.2.1), (pw_cell_below hb3 hHeld.2.2.2.2.2.2.2.2.2.2)⟩ (fun hHeld => ?_)
         clear hK K
         refine norm_ (a' := ?_) ?_ ?_
         rotate_left
         ·show Act.put _ (some 71) _ = _
          simp only [Act.put, lA1, lA2, lA3, i64_w, i32_w]
          rfl
         refine pS 32 72 (lA 36 8589934591) ?_
         refine tS 33 73 (lA 36 17179869183) rfl rfl (by kernel_rfl) hHeld z9 ?_
         refine pS 34 74 (lA 36 34359738367) ?_
         refine pS 35 75 (lA 36 68719476735) ?_
         refine done_ (by kernel_rfl) ?_
         have HBn := hHeld.1
         have HXn := hHeld.2.2.1
         clear hHeld HB HX
         have HB := HBn
         have HX := HXn
         clear HBn HXn
         go_wp2
         go_roundw
         case rel => exact ⟨j1, k1, rfl, HZ, ⟨by have := HK1.out; have := HK.out; omega⟩, HX, HB⟩
         case measure => have := HK1.out; have := HC0.out; have := HK.out; show (n - k1).toNat < (n - k).toNat; omega
      ·rw [if_neg c2] at hq
       have O1 := Aside0.mk (decide_eq_false c2)
       have HQ2 := Aside0.mk (Option.some.inj hq)
       clear hq c2
       obtain rfl := HQ2.out
       have HZ := Aside0.mk (show wordsOk.l q m at_ n j1 k1 = some r by have := HH.out; rw [if_pos rfl] at this; exact this)
       clear HH
       have b0 := (blk_cell HX.out 0).trans rfl
       have b1 := (blk_cell HX.out 1).trans rfl
       go_wp2_with fail
       go_at_call 82
       refine (thing_first.calls g m at_ a _ (MV_below HM.out HB.out) HFi.out).mono ?_
       rintro e w2 ⟨rfl, hb⟩
       clear b0 b1
       have HBn := Aside0.mk (below_step HB.out hb)
       have HXn := Aside0.mk ((hb.block _ (blk_lt HX.out)).trans HX.out)
       clear hb HB HX
       have HB := HBn
       have HX := HXn
       clear HBn HXn
       have b0 := (blk_cell HX.out 0).trans rfl
       have b1 := (blk_cell HX.out 1).trans rfl
       obtain ⟨AW, cW, AC, cC, AF, cF, AB, cB, h0, hW, hC, _⟩ := MV_below HM.out HB.out
       obtain ⟨ad, e0, hcell⟩ := Kd.at_int hW x (by have := HXw.out; omega) (by have := HXw.out; omega)
       cases e0
       rw [← HV.out] at hcell
       have g0 := (blk_cell h0 0).trans rfl
       have G0 := Aside0.mk h0
       have HCc := Aside0.mk hC
       clear h0 hW hC
       go_wp2_with fail
       go_at_call 83
       refine (thing_leads.calls g m at_ k true _ (MV_below HM.out HB.out) HLe.out).mono ?_
       rintro e w3 ⟨rfl, hb⟩
       clear b0 b1 hcell g0
       have G0n := Aside0.mk ((hb.block _ (blk_lt G0.out)).trans G0.out)
       have HCn := Aside0.mk (Kd.C_below HCc.out hb)
       clear G0 HCc
       have G0 := G0n
       have HCc := HCn
       clear G0n HCn
       have HBn := Aside0.mk (below_step HB.out hb)
       have HXn := Aside0.mk ((hb.block _ (blk_lt HX.out)).trans HX.out)
       clear hb HB HX
       have HB := HBn
       have HX := HXn
       clear HBn HXn
       have b0 := (blk_cell HX.out 0).trans rfl
       have b1 := (blk_cell HX.out 1).trans rfl
       go_wp2_with (go_at_call 80; refine (memory_has.calls q g m v true _ (MV_below HM.out HB.out) HHa.out).mono ?_; rintro e w5 ⟨rfl, hd⟩; have hb := hd.below; have HBn := Aside0.mk (below_step HB.out hb); have HXn := Aside0.mk ((hb.block _ (blk_lt HX.out)).trans HX.out); have G0n := Aside0.mk ((hb.block _ (blk_lt G0.out)).trans G0.out); have HCn := Aside0.mk (Kd.C_below HCc.out hb); clear hd hb HB HX G0 HCc b0 b1; have HB := HBn; have HX := HXn; have G0 := G0n; have HCc := HCn; clear HBn HXn G0n HCn; have b0 := (blk_cell HX.out 0).trans rfl; have b1 := (blk_cell HX.out 1).trans rfl; have g0 := (blk_cell G0.out 0).trans rfl; have g1 := (blk_cell G0.out 1).trans rfl; have g2 := (blk_cell G0.out 2).trans rfl; have g3 := (blk_cell G0.out 3).trans rfl; have g4 := (blk_cell G0.out 4).trans rfl; have HM1 := Aside0.mk (MV_below HM.out HB.out); try clear HCc)
       refine start_ (n := 36) (S := fun w' => Aside0 (Below w.heap.size w w') ∧ Aside0 (MV w' g (m)) ∧ Aside0 (w'.heap[w.heap.size]? = some (.cells #[.pointer (some ⟨g, 0, none⟩), .int .i64 at_] 104 (0, 0))) ∧ w'.cell? (⟨w.heap.size, 0, none⟩) = some (.pointer (some ⟨g, 0, none⟩)) ∧ w'.cell? (⟨w.heap.size, 1, none⟩) = some (.int .i64 at_) ∧ w'.cell? (⟨g, 0, none⟩) = some (.slice (some ad) m.words.length cW) ∧ w'.cell? (⟨g, 1, none⟩) = some (.int .i64 m.young) ∧ w'.cell? (⟨g, 2, none⟩) = some (.int .i64 m.top) ∧ w'.cell? (⟨g, 3, none⟩) = some (.int .i64 m.old) ∧ w'.cell? (⟨g, 4, none⟩) = some (.slice AC m.cards.length cC)) (ds := []) #[false, false, false, false, false, false, false, false, false, false, false, false, false, false, false, false, false, false, false, false, false, false, false, false, false, false, false, false, false, false, false, false, false, false, false, false] (by kernel_rfl) rfl rfl ⟨⟨below_drew1 HB.out⟩, ⟨MV_below HM1.out (below_drew1 (Below.refl _ _))⟩, ⟨blk_drew HX.out⟩, (by go_simp), (by go_simp), (by go_simp), (by go_simp), (by go_simp), (by go_simp), (by go_simp)⟩ (fun hHeld => ?_)
       refine pS 0 40 (lA 36 1) ?_
       refine pS 5 45 (lA 36 33) ?_
       refine tS 1 41 (lA 36 35) rfl rfl (by kernel_rfl) hHeld z41 ?_
       refine pS 2 42 (lA 36 39) ?_
       refine pS 3 43 (lA 36 47) ?_
       refine tS 4 44 (lA 36 63) rfl rfl (by kernel_rfl) hHeld z41 ?_
       refine tS 6 46 (lA 36 127) rfl rfl (by kernel_rfl) hHeld z41 ?_
       refine one_ (i := 7) (N := some 47) (lA 36 255) rfl rfl (by kernel_rfl) (by decide) (fun K hK => ?_)
       refine goes_ Try.func84 (by kernel_rfl) rfl #[.agg #[.slice (some ad) m.words.length cW, .int .i64 m.young, .int .i64 m.top, .int .i64 m.old, .slice AC m.cards.length cC], .int .i64 at_] (by rfl) rfl rfl z5 ?_
       with_reducible refine (Mem_isOld.calls (some ad) m.words.length cW m.young m.top m.old AC m.cards.length cC at_ false _ O1.out).mono ?_
       rintro e w9 ⟨rfl, hb3⟩
       refine ⟨_, rfl, ?_⟩
       refine hK.out _ _ ⟨⟨below_step hHeld.1.out hb3⟩, ⟨MV_below hHeld.2.1.out hb3⟩, ⟨(hb3.block _ (blk_lt hHeld.2.2.1.out)).trans hHeld.2.2.1.out⟩, (pw_cell_below hb3 hHeld.2.2.2.1), (pw_cell_below hb3 hHeld.2.2.2.2.1), (pw_cell_below hb3 hHeld.2.2.2.2.2.1), (pw_cell_below hb3 hHeld.2.2.2.2.2.2.1), (pw_cell_below hb3 hHeld.2.2.2.2.2.2.2.1), (pw_cell_below hb3 hHeld.2.2.2.2.2.2.2.2.1), (pw_cell_below hb3 hHeld.2.2.2.2.2.2.2.2.2)⟩ (fun hHeld => ?_)
       clear hK K
       refine norm_ (a' := ?_) ?_ ?_
       rotate_left
       ·show Act.put _ (some 47) _ = _
        simp only [Act.put, lA1, lA2, lA3, i64_w, i32_w]
        rfl
       refine pS 8 48 (lA 36 511) ?_
       refine pU 9 49 (lA 36 1023) ?_
       refine pU 10 50 (lA 36 2047) ?_
       refine pU 11 51 (lA 36 4095) ?_
       refine pU 12 52 (lA 36 8191) ?_
       refine pU 13 53 (lA 36 16383) ?_
       refine pU 14 54 (lA 36 32767) ?_
       refine pU 15 55 (lA 36 65535) ?_
       refine pU 16 56 (lA 36 131071) ?_
       refine pS 17 57 (lA 36 262143) ?_
       refine pS 18 58 (lA 36 524287) ?_
       refine pU 19 59 (lA 36 1048575) ?_
       refine pU 20 60 (lA 36 2097151) ?_
       refine pU 21 61 (lA 36 4194303) ?_
       refine pU 22 62 (lA 36 8388607) ?_
       refine pU 23 63 (lA 36 16777215) ?_
       refine pU 24 64 (lA 36 33554431) ?_
       refine pU 25 65 (lA 36 67108863) ?_
       refine pU 26 66 (lA 36 134217727) ?_
       refine pU 27 67 (lA 36 268435455) ?_
       refine pU 28 68 (lA 36 536870911) ?_
       refine pU 29 69 (lA 36 1073741823) ?_
       refine pU 30 70 (lA 36 2147483647) ?_
       refine pU 31 71 (lA 36 4294967295) ?_
       refine pU 32 72 (lA 36 8589934591) ?_
       refine pU 33 73 (lA 36 17179869183) ?_
       refine pU 34 74 (lA 36 34359738367) ?_
       refine pS 35 75 (lA 36 68719476735) ?_
       refine done_ (by kernel_rfl) ?_
       have HBn := hHeld.1
       have HXn := hHeld.2.2.1
       clear hHeld HB HX
       have HB := HBn
       have HX := HXn
       clear HBn HXn
       go_wp2
       go_roundw
       case rel => exact ⟨j1, k1, rfl, HZ, ⟨by have := HK1.out; have := HK.out; omega⟩, HX, HB⟩
       case measure => have := HK1.out; have := HC0.out; have := HK.out; show (n - k1).toNat < (n - k).toNat; omega
end Go.Proofs.Ytmniglgahodghaa.K
namespace Go.Proofs.Ytmniglgahodghaa.K
open Go.RowKit Go.Proofs.YtmniglgahodghaaW.PrintWords Go.Proofs.YtmniglgahodghaaW.PrintLast Go.Proofs.YtmniglgahodghaaW.PrintMore
attribute [local go_sem] max2_int min2_int max_two min_two max_three min_three max_four min_four
set_option linter.unusedVariables false
set_option linter.unusedSimpArgs false
def thingsOk (q : Nat) (m : Mm) : List Int → Option Bool
  | [] => some true
  | a :: r => (wordsOk.f q m a).bind fun ok => if ok = true then thingsOk q m r else some false
def mopen (k q : Nat) (l0 : List S69) (ws : List Int) (y t o : Int) (cs : List Bool) : Option (Option Mm) :=
  (impl_ClassesOk.f k l0).bind fun c => if c = true then ((impl_partsOk.f ws y t o cs).bind fun p => if p = true then ((impl_allFields.f k l0).bind fun F =>
    if F.all (fun r => decide (r.length ≤ 4294967296)) = true ∧ ws.length ≤ 1048576 ∧ cs.length ≤ 1048576 then ((mwalk ws F t q 0 []).bind fun r1 => if r1.1 = true then (if r1.2.length ≤ 1048576 then ((mwalk ws F o q y r1.2).bind fun r2 => if r2.1 = true then (if r2.2.length ≤ 1048576 then ((thingsOk q ⟨ws, y, t, o, cs, F, r2.2⟩ r2.2).bind fun ok => if ok = true then some (some ⟨ws, y, t, o, cs, F, r2.2⟩) else some none) else none) else some none) else none) else some none) else none) else some none) else some none
def OpenPost (w : World) (r : Option Mm) (e : Ending) (w' : World) : Prop :=
  match r with
  | none => e = .returned (.tuple #[.pointer none, .bool false]) ∧ Below w.heap.size w w'
  | some m => ∃ g, e = .returned (.tuple #[.pointer (some ⟨g, 0, none⟩), .bool true]) ∧ MO w' w.heap.size g m ∧ Below w.heap.size w w'
theorem fshort_of {F : List (List Int)} (h : F.all (fun r => decide (r.length ≤ 4294967296)) = true) : FShort F := by
 intro c h0 h1
 have h2 : c.toNat < F.length := by omega
 have h3 := List.all_eq_true.mp h (F[c.toNat]) (List.getElem_mem h2)
 have h4 : rdL F c = F[c.toNat] := by unfold rdL; rw [List.getD_eq_getElem?_getD, List.getElem?_eq_getElem h2]; rfl
 rw [h4]
 exact of_decide_eq_true h3
theorem parts_true {ws : List Int} {y t o : Int} {cs : List Bool} (h : impl_partsOk.f ws y t o cs = some true) : 0 ≤ y ∧ y ≤ 40 ∧ 0 ≤ t ∧ t ≤ y ∧ y ≤ o ∧ o ≤ ws.length := by
 unfold impl_partsOk.f at h
 split at h
 case isFalse => simp at h
 case isTrue =>
 have h := Option.some.inj h
 simp only [Bool.and_eq_true] at h
 obtain ⟨⟨⟨⟨⟨⟨h0, h1⟩, h2⟩, h3⟩, h4⟩, h5⟩, h6⟩ := h
 unfold pOk at h0 h2 h3
 have h0 := of_decide_eq_true h0
 have h2 := of_decide_eq_true h2
 have h3 := of_decide_eq_true h3
 exact ⟨h0.1, h0.2, h2.1, h2.2, h3.1, h3.2⟩
theorem MO_cells {w : World} {b g : Nat} {m : Mm} (h : MO w b g m) : w.cell? ⟨g, 1, none⟩ = some (.int .i64 m.young) ∧ w.cell? ⟨g, 2, none⟩ = some (.int .i64 m.top) ∧ w.cell? ⟨g, 3, none⟩ = some (.int .i64 m.old) := by
  obtain ⟨_, _, _, _, _, _, _, _, h0, _⟩ := h
  exact ⟨(blk_cell h0 1).trans rfl, (blk_cell h0 2).trans rfl, (blk_cell h0 3).trans rfl⟩
theorem MO_new {w3 w4 : World} {b : Nat} {AU AV AF : Option Addr} {cU cV cF : Nat} {l0 : List Int} {l4 : List Bool} {F : List (List Int)} {a1 a2 a3 : Int} (hb : b ≤ w3.heap.size) (hw : Below w3.heap.size w3 w4)
  (h1 : Kd.R (Kd.int .i64) 3 w3 b (fun k => some k ≠ (Value.slice AV l4.length cV).ownBlock) (.slice AU l0.length cU) l0)
  (h2 : Kd.R Kd.bool 4 w3 b (fun k => some k ≠ (Value.slice AU l0.length cU).ownBlock) (.slice AV l4.length cV) l4)
  (h3 : Kd.S (Kd.slice 3 (Kd.int .i64)) 23 w4 w3.heap.size (fun _ => True) (.slice AF F.length cF) F) :
  MO (w4.alloc (.cells #[.slice AU l0.length cU, .int .i64 a1, .int .i64 a2, .int .i64 a3, .slice AV l4.length cV, .slice AF F.length cF, .slice none 0 0] 79 (0, 0))) b w4.heap.size ⟨l0, a1, a2, a3, l4, F, []⟩ := by
 have hs := hw.size
 have u1 := Kd.R_lt h1
 have u2 := Kd.R_lt h2
 have nn : ∀ k : Nat, some k ≠ (Value.slice none 0 0).ownBlock := fun k => by simp [Value.ownBlock]
 have al := below_alloc (Below.refl w4.heap.size w4) (.cells #[.slice AU l0.length cU, .int .i64 a1, .int .i64 a2, .int .i64 a3, .slice AV l4.length cV, .slice AF F.length cF, .slice none 0 0] 79 (0, 0))
 refine ⟨AU, cU, AV, cV, AF, cF, none, 0, blk_new _ _, by show b ≤ w4.heap.size; omega, (Kd.R_reads' (Kd.S_R h3)).2.1, ?_, ?_, ?_, ?_⟩
 ·exact Kd.R_below (Kd.R_mono (Kd.R_below (Kd.R_bound h1) hw) (fun k hk => ⟨⟨by have := hk.2.2.1; omega, hk.1⟩, nn k⟩)) al
 ·exact Kd.R_below (Kd.R_mono (Kd.R_below (Kd.R_bound h2) hw) (fun k hk => ⟨⟨by have := hk.2.2.1; omega, hk.1⟩, nn k⟩)) al
 ·exact Kd.F_below (Kd.F_mono (Kd.R_F (Kd.R_bound (Kd.S_R h3))) (fun k hk => ⟨⟨⟨by have := hk.2.2.1; omega, fun e => by have := u1 k e.symm; have := hk.2.1; omega⟩, fun e => by have := u2 k e.symm; have := hk.2.1; omega⟩, nn k⟩)) al
 ·exact Kd.R_nil _ _ _ _ _
set_option maxHeartbeats 32000000 in
set_option maxRecDepth 100000 in
theorem memOpen.calls (k q : Nat) (A0 : Option Addr) (c0 : Nat) (l0 : List S69) (AW : Option Addr) (cW : Nat) (ws : List Int) (y t o : Int) (AC : Option Addr) (cC : Nat) (cs : List Bool) (r : Option Mm) (w : World)
  (hr0 : Kd.C k69 w A0 l0.length l0) (hc0 : l0.length ≤ c0) (hrW : Kd.C (Kd.int .i64) w AW ws.length ws) (hcW : ws.length ≤ cW) (hrC : Kd.C Kd.bool w AC cs.length cs) (hcC : cs.length ≤ cC) (h : mopen k q l0 ws y t o cs = some r) :
  Calls Try.prog 45 #[.slice A0 l0.length c0, .agg #[.slice AW ws.length cW, .int .i64 y, .int .i64 t, .int .i64 o, .slice AC cs.length cC]] w (OpenPost w r) := by
 have HR0 := Aside0.mk hr0
 have HC0 := Aside0.mk hc0
 have HRW := Aside0.mk hrW
 have HCW := Aside0.mk hcW
 have HRC := Aside0.mk hrC
 have HCC := Aside0.mk hcC
 clear hr0 hc0 hrW hcW hrC hcC
 unfold mopen at h
 obtain ⟨c, hc, h⟩ := Option.bind_eq_some_iff.mp h
 have H1 := Aside0.mk hc
 clear hc
 have HB0 := Aside0.mk (below_alloc (Below.refl w.heap.size w) (.cells #[.slice AW ws.length cW, .int .i64 y, .int .i64 t, .int .i64 o, .slice AC cs.length cC] 29 (0, 0)))
 have HX0 := Aside0.mk (blk_new w (.cells #[.slice AW ws.length cW, .int .i64 y, .int .i64 t, .int .i64 o, .slice AC cs.length cC] 29 (0, 0)))
 cases c with
 | false =>
  rw [if_neg (by simp)] at h
  have HR := Aside0.mk (Option.some.inj h)
  clear h
  go_enter Try.func45, Try.ntmps45
  go_wp2_with (go_at_call 73; refine (impl_ClassesOk.calls k A0 c0 l0 false _ (Kd.C_below HR0.out HB0.out) HC0.out H1.out).mono ?_; rintro e w1 ⟨rfl, hb⟩; have HB := Aside0.mk (below_step HB0.out hb); have HX := Aside0.mk ((hb.block _ (blk_lt HX0.out)).trans HX0.out); clear hb HB0 HX0; have x0 := (blk_cell HX.out 0).trans rfl; have x1 := (blk_cell HX.out 1).trans rfl; have x2 := (blk_cell HX.out 2).trans rfl; have x3 := (blk_cell HX.out 3).trans rfl; have x4 := (blk_cell HX.out 4).trans rfl)
  go_ret2
  rw [← HR.out]
  exact ⟨rfl, HB.out⟩
 | true =>
 rw [if_pos rfl] at h
 obtain ⟨p, hp, h⟩ := Option.bind_eq_some_iff.mp h
 have H2 := Aside0.mk hp
 clear hp
 cases p with
 | false =>
  rw [if_neg (by simp)] at h
  have HR := Aside0.mk (Option.some.inj h)
  clear h
  go_enter Try.func45, Try.ntmps45
  go_wp2_with first | (go_at_call 73; refine (impl_ClassesOk.calls k A0 c0 l0 true _ (Kd.C_below HR0.out HB0.out) HC0.out H1.out).mono ?_; rintro e w1 ⟨rfl, hb⟩; have HB := Aside0.mk (below_step HB0.out hb); have HX := Aside0.mk ((hb.block _ (blk_lt HX0.out)).trans HX0.out); clear hb HB0 HX0; have x0 := (blk_cell HX.out 0).trans rfl; have x1 := (blk_cell HX.out 1).trans rfl; have x2 := (blk_cell HX.out 2).trans rfl; have x3 := (blk_cell HX.out 3).trans rfl; have x4 := (blk_cell HX.out 4).trans rfl) | (go_at_call 74; refine (impl_partsOk.calls AW cW ws y t o AC cC cs false _ (Kd.C_below HRW.out HB.out) HCW.out H2.out).mono ?_; rintro e w2 ⟨rfl, hb⟩; have HBn := Aside0.mk (below_step HB.out hb); have HXn := Aside0.mk ((hb.block _ (blk_lt HX.out)).trans HX.out); clear hb HB HX x0 x1 x2 x3 x4; have HB := HBn; have HX := HXn; clear HBn HXn; have x0 := (blk_cell HX.out 0).trans rfl; have x1 := (blk_cell HX.out 1).trans rfl; have x2 := (blk_cell HX.out 2).trans rfl; have x3 := (blk_cell HX.out 3).trans rfl; have x4 := (blk_cell HX.out 4).trans rfl)
  go_ret2
  rw [← HR.out]
  exact ⟨rfl, HB.out⟩
 | true =>
 rw [if_pos rfl] at h
 obtain ⟨F, hF, h⟩ := Option.bind_eq_some_iff.mp h
 have H3 := Aside0.mk hF
 clear hF
 split at h
 case isFalse => simp at h
 case isTrue hl =>
 have HL1 := Aside0.mk (fshort_of hl.1)
 have HL2 := Aside0.mk hl.2.1
 have HL3 := Aside0.mk hl.2.2
 clear hl
 have HP := Aside0.mk (parts_true H2.out)
 obtain ⟨r1, hr1, h⟩ := Option.bind_eq_some_iff.mp h
 have H4 := Aside0.mk hr1
 clear hr1
 have H := Aside0.mk h
 clear h
 go_enter Try.func45, Try.ntmps45
 go_wp2_with first | (go_at_call 73; refine (impl_ClassesOk.calls k A0 c0 l0 true _ (Kd.C_below HR0.out HB0.out) HC0.out H1.out).mono ?_; rintro e w1 ⟨rfl, hb⟩; have HB := Aside0.mk (below_step HB0.out hb); have HX := Aside0.mk ((hb.block _ (blk_lt HX0.out)).trans HX0.out); clear hb HB0 HX0; have x0 := (blk_cell HX.out 0).trans rfl; have x1 := (blk_cell HX.out 1).trans rfl; have x2 := (blk_cell HX.out 2).trans rfl; have x3 := (blk_cell HX.out 3).trans rfl; have x4 := (blk_cell HX.out 4).trans rfl) | (go_at_call 74; refine (impl_partsOk.calls AW cW ws y t o AC cC cs true _ (Kd.C_below HRW.out HB.out) HCW.out H2.out).mono ?_; rintro e w2 ⟨rfl, hb⟩; have HBn := Aside0.mk (below_step HB.out hb); have HXn := Aside0.mk ((hb.block _ (blk_lt HX.out)).trans HX.out); clear hb HB HX x0 x1 x2 x3 x4; have HB := HBn; have HX := HXn; clear HBn HXn; have x0 := (blk_cell HX.out 0).trans rfl; have x1 := (blk_cell HX.out 1).trans rfl; have x2 := (blk_cell HX.out 2).trans rfl; have x3 := (blk_cell HX.out 3).trans rfl; have x4 := (blk_cell HX.out 4).trans rfl) | fail
 go_at_call 75
 refine (impl_memClone.calls AW cW ws y t o AC cC cs _ (Kd.C_below HRW.out HB.out) HCW.out (Kd.C_below HRC.out HB.out) HCC.out (by have := HL2.out; omega) (by have := HL3.out; omega)).mono ?_
 rintro e w3 ⟨u, v, rfl, hu, hv, hb⟩
 have HS2 := Aside0.mk (below_size HB.out)
 have HBn := Aside0.mk (below_step HB.out hb)
 have HU := Aside0.mk (Kd.R_lower hu HS2.out)
 have HV := Aside0.mk (Kd.R_lower hv HS2.out)
 obtain ⟨AU, cU, rfl⟩ := Kd.R_slice hu
 obtain ⟨AV, cV, rfl⟩ := Kd.R_slice hv
 clear hu hv hb HB HX HS2 x0 x1 x2 x3 x4
 have HB := HBn
 clear HBn
 go_wp2_with fail
 go_at_call 76
 refine (impl_allFields.calls k A0 c0 l0 F _ (Kd.C_below HR0.out HB.out) HC0.out H3.out).mono ?_
 rintro e w4 ⟨vf, rfl, hf, hb⟩
 obtain ⟨AF, cF, rfl⟩ := Kd.S_slice hf
 have HM0 := Aside0.mk (MO_new (a1 := y) (a2 := t) (a3 := o) (below_size HB.out) hb HU.out HV.out hf)
 have HBn := Aside0.mk (below_alloc (below_step HB.out hb) (.cells #[.slice AU ws.length cU, .int .i64 y, .int .i64 t, .int .i64 o, .slice AV cs.length cV, .slice AF F.length cF, .slice none 0 0] 79 (0, 0)))
 clear hf hb HB HU HV
 have HB := HBn
 clear HBn
 obtain ⟨g, hg⟩ : ∃ g, g = w4.heap.size := ⟨_, rfl⟩
 have HG := Aside0.mk hg
 go_wp2
 rw [← hg] at HM0 ⊢
 clear hg
 generalize w4.alloc (.cells #[.slice AU ws.length cU, .int .i64 y, .int .i64 t, .int .i64 o, .slice AV cs.length cV, .slice AF F.length cF, .slice none 0 0] 79 (0, 0)) = W5 at HB HM0 ⊢
 obtain ⟨k1, k2, k3⟩ := MO_cells HM0.out
 dsimp only at k1 k2 k3
 obtain ⟨r1b, r1l⟩ := r1
 have hh := H.out
 cases r1b with
 | false =>
  rw [if_neg (by simp)] at hh
  have HR := Aside0.mk (Option.some.inj hh)
  clear hh H
  refine start_ (n := 23) (S := fun w' => Aside0 (Below w.heap.size w w') ∧ w'.cell? ⟨g, 1, none⟩ = some (.int .i64 y) ∧ w'.cell? ⟨g, 2, none⟩ = some (.int .i64 t) ∧ w'.cell? ⟨g, 3, none⟩ = some (.int .i64 o)) (ds := []) #[false, false, false, false, false, false, false, false, false, false, false, false, false, false, false, false, false, false, false, false, false, false, false] (by kernel_rfl) rfl rfl ⟨⟨below_drew1 HB.out⟩, (by go_simp), (by go_simp), (by go_simp)⟩ (fun hHeld => ?_)
  refine pS 0 23 (lA 23 1) ?_
  refine pS 1 24 (lA 23 3) ?_
  refine pS 2 25 (lA 23 7) ?_
  refine pS 3 26 (lA 23 15) ?_
  refine pS 4 27 (lA 23 31) ?_
  refine tS 5 28 (lA 23 63) rfl rfl (by kernel_rfl) hHeld z23 ?_
  refine one_ (i := 6) (N := some 29) (lA 23 127) rfl rfl (by kernel_rfl) (by decide) (fun K hK => ?_)
  refine goes_ Try.func77 (by kernel_rfl) rfl #[.pointer (some ⟨g, 0, none⟩), .int .i64 0, .int .i64 t] (by rfl) rfl rfl z5 ?_
  with_reducible refine (memory_walk.calls w.heap.size g _ 0 t q (false, r1l) _ (MO_below HM0.out (below_drew1 (Below.refl _ _))) hHeld.1.out.size (by decide) (by have := HP.out; show t ≤ (ws.length : Int); omega) HL2.out (Nat.zero_le _) HL1.out H4.out).mono ?_
  rintro e w5 ⟨rfl, ho1, hb1⟩
  have hMO1 := Aside0.mk ho1
  have hB1 := Aside0.mk hb1
  obtain ⟨c1_, c2_, c3_⟩ := MO_cells ho1
  dsimp only at c1_ c2_ c3_
  refine ⟨_, rfl, ?_⟩
  refine hK.out _ _ ⟨⟨hHeld.1.out.trans hB1.out⟩, c1_, c2_, c3_⟩ (fun hHeld => ?_)
  clear hK K
  refine norm_ (a' := ?_) ?_ ?_
  rotate_left
  ·show Act.put _ (some 29) _ = _
   simp only [Act.put, lA1, lA2, lA3, i64_w, i32_w]
   rfl
  refine pS 7 30 (lA 23 255) ?_
  refine pS 8 31 (lA 23 511) ?_
  refine pU 9 32 (lA 23 1023) ?_
  refine pU 10 33 (lA 23 2047) ?_
  refine pU 11 34 (lA 23 4095) ?_
  refine pU 12 35 (lA 23 8191) ?_
  refine pU 13 36 (lA 23 16383) ?_
  refine pU 14 37 (lA 23 32767) ?_
  refine pU 15 38 (lA 23 65535) ?_
  refine pU 16 39 (lA 23 131071) ?_
  refine pU 17 40 (lA 23 262143) ?_
  refine pU 18 41 (lA 23 524287) ?_
  refine pU 19 42 (lA 23 1048575) ?_
  refine pU 20 43 (lA 23 2097151) ?_
  refine pU 21 44 (lA 23 4194303) ?_
  refine pS 22 45 (lA 23 8388607) ?_
  refine done_ (by kernel_rfl) ?_
  go_wp2
  go_ret2
  rw [← HR.out]
  exact ⟨rfl, hHeld.1.out⟩
 | true =>
 rw [if_pos rfl] at hh
 split at hh
 case isFalse => simp at hh
 case isTrue hl =>
 have HL4 := Aside0.mk hl
 clear hl
 obtain ⟨r2, hr2, hh⟩ := Option.bind_eq_some_iff.mp hh
 have H5 := Aside0.mk hr2
 clear hr2 H
 obtain ⟨r2b, r2l⟩ := r2
 cases r2b with
 | false =>
  rw [if_neg (by simp)] at hh
  have HR := Aside0.mk (Option.some.inj hh)
  clear hh
  refine start_ (n := 23) (S := fun w' => Aside0 (Below w.heap.size w w') ∧ w'.cell? ⟨g, 1, none⟩ = some (.int .i64 y) ∧ w'.cell? ⟨g, 2, none⟩ = some (.int .i64 t) ∧ w'.cell? ⟨g, 3, none⟩ = some (.int .i64 o)) (ds := []) #[false, false, false, false, false, false, false, false, false, false, false, false, false, false, false, false, false, false, false, false, false, false, false] (by kernel_rfl) rfl rfl ⟨⟨below_drew1 HB.out⟩, (by go_simp), (by go_simp), (by go_simp)⟩ (fun hHeld => ?_)
  refine pS 0 23 (lA 23 1) ?_
  refine pS 1 24 (lA 23 3) ?_
  refine pS 2 25 (lA 23 7) ?_
  refine pS 3 26 (lA 23 15) ?_
  refine pS 4 27 (lA 23 31) ?_
  refine tS 5 28 (lA 23 63) rfl rfl (by kernel_rfl) hHeld z23 ?_
  refine one_ (i := 6) (N := some 29) (lA 23 127) rfl rfl (by kernel_rfl) (by decide) (fun K hK => ?_)
  refine goes_ Try.func77 (by kernel_rfl) rfl #[.pointer (some ⟨g, 0, none⟩), .int .i64 0, .int .i64 t] (by rfl) rfl rfl z5 ?_
  with_reducible refine (memory_walk.calls w.heap.size g _ 0 t q (true, r1l) _ (MO_below HM0.out (below_drew1 (Below.refl _ _))) hHeld.1.out.size (by decide) (by have := HP.out; show t ≤ (ws.length : Int); omega) HL2.out (Nat.zero_le _) HL1.out H4.out).mono ?_
  rintro e w5 ⟨rfl, ho1, hb1⟩
  have hMO1 := Aside0.mk ho1
  have hB1 := Aside0.mk hb1
  obtain ⟨c1_, c2_, c3_⟩ := MO_cells ho1
  dsimp only at c1_ c2_ c3_
  refine ⟨_, rfl, ?_⟩
  refine hK.out _ _ ⟨⟨hHeld.1.out.trans hB1.out⟩, c1_, c2_, c3_⟩ (fun hHeld => ?_)
  clear hK K
  refine norm_ (a' := ?_) ?_ ?_
  rotate_left
  ·show Act.put _ (some 29) _ = _
   simp only [Act.put, lA1, lA2, lA3, i64_w, i32_w]
   rfl
  refine pS 7 30 (lA 23 255) ?_
  refine pS 8 31 (lA 23 511) ?_
  refine pS 9 32 (lA 23 1023) ?_
  refine pS 10 33 (lA 23 2047) ?_
  refine pS 11 34 (lA 23 4095) ?_
  refine pS 12 35 (lA 23 8191) ?_
  refine pS 13 36 (lA 23 16383) ?_
  refine pS 15 38 (lA 23 49151) ?_
  refine pS 16 39 (lA 23 114687) ?_
  refine pS 17 40 (lA 23 245759) ?_
  refine pS 18 41 (lA 23 507903) ?_
  refine tS 14 37 (lA 23 524287) rfl rfl (by kernel_rfl) hHeld z23 ?_
  refine tS 19 42 (lA 23 1048575) rfl rfl (by kernel_rfl) hHeld z23 ?_
  refine one_ (i := 20) (N := some 43) (lA 23 2097151) rfl rfl (by kernel_rfl) (by decide) (fun K hK => ?_)
  refine goes_ Try.func77 (by kernel_rfl) rfl #[.pointer (some ⟨g, 0, none⟩), .int .i64 y, .int .i64 o] (by rfl) rfl rfl z5 ?_
  with_reducible refine (memory_walk.calls w.heap.size g _ y o q (false, r2l) _ hMO1.out hHeld.1.out.size HP.out.1 (by have := HP.out; show o ≤ (ws.length : Int); omega) HL2.out HL4.out HL1.out H5.out).mono ?_
  rintro e w6 ⟨rfl, ho2, hb2⟩
  have hMO2 := Aside0.mk ho2
  have hB2 := Aside0.mk hb2
  obtain ⟨d1_, d2_, d3_⟩ := MO_cells ho2
  dsimp only at d1_ d2_ d3_
  refine ⟨_, rfl, ?_⟩
  refine hK.out _ _ ⟨⟨hHeld.1.out.trans hB2.out⟩, d1_, d2_, d3_⟩ (fun hHeld => ?_)
  clear hK K
  refine norm_ (a' := ?_) ?_ ?_
  rotate_left
  ·show Act.put _ (some 43) _ = _
   simp only [Act.put, lA1, lA2, lA3, i64_w, i32_w]
   rfl
  refine pS 21 44 (lA 23 4194303) ?_
  refine pS 22 45 (lA 23 8388607) ?_
  refine done_ (by kernel_rfl) ?_
  go_wp2
  go_ret2
  rw [← HR.out]
  exact ⟨rfl, hHeld.1.out⟩
 | true =>
 rw [if_pos rfl] at hh
 split at hh
 case isFalse => simp at hh
 case isTrue hl =>
 have HL5 := Aside0.mk hl
 clear hl
 obtain ⟨ok, hok, hh⟩ := Option.bind_eq_some_iff.mp hh
 have H6 := Aside0.mk hok
 have H7 := Aside0.mk hh
 clear hok hh
 refine start_ (n := 23) (S := fun w' => Aside0 (Below w.heap.size w w') ∧ w'.cell? ⟨g, 1, none⟩ = some (.int .i64 y) ∧ w'.cell? ⟨g, 2, none⟩ = some (.int .i64 t) ∧ w'.cell? ⟨g, 3, none⟩ = some (.int .i64 o)) (ds := []) #[false, false, false, false, false, false, false, false, false, false, false, false, false, false, false, false, false, false, false, false, false, false, false] (by kernel_rfl) rfl rfl ⟨⟨below_drew1 HB.out⟩, (by go_simp), (by go_simp), (by go_simp)⟩ (fun hHeld => ?_)
 refine pS 0 23 (lA 23 1) ?_
 refine pS 1 24 (lA 23 3) ?_
 refine pS 2 25 (lA 23 7) ?_
 refine pS 3 26 (lA 23 15) ?_
 refine pS 4 27 (lA 23 31) ?_
 refine tS 5 28 (lA 23 63) rfl rfl (by kernel_rfl) hHeld z23 ?_
 refine one_ (i := 6) (N := some 29) (lA 23 127) rfl rfl (by kernel_rfl) (by decide) (fun K hK => ?_)
 refine goes_ Try.func77 (by kernel_rfl) rfl #[.pointer (some ⟨g, 0, none⟩), .int .i64 0, .int .i64 t] (by rfl) rfl rfl z5 ?_
 with_reducible refine (memory_walk.calls w.heap.size g _ 0 t q (true, r1l) _ (MO_below HM0.out (below_drew1 (Below.refl _ _))) hHeld.1.out.size (by decide) (by have := HP.out; show t ≤ (ws.length : Int); omega) HL2.out (Nat.zero_le _) HL1.out H4.out).mono ?_
 rintro e w5 ⟨rfl, ho1, hb1⟩
 have hMO1 := Aside0.mk ho1
 have hB1 := Aside0.mk hb1
 obtain ⟨c1_, c2_, c3_⟩ := MO_cells ho1
 dsimp only at c1_ c2_ c3_
 refine ⟨_, rfl, ?_⟩
 refine hK.out _ _ ⟨⟨hHeld.1.out.trans hB1.out⟩, c1_, c2_, c3_⟩ (fun hHeld => ?_)
 clear hK K
 refine norm_ (a' := ?_) ?_ ?_
 rotate_left
 ·show Act.put _ (some 29) _ = _
  simp only [Act.put, lA1, lA2, lA3, i64_w, i32_w]
  rfl
 refine pS 7 30 (lA 23 255) ?_
 refine pS 8 31 (lA 23 511) ?_
 refine pS 9 32 (lA 23 1023) ?_
 refine pS 10 33 (lA 23 2047) ?_
 refine pS 11 34 (lA 23 4095) ?_
 refine pS 12 35 (lA 23 8191) ?_
 refine pS 13 36 (lA 23 16383) ?_
 refine pS 15 38 (lA 23 49151) ?_
 refine pS 16 39 (lA 23 114687) ?_
 refine pS 17 40 (lA 23 245759) ?_
 refine pS 18 41 (lA 23 507903) ?_
 refine tS 14 37 (lA 23 524287) rfl rfl (by kernel_rfl) hHeld z23 ?_
 refine tS 19 42 (lA 23 1048575) rfl rfl (by kernel_rfl) hHeld z23 ?_
 refine one_ (i := 20) (N := some 43) (lA 23 2097151) rfl rfl (by kernel_rfl) (by decide) (fun K hK => ?_)
 refine goes_ Try.func77 (by kernel_rfl) rfl #[.pointer (some ⟨g, 0, none⟩), .int .i64 y, .int .i64 o] (by rfl) rfl rfl z5 ?_
 with_reducible refine (memory_walk.calls w.heap.size g _ y o q (true, r2l) _ hMO1.out hHeld.1.out.size HP.out.1 (by have := HP.out; show o ≤ (ws.length : Int); omega) HL2.out HL4.out HL1.out H5.out).mono ?_
 rintro e w6 ⟨rfl, ho2, hb2⟩
 have hMO2 := Aside0.mk ho2
 have hB2 := Aside0.mk hb2
 obtain ⟨d1_, d2_, d3_⟩ := MO_cells ho2
 dsimp only at d1_ d2_ d3_
 refine ⟨_, rfl, ?_⟩
 refine hK.out _ _ ⟨⟨hHeld.1.out.trans hB2.out⟩, d1_, d2_, d3_⟩ (fun hHeld => ?_)
 clear hK K
 refine norm_ (a' := ?_) ?_ ?_
 rotate_left
 ·show Act.put _ (some 43) _ = _
  simp only [Act.put, lA1, lA2, lA3, i64_w, i32_w]
  rfl
 refine pS 21 44 (lA 23 4194303) ?_
 refine pS 22 45 (lA 23 8388607) ?_
 refine done_ (by kernel_rfl) ?_
 have HB := hHeld.1
 clear hHeld
 obtain ⟨AW6, cW6, AC6, cC6, AF6, cF6, AB, cB, g0, hg1, _, _, _, _, rB⟩ := hMO2.out
 have k6 := (blk_cell g0 6).trans rfl
 have HCB := Aside0.mk (Kd.R_reads' rB).2.2
 clear g0 rB hg1
 go_wp2
 go_loopw [51] (fun i wr => ∃ j : Nat, i = .int .i64 j ∧ j ≤ r2l.length ∧ Aside0 (thingsOk q ⟨ws, y, t, o, cs, F, r2l⟩ (r2l.drop j) = some ok) ∧ Aside0 (Below w6.heap.size w6 wr)) (fun i _ => r2l.length - (intOf i).toNat)
 case atStart => exact ⟨0, rfl, Nat.zero_le _, ⟨by rw [List.drop_zero]; exact H6.out⟩, ⟨Below.refl _ _⟩⟩
 case round =>
  clear H6
  obtain ⟨j, rfl, hj, HT, HB6⟩ := hrel
  by_cases hlt : j < r2l.length
  ·have hd := List.drop_eq_getElem_cons hlt
   have hg : r2l[j] = rd r2l j := by unfold rd; rw [Int.toNat_natCast, List.getD_eq_getElem?_getD, List.getElem?_eq_getElem hlt]; rfl
   obtain ⟨ad, e0, hcell⟩ := Kd.at_int (Kd.C_below HCB.out HB6.out) j (by omega) (by omega)
   cases e0
   rw [Int.toNat_natCast] at hcell
   have ht := HT.out
   rw [hd, hg] at ht
   unfold thingsOk at ht
   obtain ⟨o1, ho1, ht⟩ := Option.bind_eq_some_iff.mp ht
   have HO1 := Aside0.mk ho1
   clear hd hg HT ho1
   generalize rd r2l j = x at *
   cases o1 with
   | false =>
    rw [if_neg (by simp)] at ht
    have h7 := H7.out
    rw [← Option.some.inj ht, if_neg (by simp)] at h7
    have HR := Aside0.mk (Option.some.inj h7)
    clear ht h7
    go_wp2_with fail
    go_at_call 78
    refine (memory_thing.calls g x _).mono ?_
    rintro e w7 ⟨rfl, hb⟩
    have HB7 := Aside0.mk (below_step HB6.out hb)
    clear hb
    go_wp2_with fail
    go_at_call 79
    refine (thing_wordsOk.calls q g _ x false _ (MV_below (MO_MV hMO2.out) HB7.out) HO1.out).mono ?_
    rintro e w8 ⟨rfl, hb⟩
    have HB8 := Aside0.mk (below_step HB7.out hb)
    clear hb HB7
    go_wp2
    go_ret2
    rw [← HR.out]
    exact ⟨rfl, below_then HB.out (Nat.le_trans (Nat.le_refl _) HB.out.size) HB8.out⟩
   | true =>
    rw [if_pos rfl] at ht
    have HT2 := Aside0.mk ht
    clear ht
    go_wp2_with fail
    go_at_call 78
    refine (memory_thing.calls g x _).mono ?_
    rintro e w7 ⟨rfl, hb⟩
    have HB7 := Aside0.mk (below_step HB6.out hb)
    clear hb
    go_wp2_with fail
    go_at_call 79
    refine (thing_wordsOk.calls q g _ x true _ (MV_below (MO_MV hMO2.out) HB7.out) HO1.out).mono ?_
    rintro e w8 ⟨rfl, hb⟩
    have HB8 := Aside0.mk (below_step HB7.out hb)
    clear hb HB7
    go_wp2
    go_roundw
    case rel => exact ⟨j + 1, by rw [show wrap64 ((j : Int) + 1) = ((j + 1 : Nat) : Int) by have := HL5.out; unfold wrap64; omega], by omega, HT2, HB8⟩
    case measure => rw [show wrap64 ((j : Int) + 1) = ((j + 1 : Nat) : Int) by have := HL5.out; unfold wrap64; omega]; simp only [intOf, Int.toNat_natCast]; omega
  ·have d0 : decide ((j : Int) < r2l.length) = false := decide_eq_false (by omega)
   have ht := HT.out
   rw [List.drop_eq_nil_of_le (by omega)] at ht
   have h7 := H7.out
   rw [← Option.some.inj ht, if_pos rfl] at h7
   have HR := Aside0.mk (Option.some.inj h7)
   clear ht h7
   go_wp2
   go_ret2
   rw [← HR.out]
   exact ⟨g, rfl, MO_below hMO2.out HB6.out, below_then HB.out HB.out.size HB6.out⟩
end Go.Proofs.Ytmniglgahodghaa.K
namespace Go.Proofs.Ytmniglgahodghaa.K
open Go.RowKit Go.Proofs.YtmniglgahodghaaW.PrintWords Go.Proofs.YtmniglgahodghaaW.PrintLast Go.Proofs.YtmniglgahodghaaW.PrintMore
attribute [local go_sem] max2_int min2_int max_two min_two max_three min_three max_four min_four
set_option linter.unusedVariables false
set_option linter.unusedSimpArgs false
def insRen : Go.Shelf.Ren := ⟨fun | 21 => 97 | 27 => 123 | 28 => 124 | 35 => 133 | 39 => 136 | n => n, fun | 0 => 0 | 3 => 3 | 4 => 4 | 22 => 23 | n => n, fun n => n⟩
theorem insLays : Lays2.n21 Try.prog insRen := {
 mixed := by kernel_rfl
 f21 := Try.func97.trans (congrArg some (by kernel_rfl))
 f27 := Try.func123.trans (congrArg some (by kernel_rfl))
 f28 := Try.func124.trans (congrArg some (by kernel_rfl))
 f35 := Try.func133.trans (congrArg some (by kernel_rfl))
 f39 := Try.func136.trans (congrArg some (by kernel_rfl))
 t0 := Try.underlying0
 a0 := Try.isAgg0
 z0 := Try.sizeOf0
 v0 := Try.zeroValue0
 t3 := Try.underlying3
 a3 := Try.isAgg3
 z3 := Try.sizeOf3
 v3 := Try.zeroValue3
 t4 := Try.underlying4
 a4 := Try.isAgg4
 z4 := Try.sizeOf4
 v4 := Try.zeroValue4
 t22 := Try.underlying23
 a22 := Try.isAgg23
 z22 := Try.sizeOf23
 v22 := Try.zeroValue23
 i3 := by kernel_rfl }
theorem ins_shift {cur cs l1 l2 : List Value} {n i : Nat} {x : Value} (hcs : cs = cur.take n) (hc : n + 1 ≤ cur.length) (hi : i ≤ n)
  (e1 : l1 = cur.take (i + 1) ++ cs.drop i ++ cur.drop (i + 1 + (cs.drop i).length)) (e2 : l2 = l1.take i ++ [x] ++ l1.drop (i + [x].length)) : l2.take (n + 1) = cs.take i ++ x :: cs.drop i := by
 have hl : cs.length = n := by rw [hcs, List.length_take]; omega
 have a : l1.take i = cs.take i := by
  rw [e1, List.append_assoc, List.take_append_of_le_length (by rw [List.length_take]; omega), List.take_take, hcs, List.take_take]
  congr 1; omega
 have b : l1.drop (i + 1) = cs.drop i ++ cur.drop (i + 1 + (cs.drop i).length) := by
  rw [e1, List.append_assoc, List.drop_left' (by rw [List.length_take]; omega)]
 have c : l2 = (cs.take i ++ x :: cs.drop i) ++ cur.drop (i + 1 + (cs.drop i).length) := by
  rw [e2, a, List.length_singleton, b]; simp
 rw [c, List.take_left' (by simp; omega)]
theorem ins_new {l0 cs l1 l2 : List Value} {n i : Nat} {x : Value} (hl : cs.length = n) (hi : i ≤ n) (h0 : l0.take i = cs.take i) (hc : n + 1 ≤ l0.length)
  (e1 : l1 = l0.take i ++ [x] ++ l0.drop (i + [x].length)) (e2 : l2 = l1.take (i + 1) ++ cs.drop i ++ l1.drop (i + 1 + (cs.drop i).length)) : l2.take (n + 1) = cs.take i ++ x :: cs.drop i := by
 have a : l1.take (i + 1) = cs.take i ++ [x] := by
  rw [e1, h0, List.take_left' (by simp; omega)]
 rw [e2, a, List.take_left' (by simp; omega)]; simp
theorem ins_fin {w : World} {base g cap : Nat} {ok : Nat → Prop} {cur : Array Value} {ys : List Int} (hok : ok g) (hb : base ≤ g) (hh : w.heap[g]? = some (.cells cur 3 (0, 0))) (hn : ys.length ≤ cap) (hm : cap ≤ maxLen) (hs : cur.size = cap) (ht : cur.toList.take ys.length = encs (Value.int .i64) ys) :
    Kd.R (Kd.int .i64) 3 w base ok (.slice (some ⟨g, 0, none⟩) ys.length cap) ys :=
  Kd.R_of_own (enc := Value.int .i64) (h1 := fun _ => rfl) ⟨by simp [encs], .inr ⟨g, cap, cur, rfl, hb, hh, hn, hm, by rw [hs, Nat.mul_one], by rw [Nat.mul_one]; exact ht⟩⟩ (fun k hk => by simp [Value.ownBlock] at hk; subst hk; exact hok)
theorem ins_encs (acc : List Int) (i : Nat) (x : Int) : (encs (Value.int .i64) acc).take i ++ Value.int .i64 x :: (encs (Value.int .i64) acc).drop i = encs (Value.int .i64) (acc.take i ++ x :: acc.drop i) := by
  simp [encs, List.map_take, List.map_drop]
theorem ins_calls {w : World} {base : Nat} {ok : Nat → Prop} {AB : Option Addr} {cB : Nat} {acc : List Int} {i : Nat} {vb : Nat} {x : Int}
    (h : Kd.R (Kd.int .i64) 3 w base ok (.slice AB acc.length cB) acc) (hi : i ≤ acc.length) (hl : acc.length + 1 ≤ 1048576) (hbase : base ≤ w.heap.size) (hfr : ∀ k, w.heap.size ≤ k → ok k)
    (hv : w.heap[vb]? = some (.cells #[.int .i64 x] 3 (0, 0))) (hne : some vb ≠ (Value.slice AB acc.length cB).ownBlock) :
    Calls Try.prog 97 #[.slice AB acc.length cB, .int .i64 i, .slice (some ⟨vb, 0, none⟩) 1 1] w fun e w' => ∃ AN cN, e = .returned (.slice AN (acc.take i ++ x :: acc.drop i).length cN) ∧ Kd.R (Kd.int .i64) 3 w' base ok (.slice AN (acc.take i ++ x :: acc.drop i).length cN) (acc.take i ++ x :: acc.drop i) ∧ w.grownBy w' (Value.slice AB acc.length cB).ownBlock ∧ ((Value.slice AN (acc.take i ++ x :: acc.drop i).length cN).ownBlock = (Value.slice AB acc.length cB).ownBlock ∨ ∃ k, (Value.slice AN (acc.take i ++ x :: acc.drop i).length cN).ownBlock = some k ∧ w.heap.size ≤ k) := by
  have hlen : (acc.take i ++ x :: acc.drop i).length = acc.length + 1 := by simp; omega
  have hvs : ∀ j v, [Value.int .i64 x][j]? = some v → w.cell? ⟨vb, 0 + j, none⟩ = some v := fun j v hj => by
    rcases j with _ | j
    · rw [blk_cell hv]; exact hj
    · simp at hj
  have h1v : ∀ v ∈ [Value.int .i64 x], v.oneCell' = true := fun v hv' => by rw [List.mem_singleton.mp hv']; rfl
  have h1c : ∀ v ∈ encs (Value.int .i64) acc, v.oneCell' = true := fun v hv' => by
    obtain ⟨y, _, rfl⟩ := List.mem_map.mp hv'; rfl
  have hel : (encs (Value.int .i64) acc).length = acc.length := by simp [encs]
  have hml : (1048577 : Nat) ≤ maxLen := by decide
  have hmx : maxLen ≤ 9223372036854775807 := by decide
  have hg3 : ∀ c, acc.length + 1 ≤ grownCap w (acc.length + 1) c 3 := fun c => grownCap_ge w _ c 3
  have hgm : ∀ c, grownCap w (acc.length + 1) c 3 ≤ maxLen := fun c => grownCap_le_maxLen w _ c 3 (by omega)
  obtain ⟨h1, h2⟩ := Kd.own_of_R h
  rcases h2 with ⟨hv0, hn⟩ | ⟨g, cap, cur, hv0, hg, hh, hcap, hmax, hsz, hcur⟩
  · injection hv0 with e1 e2 e3
    subst e1; subst e3
    have ha : acc = [] := List.length_eq_zero_iff.mp hn
    subst ha
    obtain rfl : i = 0 := by simpa using hi
    refine (Any2.slices_Insert_int_end_grow insLays none 0 0 vb 0 1 1 [] [.int .i64 x] w (by omega) (by omega) (by omega) (by omega) rfl rfl (fun _ => rfl) (fun a e => by cases e) hvs h1v).mono ?_
    rintro e w' ⟨rfl, rfl⟩
    have hgr := World.grownBy_alloc w.drew (.cells (([] ++ [Value.int .i64 x]).toArray ++ Builtin.zeroCells (Value.int .i64 0).cells (grownCap w (0 + 1) 0 3 - (0 + 1))) 3) (Value.slice none 0 0).ownBlock
    have q := hg3 0; have q2 := hgm 0
    simp only [List.length_nil] at q q2
    refine ⟨_, _, rfl, ins_fin (hfr _ (Nat.le_refl _)) hbase (heap_alloc_new w.drew _) q q2 ?_ ?_, ⟨hgr.os, hgr.tape, hgr.output, hgr.size, hgr.block⟩, .inr ⟨_, rfl, Nat.le_refl _⟩⟩
    · have q3 : 1 ≤ grownCap w 1 0 (insRen.t 3) := q
      simp [size_zeroCells, Value.cells]; exact (by have e : grownCap w 1 0 3 = grownCap w 1 0 (insRen.t 3) := rfl
                                                    omega)
    · simp [encs]
  · injection hv0 with e1 e2 e3
    subst e1; subst e3
    rw [Nat.mul_one] at hsz hcur
    have hgv : vb ≠ g := fun e => hne (by rw [e]; rfl)
    have hcs : ∀ j v, (encs (Value.int .i64) acc)[j]? = some v → w.cell? ⟨g, 0 + j, none⟩ = some v := fun j v hj => by
      rw [blk_cell hh, Nat.zero_add]
      rw [← hcur] at hj
      have hj2 : j < acc.length := by
        have := (List.getElem?_eq_some_iff.mp hj).1
        simp at this; omega
      rw [List.getElem?_take_of_lt hj2] at hj
      simpa using hj
    have hsp : ∀ j, j < cB → (w.cell? ⟨g, 0 + j, none⟩).isSome = true := fun j hj => by
      rw [blk_cell hh, Nat.zero_add, Array.getElem?_eq_getElem (by omega)]; rfl
    have hfz : ∀ j, w.frozen? ⟨g, j, none⟩ = false := fun j => blk_frozen hh j
    rcases Nat.lt_or_ge i acc.length with hin | hin
    · rcases Nat.lt_or_ge cB (acc.length + 1) with hroom | hroom
      · refine (Any2.slices_Insert_int_grow insLays g 0 acc.length cB i vb 0 1 1 (encs (Value.int .i64) acc) [.int .i64 x] w hin (by omega) hcap hroom (by omega) hel rfl hcs hvs h1c h1v).mono ?_
        rintro e w' ⟨rfl, rfl⟩
        obtain ⟨l0, hl0⟩ : ∃ l, l = ((encs (Value.int .i64) acc).take i).toArray ++ Builtin.zeroCells (Value.int .i64 0).cells (acc.length + 1 - i) ++ Builtin.zeroCells (Value.int .i64 0).cells (grownCap w (acc.length + 1) cB 3 - (acc.length + 1)) := ⟨_, rfl⟩
        have q := hg3 cB; have q2 := hgm cB
        have hs0 : l0.size = grownCap w (acc.length + 1) cB 3 := by rw [hl0]; simp [size_zeroCells, Value.cells, hel]; omega
        have hb0 : (w.alloc (.cells l0 3)).drew.heap[w.heap.size]? = some (.cells l0 3 (0, 0)) := heap_alloc_new w _
        rw [show insRen.t 3 = 3 from rfl, ← hl0]
        obtain ⟨c1, r1, r2, r3⟩ := setCells_row [Value.int .i64 x] i _ l0 hb0 (by rw [hs0, List.length_singleton]; omega)
        obtain ⟨c2, s1, s2, s3⟩ := setCells_row ((encs (Value.int .i64) acc).drop i) (i + 1) (((w.alloc (.cells l0 3)).drew.setCells w.heap.size i [Value.int .i64 x]).drew) c1 r1 (by rw [r2, hs0, List.length_drop, hel]; omega)
        obtain ⟨a1, a2, a3, a4⟩ := setCells_same w.heap.size [Value.int .i64 x] i (w.alloc (.cells l0 3)).drew
        obtain ⟨b1, b2, b3, b4⟩ := setCells_same w.heap.size ((encs (Value.int .i64) acc).drop i) (i + 1) (((w.alloc (.cells l0 3)).drew.setCells w.heap.size i [Value.int .i64 x]).drew)
        refine ⟨some ⟨w.heap.size, 0, none⟩, grownCap w (acc.length + 1) cB 3, by rw [hlen], ?_, ⟨b1.trans a1, b2.trans a2, b3.trans a3, ?_, fun k hk hk2 => ?_⟩, .inr ⟨_, rfl, Nat.le_refl _⟩⟩
        · refine ins_fin (hfr _ (Nat.le_refl _)) hbase s1 (by rw [hlen]; exact q) q2 (by rw [s2, r2, hs0]) ?_
          rw [hlen, ← ins_encs]
          exact ins_new hel (by omega) (by rw [hl0]; simp [hel]; rw [List.take_append_of_le_length (by simp [hel]; omega), List.take_take]; simp) (by rw [show l0.toList.length = l0.size from rfl, hs0]; exact q) r3 s3
        · rw [b4]; show w.heap.size ≤ ((w.alloc (.cells l0 3)).drew.setCells w.heap.size i [Value.int .i64 x]).heap.size; rw [a4]; show w.heap.size ≤ (w.alloc (.cells l0 3)).heap.size; rw [World.size_alloc]; omega
        · rw [setCells_far _ _ k (by omega)]
          show ((w.alloc (.cells l0 3)).drew.setCells w.heap.size i [Value.int .i64 x]).heap[k]? = _
          rw [setCells_far _ _ k (by omega)]
          exact (World.grownBy_alloc w (.cells l0 3) none).block k hk (by simp)
      · refine (Any2.slices_Insert_int_shift insLays g 0 acc.length cB i vb 0 1 1 (encs (Value.int .i64) acc) [.int .i64 x] w hin (by omega) hroom (by omega) hgv hel rfl hcs (fun j hj => hsp j (by omega)) (fun j _ => hfz _) hvs h1c h1v 3 3 1 cur.size (by simp [World.shape?, hv]) (by simp [World.shape?, hh]) (by omega) (blk_frozen hv 0) (blk_frozen hv 1)).mono ?_
        rintro e w' ⟨rfl, rfl⟩
        have hb0 : w.drew.heap[g]? = some (.cells cur 3 (0, 0)) := hh
        obtain ⟨c1, r1, r2, r3⟩ := setCells_row ((encs (Value.int .i64) acc).drop i) (0 + (i + 1)) w.drew cur hb0 (by rw [List.length_drop, hel]; omega)
        obtain ⟨c2, s1, s2, s3⟩ := setCells_row [Value.int .i64 x] (0 + i) (w.drew.setCells g (0 + (i + 1)) ((encs (Value.int .i64) acc).drop i)) c1 r1 (by rw [r2, List.length_singleton]; omega)
        obtain ⟨a1, a2, a3, a4⟩ := setCells_same g ((encs (Value.int .i64) acc).drop i) (0 + (i + 1)) w.drew
        obtain ⟨b1, b2, b3, b4⟩ := setCells_same g [Value.int .i64 x] (0 + i) (w.drew.setCells g (0 + (i + 1)) ((encs (Value.int .i64) acc).drop i))
        have hok : ok g := h.1 g rfl
        refine ⟨some ⟨g, 0, none⟩, cB, by rw [hlen], ?_, ⟨b1.trans a1, b2.trans a2, b3.trans a3, by rw [b4, a4]; exact Nat.le_refl _, fun k hk hk2 => ?_⟩, .inl rfl⟩
        · refine ins_fin hok hg s1 (by rw [hlen]; exact hroom) hmax (by rw [s2, r2, hsz]) ?_
          rw [hlen, ← ins_encs]
          rw [Nat.zero_add] at r3 s3
          exact ins_shift hcur.symm (by rw [show cur.toList.length = cur.size from rfl]; omega) (by omega) r3 s3
        · have hkg : k ≠ g := fun e => hk2 (by rw [e]; rfl)
          rw [setCells_far _ _ k hkg, setCells_far _ _ k hkg]; rfl
    · obtain rfl : i = acc.length := by omega
      have hys : acc.take acc.length ++ x :: acc.drop acc.length = acc ++ [x] := by simp
      rcases Nat.lt_or_ge cB (acc.length + 1) with hroom | hroom
      · refine (Any2.slices_Insert_int_end_grow insLays (some ⟨g, 0, none⟩) acc.length cB vb 0 1 1 (encs (Value.int .i64) acc) [.int .i64 x] w (by omega) hcap hroom (by omega) hel rfl (fun e => by cases e) (fun a e j v hj => by
          cases e; rw [Addr.add_lit]; exact hcs j v hj) hvs h1v).mono ?_
        rintro e w' ⟨rfl, rfl⟩
        have hgr := World.grownBy_alloc w.drew (.cells ((encs (Value.int .i64) acc ++ [Value.int .i64 x]).toArray ++ Builtin.zeroCells (Value.int .i64 0).cells (grownCap w (acc.length + 1) cB 3 - (acc.length + 1))) 3) (Value.slice (some ⟨g, 0, none⟩) acc.length cB).ownBlock
        have q := hg3 cB; have q2 := hgm cB
        refine ⟨some ⟨w.heap.size, 0, none⟩, grownCap w (acc.length + 1) cB 3, by rw [hlen]; rfl, ins_fin (hfr _ (Nat.le_refl _)) hbase (heap_alloc_new w.drew _) (by rw [hlen]; exact q) q2 ?_ ?_, ⟨hgr.os, hgr.tape, hgr.output, hgr.size, hgr.block⟩, .inr ⟨_, rfl, Nat.le_refl _⟩⟩
        · have q3 : grownCap w (acc.length + 1) cB 3 = grownCap w (acc.length + 1) cB (insRen.t 3) := rfl
          simp [size_zeroCells, Value.cells, hel]; omega
        · rw [hlen, hys, Array.toList_append, List.take_left' (by simp [hel])]; simp [encs]
      · refine (Any2.slices_Insert_int_end_room insLays g 0 acc.length cB vb 0 1 1 [.int .i64 x] w (by omega) hroom (by omega) rfl (fun j hj => by have := hsp (acc.length + j) (by omega); rwa [Nat.zero_add] at this ⊢) (fun j _ => hfz _) hvs h1v).mono ?_
        rintro e w' ⟨rfl, rfl⟩
        obtain ⟨c1, r1, r2, r3⟩ := setCells_row [Value.int .i64 x] (0 + acc.length) w cur hh (by rw [List.length_singleton]; omega)
        obtain ⟨a1, a2, a3, a4⟩ := setCells_same g [Value.int .i64 x] (0 + acc.length) w
        have hok : ok g := h.1 g rfl
        refine ⟨some ⟨g, 0, none⟩, cB, by rw [hlen], ?_, ⟨a1, a2, a3, by rw [a4]; exact Nat.le_refl _, fun k hk hk2 => ?_⟩, .inl rfl⟩
        · refine ins_fin hok hg r1 (by rw [hlen]; exact hroom) hmax (by rw [r2, hsz]) ?_
          rw [hlen, hys, r3, Nat.zero_add, hcur, List.take_left' (by simp [hel])]; simp [encs]
        · have hkg : k ≠ g := fun e => hk2 (by rw [e]; rfl)
          rw [setCells_far _ _ k hkg]
end Go.Proofs.Ytmniglgahodghaa.K
namespace Go.Proofs.Ytmniglgahodghaa.K
open Go.RowKit Go.Proofs.YtmniglgahodghaaW.PrintWords Go.Proofs.YtmniglgahodghaaW.PrintLast Go.Proofs.YtmniglgahodghaaW.PrintMore
attribute [local go_sem] max2_int min2_int max_two min_two max_three min_three max_four min_four
set_option linter.unusedVariables false
set_option linter.unusedSimpArgs false
def Mm.setW (m : Mm) (x v : Int) : Mm := { m with words := m.words.set x.toNat v }
theorem MO_setword {w : World} {b g gw : Nat} {m : Mm} {cW : Nat} {AC : Option Addr} {cC : Nat} {AF : Option Addr} {cF : Nat} {AB : Option Addr} {cB : Nat} (x v : Int)
  (h0 : w.heap[g]? = some (.cells #[.slice (some ⟨gw, 0, none⟩) m.words.length cW, .int .i64 m.young, .int .i64 m.top, .int .i64 m.old, .slice AC m.cards.length cC, .slice AF m.fields.length cF, .slice AB m.begins.length cB] 79 (0, 0))) (hg : b ≤ g) (hf : m.fields.length ≤ cF)
  (h1 : Kd.R (Kd.int .i64) 3 w b (fun k => (k ≠ g ∧ some k ≠ (Value.slice AC m.cards.length cC).ownBlock) ∧ some k ≠ (Value.slice AB m.begins.length cB).ownBlock) (.slice (some ⟨gw, 0, none⟩) m.words.length cW) m.words)
  (h2 : Kd.R Kd.bool 4 w b (fun k => (k ≠ g ∧ some k ≠ (Value.slice (some ⟨gw, 0, none⟩) m.words.length cW).ownBlock) ∧ some k ≠ (Value.slice AB m.begins.length cB).ownBlock) (.slice AC m.cards.length cC) m.cards)
  (h3 : Kd.F (Kd.slice 3 (Kd.int .i64)) w (fun k => ((k ≠ g ∧ some k ≠ (Value.slice (some ⟨gw, 0, none⟩) m.words.length cW).ownBlock) ∧ some k ≠ (Value.slice AC m.cards.length cC).ownBlock) ∧ some k ≠ (Value.slice AB m.begins.length cB).ownBlock) AF m.fields.length m.fields)
  (h4 : Kd.R (Kd.int .i64) 3 w b (fun k => (k ≠ g ∧ some k ≠ (Value.slice (some ⟨gw, 0, none⟩) m.words.length cW).ownBlock) ∧ some k ≠ (Value.slice AC m.cards.length cC).ownBlock) (.slice AB m.begins.length cB) m.begins) :
  MO (w.setCell ⟨gw, x.toNat, none⟩ (.int .i64 v)) b g { m with words := m.words.set x.toNat v } := by
 have hp := Kd.R_put (enc := Value.int .i64) (h1 := fun _ => rfl) h1 x v
 have hgw : gw ≠ g := (h1.1 gw (by simp [Value.ownBlock])).1.1
 have ob : (Value.slice (some ⟨gw, 0, none⟩) m.words.length cW).ownBlock = some gw := by simp [Value.ownBlock]
 have hl : (m.words.set x.toNat v).length = m.words.length := List.length_set
 refine ⟨some ⟨gw, 0, none⟩, cW, AC, cC, AF, cF, AB, cB, ?_, hg, hf, ?_, ?_, ?_, ?_⟩
 ·show (w.setCell ⟨gw, x.toNat, none⟩ (.int .i64 v)).heap[g]? = some (.cells #[.slice (some ⟨gw, 0, none⟩) (m.words.set x.toNat v).length cW, .int .i64 m.young, .int .i64 m.top, .int .i64 m.old, .slice AC m.cards.length cC, .slice AF m.fields.length cF, .slice AB m.begins.length cB] 79 (0, 0))
  rw [hl]
  exact blk_far h0 (fun e => hgw e.symm) _
 ·show Kd.R (Kd.int .i64) 3 _ b _ (.slice (some ⟨gw, 0, none⟩) (m.words.set x.toNat v).length cW) (m.words.set x.toNat v)
  rw [hl]
  exact hp.1
 ·show Kd.R Kd.bool _ _ b (fun k => (k ≠ g ∧ some k ≠ (Value.slice (some ⟨gw, 0, none⟩) (m.words.set x.toNat v).length cW).ownBlock) ∧ some k ≠ (Value.slice AB m.begins.length cB).ownBlock) (.slice AC m.cards.length cC) m.cards
  rw [hl]
  exact Kd.R_grown h2 hp.2 (fun k hk => by rw [← ob]; exact hk.1.2)
 ·show Kd.F _ _ (fun k => ((k ≠ g ∧ some k ≠ (Value.slice (some ⟨gw, 0, none⟩) (m.words.set x.toNat v).length cW).ownBlock) ∧ some k ≠ (Value.slice AC m.cards.length cC).ownBlock) ∧ some k ≠ (Value.slice AB m.begins.length cB).ownBlock) AF m.fields.length m.fields
  rw [hl]
  exact Kd.F_grown h3 hp.2 (fun k hk => by rw [← ob]; exact hk.1.1.2)
 ·show Kd.R (Kd.int .i64) 3 _ b (fun k => (k ≠ g ∧ some k ≠ (Value.slice (some ⟨gw, 0, none⟩) (m.words.set x.toNat v).length cW).ownBlock) ∧ some k ≠ (Value.slice AC m.cards.length cC).ownBlock) (.slice AB m.begins.length cB) m.begins
  rw [hl]
  exact Kd.R_grown h4 hp.2 (fun k hk => by rw [← ob]; exact hk.1.2)
end Go.Proofs.Ytmniglgahodghaa.K
