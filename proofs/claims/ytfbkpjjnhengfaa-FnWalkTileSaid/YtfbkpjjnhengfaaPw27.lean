import Derived.Test.YtfbkpjjnhengfaaPw24
import Derived.Test.YtfbkpjjnhengfaaPw26
import Derived.Test.YtfbkpjjnhengfaaPw25
namespace Go.Proofs.Ytfbkpjjnhengfaa.K
open Go.RowKit Go.Proofs.YtfbkpjjnhengfaaW.PrintWords Go.Proofs.YtfbkpjjnhengfaaW.PrintLast Go.Proofs.YtfbkpjjnhengfaaW.PrintMore
attribute [local go_sem] max2_int min2_int max_two min_two max_three min_three max_four min_four
set_option linter.unusedVariables false
set_option linter.unusedSimpArgs false
def cardOk (m : Mm) (at_ v x : Int) : Option Bool := if at_ > m.young then (if v > m.young then some true else (if 0 ≤ wrap64 (Int.tdiv (wrap64 (x - m.young)) 4) ∧ wrap64 (Int.tdiv (wrap64 (x - m.young)) 4) < m.cards.length then some (rdOf false m.cards (wrap64 (Int.tdiv (wrap64 (x - m.young)) 4))) else none)) else some true
def wordAt (q : Nat) (m : Mm) (at_ k : Int) : Option Bool := (thing_first.f m at_).bind fun a => if 0 ≤ a + k ∧ a + k < m.words.length then (thing_leads.f m at_ k).bind fun b => if b = true then (if rd m.words (a + k) = 0 then some true else (memory_has.f q m (rd m.words (a + k))).bind fun h => if h = true then cardOk m at_ (rd m.words (a + k)) (a + k) else some false) else impl_isWord.f (rd m.words (a + k)) else none
def wordsOk.l (q : Nat) (m : Mm) (at_ n : Int) : Nat → Int → Option Bool
  | 0, _ => none
  | j + 1, k => if k < n then (wordAt q m at_ k).bind fun ok => if ok = true then wordsOk.l q m at_ n j (k + 1) else some false else some true
def wordsOk.f (q : Nat) (m : Mm) (at_ : Int) : Option Bool := (thing_count.f m at_).bind fun n => if n ≤ 1099511627776 then wordsOk.l q m at_ n (n.toNat + 1) 0 else none
set_option maxHeartbeats 32000000 in
set_option maxRecDepth 100000 in
theorem thing_wordsOk.calls (q g : Nat) (m : Mm) (at_ : Int) (r : Bool) (w : World) (hm : MV w g m) (h : wordsOk.f q m at_ = some r) :
  Calls Try.prog 60 #[thV g at_] w fun e w' => e = .returned (.bool r) ∧ Below w.heap.size w w' := by
 unfold wordsOk.f at h
 obtain ⟨n, hn, h⟩ := Option.bind_eq_some_iff.mp h
 split at h
 case isFalse => simp at h
 case isTrue hn2 =>
 have HN := Aside0.mk hn
 have HM := Aside0.mk hm
 have HA := Aside0.mk h
 have HN2 := Aside0.mk hn2
 clear hm hn h hn2
 unfold thV
 go_enter Try.func60, Try.ntmps60
 go_wp2_with fail
 go_at_call 68
 refine (thing_count.calls g m at_ n _ (MV_below HM.out (below_alloc (Below.refl _ _) _)) HN.out).mono ?_
 rintro e w1 ⟨rfl, hb⟩
 have HB1 := Aside0.mk (below_step (below_alloc (Below.refl _ _) _) hb : Below w.heap.size w w1)
 have HX1 := Aside0.mk (box_new hb)
 clear hb
 go_wp2
 go_loopw [8] (fun i wr => ∃ (j : Nat) (k : Int), i = .int .i64 k ∧ Aside0 (wordsOk.l q m at_ n j k = some r) ∧ Aside0 (0 ≤ k) ∧ Aside0 (wr.heap[w.heap.size]? = some (.cells #[.pointer (some ⟨g, 0, none⟩), .int .i64 at_] 62 (0, 0))) ∧ Aside0 (Below w.heap.size w wr)) (fun i _ => (n - intOf i).toNat)
 case atStart => exact ⟨n.toNat + 1, 0, rfl, HA, ⟨Int.le_refl _⟩, HX1, HB1⟩
 case round =>
  clear HA HX1 HB1
  obtain ⟨j, k, rfl, HA, HK, HX, HB⟩ := hrel
  cases j with
  | zero => exact absurd HA.out (by simp [wordsOk.l])
  | succ j1 =>
   have H := HA.out
   clear HA
   unfold wordsOk.l at H
   by_cases c0 : k < n
   case neg =>
    rw [if_neg c0] at H
    have d0 : decide (k < n) = false := decide_eq_false c0
    have HR := Aside0.mk (Option.some.inj H)
    clear H c0
    go_wp2
    go_ret
    exact ⟨by rw [← HR.out]; rfl, HB.out⟩
   case pos =>
    rw [if_pos c0] at H
    have d0 : decide (k < n) = true := decide_eq_true c0
    obtain ⟨ok, hk, H⟩ := Option.bind_eq_some_iff.mp H
    unfold wordAt at hk
    obtain ⟨a, ha, hk⟩ := Option.bind_eq_some_iff.mp hk
    split at hk
    case isFalse => simp at hk
    case isTrue hx =>
    obtain ⟨b, hb, hk⟩ := Option.bind_eq_some_iff.mp hk
    have lf := thing_first_lt ha
    have HFi := Aside0.mk ha
    have HLe := Aside0.mk hb
    obtain ⟨x, hx0⟩ : ∃ x, x = a + k := ⟨_, rfl⟩
    have q1 : IntKind.i64.wrap (a + k) = x := by rw [hx0]; exact IntWalk.i64_in _ ⟨by omega, by omega⟩
    rw [← hx0] at hk hx
    obtain ⟨v, hv⟩ : ∃ v, v = rd m.words x := ⟨_, rfl⟩
    rw [← hv] at hk
    have HV := Aside0.mk hv
    have p1 := eq_true hx.1
    have p2 := eq_true hx.2
    have HXw := Aside0.mk (show x < (m.words.length : Int) ∧ 0 ≤ x from ⟨hx.2, hx.1⟩)
    have HLf := Aside0.mk lf
    have HC0 := Aside0.mk c0
    obtain ⟨k1, hk1⟩ : ∃ k1, k1 = k + 1 := ⟨_, rfl⟩
    have q2 : IntKind.i64.wrap (k + 1) = k1 := by rw [hk1]; exact IntWalk.i64_in _ ⟨by have := HK.out; omega, by have := HN2.out; omega⟩
    have HK1 := Aside0.mk hk1
    rw [← hk1] at H
    have HH := Aside0.mk H
    have HQ := Aside0.mk hk
    clear ha hb hx0 hx hv lf c0 hk1 H hk
    cases b with
    | false =>
     have hq := HQ.out
     rw [if_neg (by simp)] at hq
     have HQ2 := Aside0.mk hq
     clear hq HQ
     cases ok with
     | false =>
      have HZ := Aside0.mk (show false = r by have := HH.out; rw [if_neg (by simp)] at this; exact Option.some.inj this)
      clear HH
      have b0 := (blk_cell HX.out 0).trans rfl
      have b1 := (blk_cell HX.out 1).trans rfl
      go_wp2_with fail
      go_at_call 67
      refine (thing_first.calls g m at_ a _ (MV_below HM.out HB.out) HFi.out).mono ?_
      rintro e w2 ⟨rfl, hb⟩
      clear b0 b1
      have HBn := Aside0.mk (below_step HB.out hb)
      have HXn := Aside0.mk ((hb.block _ (blk_lt HX.out)).trans HX.out)
      clear hb HB HX
      have HB := HBn
      have HX := HXn
      clear HBn HXn
      have b0 := (blk_cell HX.out 0).trans rfl
      have b1 := (blk_cell HX.out 1).trans rfl
      obtain ⟨AW, cW, AC, cC, AF, cF, AB, cB, h0, hW, hC, _⟩ := MV_below HM.out HB.out
      obtain ⟨ad, e0, hcell⟩ := Kd.at_int hW x (by have := HXw.out; omega) (by have := HXw.out; omega)
      cases e0
      rw [← HV.out] at hcell
      have g0 := (blk_cell h0 0).trans rfl
      have G0 := Aside0.mk h0
      have HCc := Aside0.mk hC
      clear h0 hW hC
      go_wp2_with fail
      go_at_call 72
      refine (thing_leads.calls g m at_ k false _ (MV_below HM.out HB.out) HLe.out).mono ?_
      rintro e w3 ⟨rfl, hb⟩
      clear b0 b1 hcell g0
      have G0n := Aside0.mk ((hb.block _ (blk_lt G0.out)).trans G0.out)
      have HCn := Aside0.mk (Kd.C_below HCc.out hb)
      clear G0 HCc
      have G0 := G0n
      have HCc := HCn
      clear G0n HCn
      have HBn := Aside0.mk (below_step HB.out hb)
      have HXn := Aside0.mk ((hb.block _ (blk_lt HX.out)).trans HX.out)
      clear hb HB HX
      have HB := HBn
      have HX := HXn
      clear HBn HXn
      go_wp2_with (go_at_call 75; refine (impl_isWord.calls v false _ HQ2.out).mono ?_; rintro e w4 ⟨rfl, hd⟩; have hb := hd.below; have HBn := Aside0.mk (below_step HB.out hb); have HXn := Aside0.mk ((hb.block _ (blk_lt HX.out)).trans HX.out); clear hd hb HB HX; have HB := HBn; have HX := HXn; clear HBn HXn)
      go_ret
      exact ⟨by rw [← HZ.out]; rfl, HB.out⟩
     | true =>
      have HZ := Aside0.mk (show wordsOk.l q m at_ n j1 k1 = some r by have := HH.out; rw [if_pos rfl] at this; exact this)
      clear HH
      have b0 := (blk_cell HX.out 0).trans rfl
      have b1 := (blk_cell HX.out 1).trans rfl
      go_wp2_with fail
      go_at_call 67
      refine (thing_first.calls g m at_ a _ (MV_below HM.out HB.out) HFi.out).mono ?_
      rintro e w2 ⟨rfl, hb⟩
      clear b0 b1
      have HBn := Aside0.mk (below_step HB.out hb)
      have HXn := Aside0.mk ((hb.block _ (blk_lt HX.out)).trans HX.out)
      clear hb HB HX
      have HB := HBn
      have HX := HXn
      clear HBn HXn
      have b0 := (blk_cell HX.out 0).trans rfl
      have b1 := (blk_cell HX.out 1).trans rfl
      obtain ⟨AW, cW, AC, cC, AF, cF, AB, cB, h0, hW, hC, _⟩ := MV_below HM.out HB.out
      obtain ⟨ad, e0, hcell⟩ := Kd.at_int hW x (by have := HXw.out; omega) (by have := HXw.out; omega)
      cases e0
      rw [← HV.out] at hcell
      have g0 := (blk_cell h0 0).trans rfl
      have G0 := Aside0.mk h0
      have HCc := Aside0.mk hC
      clear h0 hW hC
      go_wp2_with fail
      go_at_call 72
      refine (thing_leads.calls g m at_ k false _ (MV_below HM.out HB.out) HLe.out).mono ?_
      rintro e w3 ⟨rfl, hb⟩
      clear b0 b1 hcell g0
      have G0n := Aside0.mk ((hb.block _ (blk_lt G0.out)).trans G0.out)
      have HCn := Aside0.mk (Kd.C_below HCc.out hb)
      clear G0 HCc
      have G0 := G0n
      have HCc := HCn
      clear G0n HCn
      have HBn := Aside0.mk (below_step HB.out hb)
      have HXn := Aside0.mk ((hb.block _ (blk_lt HX.out)).trans HX.out)
      clear hb HB HX
      have HB := HBn
      have HX := HXn
      clear HBn HXn
      go_wp2_with (go_at_call 75; refine (impl_isWord.calls v true _ HQ2.out).mono ?_; rintro e w4 ⟨rfl, hd⟩; have hb := hd.below; have HBn := Aside0.mk (below_step HB.out hb); have HXn := Aside0.mk ((hb.block _ (blk_lt HX.out)).trans HX.out); clear hd hb HB HX; have HB := HBn; have HX := HXn; clear HBn HXn)
      go_roundw
      case rel => exact ⟨j1, k1, rfl, HZ, ⟨by have := HK1.out; have := HK.out; omega⟩, HX, HB⟩
      case measure => have := HK1.out; have := HC0.out; have := HK.out; show (n - k1).toNat < (n - k).toNat; omega
    | true =>
     have hq := HQ.out
     rw [if_pos rfl] at hq
     by_cases c1 : v = 0
     ·rw [if_pos c1] at hq
      have e1 : (v != 0) = false := by rw [c1]; rfl
      have HQ2 := Aside0.mk (Option.some.inj hq)
      clear hq HQ c1
      obtain rfl := HQ2.out
      have HZ := Aside0.mk (show wordsOk.l q m at_ n j1 k1 = some r by have := HH.out; rw [if_pos rfl] at this; exact this)
      clear HH
      have b0 := (blk_cell HX.out 0).trans rfl
      have b1 := (blk_cell HX.out 1).trans rfl
      go_wp2_with fail
      go_at_call 67
      refine (thing_first.calls g m at_ a _ (MV_below HM.out HB.out) HFi.out).mono ?_
      rintro e w2 ⟨rfl, hb⟩
      clear b0 b1
      have HBn := Aside0.mk (below_step HB.out hb)
      have HXn := Aside0.mk ((hb.block _ (blk_lt HX.out)).trans HX.out)
      clear hb HB HX
      have HB := HBn
      have HX := HXn
      clear HBn HXn
      have b0 := (blk_cell HX.out 0).trans rfl
      have b1 := (blk_cell HX.out 1).trans rfl
      obtain ⟨AW, cW, AC, cC, AF, cF, AB, cB, h0, hW, hC, _⟩ := MV_below HM.out HB.out
      obtain ⟨ad, e0, hcell⟩ := Kd.at_int hW x (by have := HXw.out; omega) (by have := HXw.out; omega)
      cases e0
      rw [← HV.out] at hcell
      have g0 := (blk_cell h0 0).trans rfl
      have G0 := Aside0.mk h0
      have HCc := Aside0.mk hC
      clear h0 hW hC
      go_wp2_with fail
      go_at_call 72
      refine (thing_leads.calls g m at_ k true _ (MV_below HM.out HB.out) HLe.out).mono ?_
      rintro e w3 ⟨rfl, hb⟩
      clear b0 b1 hcell g0
      have G0n := Aside0.mk ((hb.block _ (blk_lt G0.out)).trans G0.out)
      have HCn := Aside0.mk (Kd.C_below HCc.out hb)
      clear G0 HCc
      have G0 := G0n
      have HCc := HCn
      clear G0n HCn
      have HBn := Aside0.mk (below_step HB.out hb)
      have HXn := Aside0.mk ((hb.block _ (blk_lt HX.out)).trans HX.out)
      clear hb HB HX
      have HB := HBn
      have HX := HXn
      clear HBn HXn
      go_wp2
      go_roundw
      case rel => exact ⟨j1, k1, rfl, HZ, ⟨by have := HK1.out; have := HK.out; omega⟩, HX, HB⟩
      case measure => have := HK1.out; have := HC0.out; have := HK.out; show (n - k1).toNat < (n - k).toNat; omega
     rw [if_neg c1] at hq
     have e1 : (v != 0) = true := bne_iff_ne.mpr c1
     obtain ⟨h, hh, hq⟩ := Option.bind_eq_some_iff.mp hq
     have HHa := Aside0.mk hh
     clear hh c1 HQ
     cases h with
     | false =>
      rw [if_neg (by simp)] at hq
      have HQ2 := Aside0.mk (Option.some.inj hq)
      clear hq
      obtain rfl := HQ2.out
      have HZ := Aside0.mk (show false = r by have := HH.out; rw [if_neg (by simp)] at this; exact Option.some.inj this)
      clear HH
      have b0 := (blk_cell HX.out 0).trans rfl
      have b1 := (blk_cell HX.out 1).trans rfl
      go_wp2_with fail
      go_at_call 67
      refine (thing_first.calls g m at_ a _ (MV_below HM.out HB.out) HFi.out).mono ?_
      rintro e w2 ⟨rfl, hb⟩
      clear b0 b1
      have HBn := Aside0.mk (below_step HB.out hb)
      have HXn := Aside0.mk ((hb.block _ (blk_lt HX.out)).trans HX.out)
      clear hb HB HX
      have HB := HBn
      have HX := HXn
      clear HBn HXn
      have b0 := (blk_cell HX.out 0).trans rfl
      have b1 := (blk_cell HX.out 1).trans rfl
      obtain ⟨AW, cW, AC, cC, AF, cF, AB, cB, h0, hW, hC, _⟩ := MV_below HM.out HB.out
      obtain ⟨ad, e0, hcell⟩ := Kd.at_int hW x (by have := HXw.out; omega) (by have := HXw.out; omega)
      cases e0
      rw [← HV.out] at hcell
      have g0 := (blk_cell h0 0).trans rfl
      have G0 := Aside0.mk h0
      have HCc := Aside0.mk hC
      clear h0 hW hC
      go_wp2_with fail
      go_at_call 72
      refine (thing_leads.calls g m at_ k true _ (MV_below HM.out HB.out) HLe.out).mono ?_
      rintro e w3 ⟨rfl, hb⟩
      clear b0 b1 hcell g0
      have G0n := Aside0.mk ((hb.block _ (blk_lt G0.out)).trans G0.out)
      have HCn := Aside0.mk (Kd.C_below HCc.out hb)
      clear G0 HCc
      have G0 := G0n
      have HCc := HCn
      clear G0n HCn
      have HBn := Aside0.mk (below_step HB.out hb)
      have HXn := Aside0.mk ((hb.block _ (blk_lt HX.out)).trans HX.out)
      clear hb HB HX
      have HB := HBn
      have HX := HXn
      clear HBn HXn
      have b0 := (blk_cell HX.out 0).trans rfl
      have b1 := (blk_cell HX.out 1).trans rfl
      go_wp2_with (go_at_call 33; refine (memory_has.calls q g m v false _ (MV_below HM.out HB.out) HHa.out).mono ?_; rintro e w5 ⟨rfl, hd⟩; have hb := hd.below; have HBn := Aside0.mk (below_step HB.out hb); have HXn := Aside0.mk ((hb.block _ (blk_lt HX.out)).trans HX.out); have G0n := Aside0.mk ((hb.block _ (blk_lt G0.out)).trans G0.out); have HCn := Aside0.mk (Kd.C_below HCc.out hb); clear hd hb HB HX G0 HCc b0 b1; have HB := HBn; have HX := HXn; have G0 := G0n; have HCc := HCn; clear HBn HXn G0n HCn)
      go_ret
      exact ⟨by rw [← HZ.out]; rfl, HB.out⟩
     | true =>
      rw [if_pos rfl] at hq
      unfold cardOk at hq
      by_cases c2 : at_ > m.young
      ·rw [if_pos c2] at hq
       have O1 := Aside0.mk (decide_eq_true c2)
       clear c2
       by_cases c3 : v > m.young
       ·rw [if_pos c3] at hq
        have O2 := Aside0.mk (decide_eq_true c3)
        have HQ2 := Aside0.mk (Option.some.inj hq)
        clear hq c3
        obtain rfl := HQ2.out
        have HZ := Aside0.mk (show wordsOk.l q m at_ n j1 k1 = some r by have := HH.out; rw [if_pos rfl] at this; exact this)
        clear HH
        have b0 := (blk_cell HX.out 0).trans rfl
        have b1 := (blk_cell HX.out 1).trans rfl
        go_wp2_with fail
        go_at_call 67
        refine (thing_first.calls g m at_ a _ (MV_below HM.out HB.out) HFi.out).mono ?_
        rintro e w2 ⟨rfl, hb⟩
        clear b0 b1
        have HBn := Aside0.mk (below_step HB.out hb)
        have HXn := Aside0.mk ((hb.block _ (blk_lt HX.out)).trans HX.out)
        clear hb HB HX
        have HB := HBn
        have HX := HXn
        clear HBn HXn
        have b0 := (blk_cell HX.out 0).trans rfl
        have b1 := (blk_cell HX.out 1).trans rfl
        obtain ⟨AW, cW, AC, cC, AF, cF, AB, cB, h0, hW, hC, _⟩ := MV_below HM.out HB.out
        obtain ⟨ad, e0, hcell⟩ := Kd.at_int hW x (by have := HXw.out; omega) (by have := HXw.out; omega)
        cases e0
        rw [← HV.out] at hcell
        have g0 := (blk_cell h0 0).trans rfl
        have G0 := Aside0.mk h0
        have HCc := Aside0.mk hC
        clear h0 hW hC
        go_wp2_with fail
        go_at_call 72
        refine (thing_leads.calls g m at_ k true _ (MV_below HM.out HB.out) HLe.out).mono ?_
        rintro e w3 ⟨rfl, hb⟩
        clear b0 b1 hcell g0
        have G0n := Aside0.mk ((hb.block _ (blk_lt G0.out)).trans G0.out)
        have HCn := Aside0.mk (Kd.C_below HCc.out hb)
        clear G0 HCc
        have G0 := G0n
        have HCc := HCn
        clear G0n HCn
        have HBn := Aside0.mk (below_step HB.out hb)
        have HXn := Aside0.mk ((hb.block _ (blk_lt HX.out)).trans HX.out)
        clear hb HB HX
        have HB := HBn
        have HX := HXn
        clear HBn HXn
        have b0 := (blk_cell HX.out 0).trans rfl
        have b1 := (blk_cell HX.out 1).trans rfl
        go_wp2_with (go_at_call 33; refine (memory_has.calls q g m v true _ (MV_below HM.out HB.out) HHa.out).mono ?_; rintro e w5 ⟨rfl, hd⟩; have hb := hd.below; have HBn := Aside0.mk (below_step HB.out hb); have HXn := Aside0.mk ((hb.block _ (blk_lt HX.out)).trans HX.out); have G0n := Aside0.mk ((hb.block _ (blk_lt G0.out)).trans G0.out); have HCn := Aside0.mk (Kd.C_below HCc.out hb); clear hd hb HB HX G0 HCc b0 b1; have HB := HBn; have HX := HXn; have G0 := G0n; have HCc := HCn; clear HBn HXn G0n HCn; have b0 := (blk_cell HX.out 0).trans rfl; have b1 := (blk_cell HX.out 1).trans rfl; have g0 := (blk_cell G0.out 0).trans rfl; have g1 := (blk_cell G0.out 1).trans rfl; have g2 := (blk_cell G0.out 2).trans rfl; have g3 := (blk_cell G0.out 3).trans rfl; have g4 := (blk_cell G0.out 4).trans rfl; have HM1 := Aside0.mk (MV_below HM.out HB.out); try clear HCc)
        refine start_ (n := 36) (S := fun w' => Aside0 (Below w.heap.size w w') ∧ Aside0 (MV w' g (m)) ∧ Aside0 (w'.heap[w.heap.size]? = some (.cells #[.pointer (some ⟨g, 0, none⟩), .int .i64 at_] 62 (0, 0))) ∧ w'.cell? (⟨w.heap.size, 0, none⟩) = some (.pointer (some ⟨g, 0, none⟩)) ∧ w'.cell? (⟨w.heap.size, 1, none⟩) = some (.int .i64 at_) ∧ w'.cell? (⟨g, 0, none⟩) = some (.slice (some ad) m.words.length cW) ∧ w'.cell? (⟨g, 1, none⟩) = some (.int .i64 m.young) ∧ w'.cell? (⟨g, 2, none⟩) = some (.int .i64 m.top) ∧ w'.cell? (⟨g, 3, none⟩) = some (.int .i64 m.old) ∧ w'.cell? (⟨g, 4, none⟩) = some (.slice AC m.cards.length cC)) (ds := []) #[false, false, false, false, false, false, false, false, false, false, false, false, false, false, false, false, false, false, false, false, false, false, false, false, false, false, false, false, false, false, false, false, false, false, false, false] (by kernel_rfl) rfl rfl ⟨⟨below_drew1 HB.out⟩, ⟨MV_below HM1.out (below_drew1 (Below.refl _ _))⟩, ⟨blk_drew HX.out⟩, (by go_simp), (by go_simp), (by go_simp), (by go_simp), (by go_simp), (by go_simp), (by go_simp)⟩ (fun hHeld => ?_)
        refine pS 0 40 (lA 36 1) ?_
        refine pS 5 45 (lA 36 33) ?_
        refine tS 1 41 (lA 36 35) rfl rfl (by kernel_rfl) hHeld z24 ?_
        refine pS 2 42 (lA 36 39) ?_
        refine pS 3 43 (lA 36 47) ?_
        refine tS 4 44 (lA 36 63) rfl rfl (by kernel_rfl) hHeld z24 ?_
        refine tS 6 46 (lA 36 127) rfl rfl (by kernel_rfl) hHeld z24 ?_
        refine one_ (i := 7) (N := some 47) (lA 36 255) rfl rfl (by kernel_rfl) (by decide) (fun K hK => ?_)
        refine goes_ Try.func73 (by kernel_rfl) rfl #[.agg #[.slice (some ad) m.words.length cW, .int .i64 m.young, .int .i64 m.top, .int .i64 m.old, .slice AC m.cards.length cC], .int .i64 at_] (by rfl) rfl rfl z5 ?_
        with_reducible refine (Mem_isOld.calls (some ad) m.words.length cW m.young m.top m.old AC m.cards.length cC at_ true _ O1.out).mono ?_
        rintro e w9 ⟨rfl, hb3⟩
        refine ⟨_, rfl, ?_⟩
        refine hK.out _ _ ⟨⟨below_step hHeld.1.out hb3⟩, ⟨MV_below hHeld.2.1.out hb3⟩, ⟨(hb3.block _ (blk_lt hHeld.2.2.1.out)).trans hHeld.2.2.1.out⟩, (pw_cell_below hb3 hHeld.2.2.2.1), (pw_cell_below hb3 hHeld.2.2.2.2.1), (pw_cell_below hb3 hHeld.2.2.2.2.2.1), (pw_cell_below hb3 hHeld.2.2.2.2.2.2.1), (pw_cell_below hb3 hHeld.2.2.2.2.2.2.2.1), (pw_cell_below hb3 hHeld.2.2.2.2.2.2.2.2.1), (pw_cell_below hb3 hHeld.2.2.2.2.2.2.2.2.2)⟩ (fun hHeld => ?_)
        clear hK K
        refine norm_ (a' := ?_) ?_ ?_
        rotate_left
        ·show Act.put _ (some 47) _ = _
         simp only [Act.put, lA1, lA2, lA3, i64_w, i32_w]
         rfl
        refine pS 8 48 (lA 36 511) ?_
        refine pS 9 49 (lA 36 1023) ?_
        refine pS 14 54 (lA 36 17407) ?_
        refine tS 10 50 (lA 36 18431) rfl rfl (by kernel_rfl) hHeld z24 ?_
        refine pS 11 51 (lA 36 20479) ?_
        refine pS 12 52 (lA 36 24575) ?_
        refine tS 13 53 (lA 36 32767) rfl rfl (by kernel_rfl) hHeld z24 ?_
        refine one_ (i := 15) (N := some 55) (lA 36 65535) rfl rfl (by kernel_rfl) (by decide) (fun K hK => ?_)
        refine goes_ Try.func73 (by kernel_rfl) rfl #[.agg #[.slice (some ad) m.words.length cW, .int .i64 m.young, .int .i64 m.top, .int .i64 m.old, .slice AC m.cards.length cC], .int .i64 v] (by rfl) rfl rfl z5 ?_
        with_reducible refine (Mem_isOld.calls (some ad) m.words.length cW m.young m.top m.old AC m.cards.length cC v true _ O2.out).mono ?_
        rintro e w9 ⟨rfl, hb3⟩
        refine ⟨_, rfl, ?_⟩
        refine hK.out _ _ ⟨⟨below_step hHeld.1.out hb3⟩, ⟨MV_below hHeld.2.1.out hb3⟩, ⟨(hb3.block _ (blk_lt hHeld.2.2.1.out)).trans hHeld.2.2.1.out⟩, (pw_cell_below hb3 hHeld.2.2.2.1), (pw_cell_below hb3 hHeld.2.2.2.2.1), (pw_cell_below hb3 hHeld.2.2.2.2.2.1), (pw_cell_below hb3 hHeld.2.2.2.2.2.2.1), (pw_cell_below hb3 hHeld.2.2.2.2.2.2.2.1), (pw_cell_below hb3 hHeld.2.2.2.2.2.2.2.2.1), (pw_cell_below hb3 hHeld.2.2.2.2.2.2.2.2.2)⟩ (fun hHeld => ?_)
        clear hK K
        refine norm_ (a' := ?_) ?_ ?_
        rotate_left
        ·show Act.put _ (some 55) _ = _
         simp only [Act.put, lA1, lA2, lA3, i64_w, i32_w]
         rfl
        refine pS 16 56 (lA 36 131071) ?_
        refine pS 17 57 (lA 36 262143) ?_
        refine pS 18 58 (lA 36 524287) ?_
        refine pU 19 59 (lA 36 1048575) ?_
        refine pU 20 60 (lA 36 2097151) ?_
        refine pU 21 61 (lA 36 4194303) ?_
        refine pU 22 62 (lA 36 8388607) ?_
        refine pU 23 63 (lA 36 16777215) ?_
        refine pU 24 64 (lA 36 33554431) ?_
        refine pU 25 65 (lA 36 67108863) ?_
        refine pU 26 66 (lA 36 134217727) ?_
        refine pU 27 67 (lA 36 268435455) ?_
        refine pU 28 68 (lA 36 536870911) ?_
        refine pU 29 69 (lA 36 1073741823) ?_
        refine pU 30 70 (lA 36 2147483647) ?_
        refine pU 31 71 (lA 36 4294967295) ?_
        refine pU 32 72 (lA 36 8589934591) ?_
        refine pU 33 73 (lA 36 17179869183) ?_
        refine pU 34 74 (lA 36 34359738367) ?_
        refine pS 35 75 (lA 36 68719476735) ?_
        refine done_ (by kernel_rfl) ?_
        have HBn := hHeld.1
        have HXn := hHeld.2.2.1
        clear hHeld HB HX
        have HB := HBn
        have HX := HXn
        clear HBn HXn
        go_wp2
        go_roundw
        case rel => exact ⟨j1, k1, rfl, HZ, ⟨by have := HK1.out; have := HK.out; omega⟩, HX, HB⟩
        case measure => have := HK1.out; have := HC0.out; have := HK.out; show (n - k1).toNat < (n - k).toNat; omega
       ·rw [if_neg c3] at hq
        have O2 := Aside0.mk (decide_eq_false c3)
        clear c3
        obtain ⟨cj, hcj⟩ : ∃ cj, cj = wrap64 (x - m.young) := ⟨_, rfl⟩
        obtain ⟨ci, hci⟩ : ∃ ci, ci = wrap64 (Int.tdiv cj 4) := ⟨_, rfl⟩
        rw [← hcj, ← hci] at hq
        have O3 := Aside0.mk (show IntKind.i64.wrap (x - m.young) = cj by rw [hcj, i64_w])
        have O4 := Aside0.mk (show wrap64 (Int.tdiv cj 4) = ci from hci.symm)
        clear hcj hci
        split at hq
        case isFalse => simp at hq
        case isTrue ht =>
        have t1 := eq_true ht.1
        have t2 := eq_true ht.2
        obtain ⟨cv, hcv⟩ : ∃ cv, cv = rdOf false m.cards ci := ⟨_, rfl⟩
        rw [← hcv] at hq
        have O5 := Aside0.mk hcv.symm
        have HQ2 := Aside0.mk (Option.some.inj hq)
        clear hq ht hcv
        obtain rfl := HQ2.out
        cases cv with
        | false =>
         have HZ := Aside0.mk (show false = r by have := HH.out; rw [if_neg (by simp)] at this; exact Option.some.inj this)
         clear HH
         have b0 := (blk_cell HX.out 0).trans rfl
         have b1 := (blk_cell HX.out 1).trans rfl
         go_wp2_with fail
         go_at_call 67
         refine (thing_first.calls g m at_ a _ (MV_below HM.out HB.out) HFi.out).mono ?_
         rintro e w2 ⟨rfl, hb⟩
         clear b0 b1
         have HBn := Aside0.mk (below_step HB.out hb)
         have HXn := Aside0.mk ((hb.block _ (blk_lt HX.out)).trans HX.out)
         clear hb HB HX
         have HB := HBn
         have HX := HXn
         clear HBn HXn
         have b0 := (blk_cell HX.out 0).trans rfl
         have b1 := (blk_cell HX.out 1).trans rfl
         obtain ⟨AW, cW, AC, cC, AF, cF, AB, cB, h0, hW, hC, _⟩ := MV_below HM.out HB.out
         obtain ⟨ad, e0, hcell⟩ := Kd.at_int hW x (by have := HXw.out; omega) (by have := HXw.out; omega)
         cases e0
         rw [← HV.out] at hcell
         have g0 := (blk_cell h0 0).trans rfl
         have G0 := Aside0.mk h0
         have HCc := Aside0.mk hC
         clear h0 hW hC
         go_wp2_with fail
         go_at_call 72
         refine (thing_leads.calls g m at_ k true _ (MV_below HM.out HB.out) HLe.out).mono ?_
         rintro e w3 ⟨rfl, hb⟩
         clear b0 b1 hcell g0
         have G0n := Aside0.mk ((hb.block _ (blk_lt G0.out)).trans G0.out)
         have HCn := Aside0.mk (Kd.C_below HCc.out hb)
         clear G0 HCc
         have G0 := G0n
         have HCc := HCn
         clear G0n HCn
         have HBn := Aside0.mk (below_step HB.out hb)
         have HXn := Aside0.mk ((hb.block _ (blk_lt HX.out)).trans HX.out)
         clear hb HB HX
         have HB := HBn
         have HX := HXn
         clear HBn HXn
         have b0 := (blk_cell HX.out 0).trans rfl
         have b1 := (blk_cell HX.out 1).trans rfl
         go_wp2_with (go_at_call 33; refine (memory_has.calls q g m v true _ (MV_below HM.out HB.out) HHa.out).mono ?_; rintro e w5 ⟨rfl, hd⟩; have hb := hd.below; have HBn := Aside0.mk (below_step HB.out hb); have HXn := Aside0.mk ((hb.block _ (blk_lt HX.out)).trans HX.out); have G0n := Aside0.mk ((hb.block _ (blk_lt G0.out)).trans G0.out); have HCn := Aside0.mk (Kd.C_below HCc.out hb); clear hd hb HB HX G0 HCc b0 b1; have HB := HBn; have HX := HXn; have G0 := G0n; have HCc := HCn; clear HBn HXn G0n HCn; have b0 := (blk_cell HX.out 0).trans rfl; have b1 := (blk_cell HX.out 1).trans rfl; have g0 := (blk_cell G0.out 0).trans rfl; have g1 := (blk_cell G0.out 1).trans rfl; have g2 := (blk_cell G0.out 2).trans rfl; have g3 := (blk_cell G0.out 3).trans rfl; have g4 := (blk_cell G0.out 4).trans rfl; have HM1 := Aside0.mk (MV_below HM.out HB.out); obtain ⟨ad4, e4, hc4⟩ := Kd.at_bool HCc.out ci (of_eq_true t1) (of_eq_true t2); cases e4; rw [O5.out] at hc4; try clear HCc)
         refine start_ (n := 36) (S := fun w' => Aside0 (Below w.heap.size w w') ∧ Aside0 (MV w' g (m)) ∧ Aside0 (w'.heap[w.heap.size]? = some (.cells #[.pointer (some ⟨g, 0, none⟩), .int .i64 at_] 62 (0, 0))) ∧ w'.cell? (⟨w.heap.size, 0, none⟩) = some (.pointer (some ⟨g, 0, none⟩)) ∧ w'.cell? (⟨w.heap.size, 1, none⟩) = some (.int .i64 at_) ∧ w'.cell? (⟨g, 0, none⟩) = some (.slice (some ad) m.words.length cW) ∧ w'.cell? (⟨g, 1, none⟩) = some (.int .i64 m.young) ∧ w'.cell? (⟨g, 2, none⟩) = some (.int .i64 m.top) ∧ w'.cell? (⟨g, 3, none⟩) = some (.int .i64 m.old) ∧ w'.cell? (⟨g, 4, none⟩) = some (.slice (some ad4) m.cards.length cC) ∧ w'.cell? (ad4.add ci.toNat) = some (.bool false)) (ds := []) #[false, false, false, false, false, false, false, false, false, false, false, false, false, false, false, false, false, false, false, false, false, false, false, false, false, false, false, false, false, false, false, false, false, false, false, false] (by kernel_rfl) rfl rfl ⟨⟨below_drew1 HB.out⟩, ⟨MV_below HM1.out (below_drew1 (Below.refl _ _))⟩, ⟨blk_drew HX.out⟩, (by go_simp), (by go_simp), (by go_simp), (by go_simp), (by go_simp), (by go_simp), (by go_simp), (by go_simp)⟩ (fun hHeld => ?_)
         refine pS 0 40 (lA 36 1) ?_
         refine pS 5 45 (lA 36 33) ?_
         refine tS 1 41 (lA 36 35) rfl rfl (by kernel_rfl) hHeld z10 ?_
         refine pS 2 42 (lA 36 39) ?_
         refine pS 3 43 (lA 36 47) ?_
         refine tS 4 44 (lA 36 63) rfl rfl (by kernel_rfl) hHeld z10 ?_
         refine tS 6 46 (lA 36 127) rfl rfl (by kernel_rfl) hHeld z10 ?_
         refine one_ (i := 7) (N := some 47) (lA 36 255) rfl rfl (by kernel_rfl) (by decide) (fun K hK => ?_)
         refine goes_ Try.func73 (by kernel_rfl) rfl #[.agg #[.slice (some ad) m.words.length cW, .int .i64 m.young, .int .i64 m.top, .int .i64 m.old, .slice (some ad4) m.cards.length cC], .int .i64 at_] (by rfl) rfl rfl z5 ?_
         with_reducible refine (Mem_isOld.calls (some ad) m.words.length cW m.young m.top m.old (some ad4) m.cards.length cC at_ true _ O1.out).mono ?_
         rintro e w9 ⟨rfl, hb3⟩
         refine ⟨_, rfl, ?_⟩
         refine hK.out _ _ ⟨⟨below_step hHeld.1.out hb3⟩, ⟨MV_below hHeld.2.1.out hb3⟩, ⟨(hb3.block _ (blk_lt hHeld.2.2.1.out)).trans hHeld.2.2.1.out⟩, (pw_cell_below hb3 hHeld.2.2.2.1), (pw_cell_below hb3 hHeld.2.2.2.2.1), (pw_cell_below hb3 hHeld.2.2.2.2.2.1), (pw_cell_below hb3 hHeld.2.2.2.2.2.2.1), (pw_cell_below hb3 hHeld.2.2.2.2.2.2.2.1), (pw_cell_below hb3 hHeld.2.2.2.2.2.2.2.2.1), (pw_cell_below hb3 hHeld.2.2.2.2.2.2.2.2.2.1), (pw_cell_below hb3 hHeld.2.2.2.2.2.2.2.2.2.2)⟩ (fun hHeld => ?_)
         clear hK K
         refine norm_ (a' := ?_) ?_ ?_
         rotate_left
         ·show Act.put _ (some 47) _ = _
          simp only [Act.put, lA1, lA2, lA3, i64_w, i32_w]
          rfl
         refine pS 8 48 (lA 36 511) ?_
         refine pS 9 49 (lA 36 1023) ?_
         refine pS 14 54 (lA 36 17407) ?_
         refine tS 10 50 (lA 36 18431) rfl rfl (by kernel_rfl) hHeld z10 ?_
         refine pS 11 51 (lA 36 20479) ?_
         refine pS 12 52 (lA 36 24575) ?_
         refine tS 13 53 (lA 36 32767) rfl rfl (by kernel_rfl) hHeld z10 ?_
         refine one_ (i := 15) (N := some 55) (lA 36 65535) rfl rfl (by kernel_rfl) (by decide) (fun K hK => ?_)
         refine goes_ Try.func73 (by kernel_rfl) rfl #[.agg #[.slice (some ad) m.words.length cW, .int .i64 m.young, .int .i64 m.top, .int .i64 m.old, .slice (some ad4) m.cards.length cC], .int .i64 v] (by rfl) rfl rfl z5 ?_
         with_reducible refine (Mem_isOld.calls (some ad) m.words.length cW m.young m.top m.old (some ad4) m.cards.length cC v false _ O2.out).mono ?_
         rintro e w9 ⟨rfl, hb3⟩
         refine ⟨_, rfl, ?_⟩
         refine hK.out _ _ ⟨⟨below_step hHeld.1.out hb3⟩, ⟨MV_below hHeld.2.1.out hb3⟩, ⟨(hb3.block _ (blk_lt hHeld.2.2.1.out)).trans hHeld.2.2.1.out⟩, (pw_cell_below hb3 hHeld.2.2.2.1), (pw_cell_below hb3 hHeld.2.2.2.2.1), (pw_cell_below hb3 hHeld.2.2.2.2.2.1), (pw_cell_below hb3 hHeld.2.2.2.2.2.2.1), (pw_cell_below hb3 hHeld.2.2.2.2.2.2.2.1), (pw_cell_below hb3 hHeld.2.2.2.2.2.2.2.2.1), (pw_cell_below hb3 hHeld.2.2.2.2.2.2.2.2.2.1), (pw_cell_below hb3 hHeld.2.2.2.2.2.2.2.2.2.2)⟩ (fun hHeld => ?_)
         clear hK K
         refine norm_ (a' := ?_) ?_ ?_
         rotate_left
         ·show Act.put _ (some 55) _ = _
          simp only [Act.put, lA1, lA2, lA3, i64_w, i32_w]
          rfl
         refine pS 16 56 (lA 36 131071) ?_
         refine pS 17 57 (lA 36 262143) ?_
         refine pS 18 58 (lA 36 524287) ?_
         refine pS 19 59 (lA 36 1048575) ?_
         refine pS 25 65 (lA 36 34603007) ?_
         refine pS 30 70 (lA 36 1108344831) ?_
         refine tS 20 60 (lA 36 1109393407) rfl rfl (by kernel_rfl) hHeld z10 ?_
         refine pS 21 61 (lA 36 1111490559) ?_
         refine pS 22 62 (lA 36 1115684863) ?_
         refine pS 23 63 (lA 36 1124073471) ?_
         refine tS 24 64 (lA 36 1140850687) rfl rfl (by kernel_rfl) hHeld z10 ?_
         refine tS 26 66 (lA 36 1207959551) rfl rfl (by kernel_rfl) hHeld z10 ?_
         refine pS 27 67 (lA 36 1342177279) ?_
         refine pS 28 68 (lA 36 1610612735) ?_
         refine tS 29 69 (lA 36 2147483647) rfl rfl (by kernel_rfl) hHeld z10 ?_
         refine one_ (i := 31) (N := some 71) (lA 36 4294967295) rfl rfl (by kernel_rfl) (by decide) (fun K hK => ?_)
         refine goes_ Try.func74 (by kernel_rfl) rfl #[.agg #[.slice (some ad) m.words.length cW, .int .i64 m.young, .int .i64 m.top, .int .i64 m.old, .slice (some ad4) m.cards.length cC], .int .i64 x] (by rfl) rfl rfl z5 ?_
         with_reducible refine (Mem_card.calls (some ad) m.words.length cW m.young m.top m.old (some ad4) m.cards.length cC x cj ci _ O3.out O4.out).mono ?_
         rintro e w9 ⟨rfl, hb3⟩
         refine ⟨_, rfl, ?_⟩
         refine hK.out _ _ ⟨⟨below_step hHeld.1.out hb3⟩, ⟨MV_below hHeld.2.1.out hb3⟩, ⟨(hb3.block _ (blk_lt hHeld.2.2.1.out)).trans hHeld.2.2.1.out⟩, (pw_cell_below hb3 hHeld.2.2.2.1), (pw_cell_below hb3 hHeld.2.2.2.2.1), (pw_cell_below hb3 hHeld.2.2.2.2.2.1), (pw_cell_below hb3 hHeld.2.2.2.2.2.2.1), (pw_cell_below hb3 hHeld.2.2.2.2.2.2.2.1), (pw_cell_below hb3 hHeld.2.2.2.2.2.2.2.2.1), (pw_cell_below hb3 hHeld.2.2.2.2.2.2.2.2.2.1), (pw_cell_below hb3 hHeld.2.2.2.2.2.2.2.2.2.2)⟩ (fun hHeld => ?_)
         clear hK K
         refine norm_ (a' := ?_) ?_ ?_
         rotate_left
         ·show Act.put _ (some 71) _ = _
          simp only [Act.put, lA1, lA2, lA3, i64_w, i32_w]
          rfl
         refine pS 32 72 (lA 36 8589934591) ?_
         refine tS 33 73 (lA 36 17179869183) rfl rfl (by kernel_rfl) hHeld z10 ?_
         refine pS 34 74 (lA 36 34359738367) ?_
         refine pS 35 75 (lA 36 68719476735) ?_
         refine done_ (by kernel_rfl) ?_
         have HBn := hHeld.1
         have HXn := hHeld.2.2.1
         clear hHeld HB HX
         have HB := HBn
         have HX := HXn
         clear HBn HXn
         go_wp2
         go_ret
         exact ⟨by rw [← HZ.out]; rfl, HB.out⟩
        | true =>
         have HZ := Aside0.mk (show wordsOk.l q m at_ n j1 k1 = some r by have := HH.out; rw [if_pos rfl] at this; exact this)
         clear HH
         have b0 := (blk_cell HX.out 0).trans rfl
         have b1 := (blk_cell HX.out 1).trans rfl
         go_wp2_with fail
         go_at_call 67
         refine (thing_first.calls g m at_ a _ (MV_below HM.out HB.out) HFi.out).mono ?_
         rintro e w2 ⟨rfl, hb⟩
         clear b0 b1
         have HBn := Aside0.mk (below_step HB.out hb)
         have HXn := Aside0.mk ((hb.block _ (blk_lt HX.out)).trans HX.out)
         clear hb HB HX
         have HB := HBn
         have HX := HXn
         clear HBn HXn
         have b0 := (blk_cell HX.out 0).trans rfl
         have b1 := (blk_cell HX.out 1).trans rfl
         obtain ⟨AW, cW, AC, cC, AF, cF, AB, cB, h0, hW, hC, _⟩ := MV_below HM.out HB.out
         obtain ⟨ad, e0, hcell⟩ := Kd.at_int hW x (by have := HXw.out; omega) (by have := HXw.out; omega)
         cases e0
         rw [← HV.out] at hcell
         have g0 := (blk_cell h0 0).trans rfl
         have G0 := Aside0.mk h0
         have HCc := Aside0.mk hC
         clear h0 hW hC
         go_wp2_with fail
         go_at_call 72
         refine (thing_leads.calls g m at_ k true _ (MV_below HM.out HB.out) HLe.out).mono ?_
         rintro e w3 ⟨rfl, hb⟩
         clear b0 b1 hcell g0
         have G0n := Aside0.mk ((hb.block _ (blk_lt G0.out)).trans G0.out)
         have HCn := Aside0.mk (Kd.C_below HCc.out hb)
         clear G0 HCc
         have G0 := G0n
         have HCc := HCn
         clear G0n HCn
         have HBn := Aside0.mk (below_step HB.out hb)
         have HXn := Aside0.mk ((hb.block _ (blk_lt HX.out)).trans HX.out)
         clear hb HB HX
         have HB := HBn
         have HX := HXn
         clear HBn HXn
         have b0 := (blk_cell HX.out 0).trans rfl
         have b1 := (blk_cell HX.out 1).trans rfl
         go_wp2_with (go_at_call 33; refine (memory_has.calls q g m v true _ (MV_below HM.out HB.out) HHa.out).mono ?_; rintro e w5 ⟨rfl, hd⟩; have hb := hd.below; have HBn := Aside0.mk (below_step HB.out hb); have HXn := Aside0.mk ((hb.block _ (blk_lt HX.out)).trans HX.out); have G0n := Aside0.mk ((hb.block _ (blk_lt G0.out)).trans G0.out); have HCn := Aside0.mk (Kd.C_below HCc.out hb); clear hd hb HB HX G0 HCc b0 b1; have HB := HBn; have HX := HXn; have G0 := G0n; have HCc := HCn; clear HBn HXn G0n HCn; have b0 := (blk_cell HX.out 0).trans rfl; have b1 := (blk_cell HX.out 1).trans rfl; have g0 := (blk_cell G0.out 0).trans rfl; have g1 := (blk_cell G0.out 1).trans rfl; have g2 := (blk_cell G0.out 2).trans rfl; have g3 := (blk_cell G0.out 3).trans rfl; have g4 := (blk_cell G0.out 4).trans rfl; have HM1 := Aside0.mk (MV_below HM.out HB.out); obtain ⟨ad4, e4, hc4⟩ := Kd.at_bool HCc.out ci (of_eq_true t1) (of_eq_true t2); cases e4; rw [O5.out] at hc4; try clear HCc)
         refine start_ (n := 36) (S := fun w' => Aside0 (Below w.heap.size w w') ∧ Aside0 (MV w' g (m)) ∧ Aside0 (w'.heap[w.heap.size]? = some (.cells #[.pointer (some ⟨g, 0, none⟩), .int .i64 at_] 62 (0, 0))) ∧ w'.cell? (⟨w.heap.size, 0, none⟩) = some (.pointer (some ⟨g, 0, none⟩)) ∧ w'.cell? (⟨w.heap.size, 1, none⟩) = some (.int .i64 at_) ∧ w'.cell? (⟨g, 0, none⟩) = some (.slice (some ad) m.words.length cW) ∧ w'.cell? (⟨g, 1, none⟩) = some (.int .i64 m.young) ∧ w'.cell? (⟨g, 2, none⟩) = some (.int .i64 m.top) ∧ w'.cell? (⟨g, 3, none⟩) = some (.int .i64 m.old) ∧ w'.cell? (⟨g, 4, none⟩) = some (.slice (some ad4) m.cards.length cC) ∧ w'.cell? (ad4.add ci.toNat) = some (.bool true)) (ds := []) #[false, false, false, false, false, false, false, false, false, false, false, false, false, false, false, false, false, false, false, false, false, false, false, false, false, false, false, false, false, false, false, false, false, false, false, false] (by kernel_rfl) rfl rfl ⟨⟨below_drew1 HB.out⟩, ⟨MV_below HM1.out (below_drew1 (Below.refl _ _))⟩, ⟨blk_drew HX.out⟩, (by go_simp), (by go_simp), (by go_simp), (by go_simp), (by go_simp), (by go_simp), (by go_simp), (by go_simp)⟩ (fun hHeld => ?_)
         refine pS 0 40 (lA 36 1) ?_
         refine pS 5 45 (lA 36 33) ?_
         refine tS 1 41 (lA 36 35) rfl rfl (by kernel_rfl) hHeld z10 ?_
         refine pS 2 42 (lA 36 39) ?_
         refine pS 3 43 (lA 36 47) ?_
         refine tS 4 44 (lA 36 63) rfl rfl (by kernel_rfl) hHeld z10 ?_
         refine tS 6 46 (lA 36 127) rfl rfl (by kernel_rfl) hHeld z10 ?_
         refine one_ (i := 7) (N := some 47) (lA 36 255) rfl rfl (by kernel_rfl) (by decide) (fun K hK => ?_)
         refine goes_ Try.func73 (by kernel_rfl) rfl #[.agg #[.slice (some ad) m.words.length cW, .int .i64 m.young, .int .i64 m.top, .int .i64 m.old, .slice (some ad4) m.cards.length cC], .int .i64 at_] (by rfl) rfl rfl z5 ?_
         with_reducible refine (Mem_isOld.calls (some ad) m.words.length cW m.young m.top m.old (some ad4) m.cards.length cC at_ true _ O1.out).mono ?_
         rintro e w9 ⟨rfl, hb3⟩
         refine ⟨_, rfl, ?_⟩
         refine hK.out _ _ ⟨⟨below_step hHeld.1.out hb3⟩, ⟨MV_below hHeld.2.1.out hb3⟩, ⟨(hb3.block _ (blk_lt hHeld.2.2.1.out)).trans hHeld.2.2.1.out⟩, (pw_cell_below hb3 hHeld.2.2.2.1), (pw_cell_below hb3 hHeld.2.2.2.2.1), (pw_cell_below hb3 hHeld.2.2.2.2.2.1), (pw_cell_below hb3 hHeld.2.2.2.2.2.2.1), (pw_cell_below hb3 hHeld.2.2.2.2.2.2.2.1), (pw_cell_below hb3 hHeld.2.2.2.2.2.2.2.2.1), (pw_cell_below hb3 hHeld.2.2.2.2.2.2.2.2.2.1), (pw_cell_below hb3 hHeld.2.2.2.2.2.2.2.2.2.2)⟩ (fun hHeld => ?_)
         clear hK K
         refine norm_ (a' := ?_) ?_ ?_
         rotate_left
         ·show Act.put _ (some 47) _ = _
          simp only [Act.put, lA1, lA2, lA3, i64_w, i32_w]
          rfl
         refine pS 8 48 (lA 36 511) ?_
         refine pS 9 49 (lA 36 1023) ?_
         refine pS 14 54 (lA 36 17407) ?_
         refine tS 10 50 (lA 36 18431) rfl rfl (by kernel_rfl) hHeld z10 ?_
         refine pS 11 51 (lA 36 20479) ?_
         refine pS 12 52 (lA 36 24575) ?_
         refine tS 13 53 (lA 36 32767) rfl rfl (by kernel_rfl) hHeld z10 ?_
         refine one_ (i := 15) (N := some 55) (lA 36 65535) rfl rfl (by kernel_rfl) (by decide) (fun K hK => ?_)
         refine goes_ Try.func73 (by kernel_rfl) rfl #[.agg #[.slice (some ad) m.words.length cW, .int .i64 m.young, .int .i64 m.top, .int .i64 m.old, .slice (some ad4) m.cards.length cC], .int .i64 v] (by rfl) rfl rfl z5 ?_
         with_reducible refine (Mem_isOld.calls (some ad) m.words.length cW m.young m.top m.old (some ad4) m.cards.length cC v false _ O2.out).mono ?_
         rintro e w9 ⟨rfl, hb3⟩
         refine ⟨_, rfl, ?_⟩
         refine hK.out _ _ ⟨⟨below_step hHeld.1.out hb3⟩, ⟨MV_below hHeld.2.1.out hb3⟩, ⟨(hb3.block _ (blk_lt hHeld.2.2.1.out)).trans hHeld.2.2.1.out⟩, (pw_cell_below hb3 hHeld.2.2.2.1), (pw_cell_below hb3 hHeld.2.2.2.2.1), (pw_cell_below hb3 hHeld.2.2.2.2.2.1), (pw_cell_below hb3 hHeld.2.2.2.2.2.2.1), (pw_cell_below hb3 hHeld.2.2.2.2.2.2.2.1), (pw_cell_below hb3 hHeld.2.2.2.2.2.2.2.2.1), (pw_cell_below hb3 hHeld.2.2.2.2.2.2.2.2.2.1), (pw_cell_below hb3 hHeld.2.2.2.2.2.2.2.2.2.2)⟩ (fun hHeld => ?_)
         clear hK K
         refine norm_ (a' := ?_) ?_ ?_
         rotate_left
         ·show Act.put _ (some 55) _ = _
          simp only [Act.put, lA1, lA2, lA3, i64_w, i32_w]
          rfl
         refine pS 16 56 (lA 36 131071) ?_
         refine pS 17 57 (lA 36 262143) ?_
         refine pS 18 58 (lA 36 524287) ?_
         refine pS 19 59 (lA 36 1048575) ?_
         refine pS 25 65 (lA 36 34603007) ?_
         refine pS 30 70 (lA 36 1108344831) ?_
         refine tS 20 60 (lA 36 1109393407) rfl rfl (by kernel_rfl) hHeld z10 ?_
         refine pS 21 61 (lA 36 1111490559) ?_
         refine pS 22 62 (lA 36 1115684863) ?_
         refine pS 23 63 (lA 36 1124073471) ?_
         refine tS 24 64 (lA 36 1140850687) rfl rfl (by kernel_rfl) hHeld z10 ?_
         refine tS 26 66 (lA 36 1207959551) rfl rfl (by kernel_rfl) hHeld z10 ?_
         refine pS 27 67 (lA 36 1342177279) ?_
         refine pS 28 68 (lA 36 1610612735) ?_
         refine tS 29 69 (lA 36 2147483647) rfl rfl (by kernel_rfl) hHeld z10 ?_
         refine one_ (i := 31) (N := some 71) (lA 36 4294967295) rfl rfl (by kernel_rfl) (by decide) (fun K hK => ?_)
         refine goes_ Try.func74 (by kernel_rfl) rfl #[.agg #[.slice (some ad) m.words.length cW, .int .i64 m.young, .int .i64 m.top, .int .i64 m.old, .slice (some ad4) m.cards.length cC], .int .i64 x] (by rfl) rfl rfl z5 ?_
         with_reducible refine (Mem_card.calls (some ad) m.words.length cW m.young m.top m.old (some ad4) m.cards.length cC x cj ci _ O3.out O4.out).mono ?_
         rintro e w9 ⟨rfl, hb3⟩
         refine ⟨_, rfl, ?_⟩
         refine hK.out _ _ ⟨⟨below_step hHeld.1.out hb3⟩, ⟨MV_below hHeld.2.1.out hb3⟩, ⟨(hb3.block _ (blk_lt hHeld.2.2.1.out)).trans hHeld.2.2.1.out⟩, (pw_cell_below hb3 hHeld.2.2.2.1), (pw_cell_below hb3 hHeld.2.2.2.2.1), (pw_cell_below hb3 hHeld.2.2.2.2.2.1), (pw_cell_below hb3 hHeld.2.2.2.2.2.2.1), (pw_cell_below hb3 hHeld.2.2.2.2.2.2.2.1), (pw_cell_below hb3 hHeld.2.2.2.2.2.2.2.2.1), (pw_cell_below hb3 hHeld.2.2.2.2.2.2.2.2.2.1), (pw_cell_below hb3 hHeld.2.2.2.2.2.2.2.2.2.2)⟩ (fun hHeld => ?_)
         clear hK K
         refine norm_ (a' := ?_) ?_ ?_
         rotate_left
         ·show Act.put _ (some 71) _ = _
          simp only [Act.put, lA1, lA2, lA3, i64_w, i32_w]
          rfl
         refine pS 32 72 (lA 36 8589934591) ?_
         refine tS 33 73 (lA 36 17179869183) rfl rfl (by kernel_rfl) hHeld z10 ?_
         refine pS 34 74 (lA 36 34359738367) ?_
         refine pS 35 75 (lA 36 68719476735) ?_
         refine done_ (by kernel_rfl) ?_
         have HBn := hHeld.1
         have HXn := hHeld.2.2.1
         clear hHeld HB HX
         have HB := HBn
         have HX := HXn
         clear HBn HXn
         go_wp2
         go_roundw
         case rel => exact ⟨j1, k1, rfl, HZ, ⟨by have := HK1.out; have := HK.out; omega⟩, HX, HB⟩
         case measure => have := HK1.out; have := HC0.out; have := HK.out; show (n - k1).toNat < (n - k).toNat; omega
      ·rw [if_neg c2] at hq
       have O1 := Aside0.mk (decide_eq_false c2)
       have HQ2 := Aside0.mk (Option.some.inj hq)
       clear hq c2
       obtain rfl := HQ2.out
       have HZ := Aside0.mk (show wordsOk.l q m at_ n j1 k1 = some r by have := HH.out; rw [if_pos rfl] at this; exact this)
       clear HH
       have b0 := (blk_cell HX.out 0).trans rfl
       have b1 := (blk_cell HX.out 1).trans rfl
       go_wp2_with fail
       go_at_call 67
       refine (thing_first.calls g m at_ a _ (MV_below HM.out HB.out) HFi.out).mono ?_
       rintro e w2 ⟨rfl, hb⟩
       clear b0 b1
       have HBn := Aside0.mk (below_step HB.out hb)
       have HXn := Aside0.mk ((hb.block _ (blk_lt HX.out)).trans HX.out)
       clear hb HB HX
       have HB := HBn
       have HX := HXn
       clear HBn HXn
       have b0 := (blk_cell HX.out 0).trans rfl
       have b1 := (blk_cell HX.out 1).trans rfl
       obtain ⟨AW, cW, AC, cC, AF, cF, AB, cB, h0, hW, hC, _⟩ := MV_below HM.out HB.out
       obtain ⟨ad, e0, hcell⟩ := Kd.at_int hW x (by have := HXw.out; omega) (by have := HXw.out; omega)
       cases e0
       rw [← HV.out] at hcell
       have g0 := (blk_cell h0 0).trans rfl
       have G0 := Aside0.mk h0
       have HCc := Aside0.mk hC
       clear h0 hW hC
       go_wp2_with fail
       go_at_call 72
       refine (thing_leads.calls g m at_ k true _ (MV_below HM.out HB.out) HLe.out).mono ?_
       rintro e w3 ⟨rfl, hb⟩
       clear b0 b1 hcell g0
       have G0n := Aside0.mk ((hb.block _ (blk_lt G0.out)).trans G0.out)
       have HCn := Aside0.mk (Kd.C_below HCc.out hb)
       clear G0 HCc
       have G0 := G0n
       have HCc := HCn
       clear G0n HCn
       have HBn := Aside0.mk (below_step HB.out hb)
       have HXn := Aside0.mk ((hb.block _ (blk_lt HX.out)).trans HX.out)
       clear hb HB HX
       have HB := HBn
       have HX := HXn
       clear HBn HXn
       have b0 := (blk_cell HX.out 0).trans rfl
       have b1 := (blk_cell HX.out 1).trans rfl
       go_wp2_with (go_at_call 33; refine (memory_has.calls q g m v true _ (MV_below HM.out HB.out) HHa.out).mono ?_; rintro e w5 ⟨rfl, hd⟩; have hb := hd.below; have HBn := Aside0.mk (below_step HB.out hb); have HXn := Aside0.mk ((hb.block _ (blk_lt HX.out)).trans HX.out); have G0n := Aside0.mk ((hb.block _ (blk_lt G0.out)).trans G0.out); have HCn := Aside0.mk (Kd.C_below HCc.out hb); clear hd hb HB HX G0 HCc b0 b1; have HB := HBn; have HX := HXn; have G0 := G0n; have HCc := HCn; clear HBn HXn G0n HCn; have b0 := (blk_cell HX.out 0).trans rfl; have b1 := (blk_cell HX.out 1).trans rfl; have g0 := (blk_cell G0.out 0).trans rfl; have g1 := (blk_cell G0.out 1).trans rfl; have g2 := (blk_cell G0.out 2).trans rfl; have g3 := (blk_cell G0.out 3).trans rfl; have g4 := (blk_cell G0.out 4).trans rfl; have HM1 := Aside0.mk (MV_below HM.out HB.out); try clear HCc)
       refine start_ (n := 36) (S := fun w' => Aside0 (Below w.heap.size w w') ∧ Aside0 (MV w' g (m)) ∧ Aside0 (w'.heap[w.heap.size]? = some (.cells #[.pointer (some ⟨g, 0, none⟩), .int .i64 at_] 62 (0, 0))) ∧ w'.cell? (⟨w.heap.size, 0, none⟩) = some (.pointer (some ⟨g, 0, none⟩)) ∧ w'.cell? (⟨w.heap.size, 1, none⟩) = some (.int .i64 at_) ∧ w'.cell? (⟨g, 0, none⟩) = some (.slice (some ad) m.words.length cW) ∧ w'.cell? (⟨g, 1, none⟩) = some (.int .i64 m.young) ∧ w'.cell? (⟨g, 2, none⟩) = some (.int .i64 m.top) ∧ w'.cell? (⟨g, 3, none⟩) = some (.int .i64 m.old) ∧ w'.cell? (⟨g, 4, none⟩) = some (.slice AC m.cards.length cC)) (ds := []) #[false, false, false, false, false, false, false, false, false, false, false, false, false, false, false, false, false, false, false, false, false, false, false, false, false, false, false, false, false, false, false, false, false, false, false, false] (by kernel_rfl) rfl rfl ⟨⟨below_drew1 HB.out⟩, ⟨MV_below HM1.out (below_drew1 (Below.refl _ _))⟩, ⟨blk_drew HX.out⟩, (by go_simp), (by go_simp), (by go_simp), (by go_simp), (by go_simp), (by go_simp), (by go_simp)⟩ (fun hHeld => ?_)
       refine pS 0 40 (lA 36 1) ?_
       refine pS 5 45 (lA 36 33) ?_
       refine tS 1 41 (lA 36 35) rfl rfl (by kernel_rfl) hHeld z24 ?_
       refine pS 2 42 (lA 36 39) ?_
       refine pS 3 43 (lA 36 47) ?_
       refine tS 4 44 (lA 36 63) rfl rfl (by kernel_rfl) hHeld z24 ?_
       refine tS 6 46 (lA 36 127) rfl rfl (by kernel_rfl) hHeld z24 ?_
       refine one_ (i := 7) (N := some 47) (lA 36 255) rfl rfl (by kernel_rfl) (by decide) (fun K hK => ?_)
       refine goes_ Try.func73 (by kernel_rfl) rfl #[.agg #[.slice (some ad) m.words.length cW, .int .i64 m.young, .int .i64 m.top, .int .i64 m.old, .slice AC m.cards.length cC], .int .i64 at_] (by rfl) rfl rfl z5 ?_
       with_reducible refine (Mem_isOld.calls (some ad) m.words.length cW m.young m.top m.old AC m.cards.length cC at_ false _ O1.out).mono ?_
       rintro e w9 ⟨rfl, hb3⟩
       refine ⟨_, rfl, ?_⟩
       refine hK.out _ _ ⟨⟨below_step hHeld.1.out hb3⟩, ⟨MV_below hHeld.2.1.out hb3⟩, ⟨(hb3.block _ (blk_lt hHeld.2.2.1.out)).trans hHeld.2.2.1.out⟩, (pw_cell_below hb3 hHeld.2.2.2.1), (pw_cell_below hb3 hHeld.2.2.2.2.1), (pw_cell_below hb3 hHeld.2.2.2.2.2.1), (pw_cell_below hb3 hHeld.2.2.2.2.2.2.1), (pw_cell_below hb3 hHeld.2.2.2.2.2.2.2.1), (pw_cell_below hb3 hHeld.2.2.2.2.2.2.2.2.1), (pw_cell_below hb3 hHeld.2.2.2.2.2.2.2.2.2)⟩ (fun hHeld => ?_)
       clear hK K
       refine norm_ (a' := ?_) ?_ ?_
       rotate_left
       ·show Act.put _ (some 47) _ = _
        simp only [Act.put, lA1, lA2, lA3, i64_w, i32_w]
        rfl
       refine pS 8 48 (lA 36 511) ?_
       refine pU 9 49 (lA 36 1023) ?_
       refine pU 10 50 (lA 36 2047) ?_
       refine pU 11 51 (lA 36 4095) ?_
       refine pU 12 52 (lA 36 8191) ?_
       refine pU 13 53 (lA 36 16383) ?_
       refine pU 14 54 (lA 36 32767) ?_
       refine pU 15 55 (lA 36 65535) ?_
       refine pU 16 56 (lA 36 131071) ?_
       refine pS 17 57 (lA 36 262143) ?_
       refine pS 18 58 (lA 36 524287) ?_
       refine pU 19 59 (lA 36 1048575) ?_
       refine pU 20 60 (lA 36 2097151) ?_
       refine pU 21 61 (lA 36 4194303) ?_
       refine pU 22 62 (lA 36 8388607) ?_
       refine pU 23 63 (lA 36 16777215) ?_
       refine pU 24 64 (lA 36 33554431) ?_
       refine pU 25 65 (lA 36 67108863) ?_
       refine pU 26 66 (lA 36 134217727) ?_
       refine pU 27 67 (lA 36 268435455) ?_
       refine pU 28 68 (lA 36 536870911) ?_
       refine pU 29 69 (lA 36 1073741823) ?_
       refine pU 30 70 (lA 36 2147483647) ?_
       refine pU 31 71 (lA 36 4294967295) ?_
       refine pU 32 72 (lA 36 8589934591) ?_
       refine pU 33 73 (lA 36 17179869183) ?_
       refine pU 34 74 (lA 36 34359738367) ?_
       refine pS 35 75 (lA 36 68719476735) ?_
       refine done_ (by kernel_rfl) ?_
       have HBn := hHeld.1
       have HXn := hHeld.2.2.1
       clear hHeld HB HX
       have HB := HBn
       have HX := HXn
       clear HBn HXn
       go_wp2
       go_roundw
       case rel => exact ⟨j1, k1, rfl, HZ, ⟨by have := HK1.out; have := HK.out; omega⟩, HX, HB⟩
       case measure => have := HK1.out; have := HC0.out; have := HK.out; show (n - k1).toNat < (n - k).toNat; omega
end Go.Proofs.Ytfbkpjjnhengfaa.K
namespace Go.Proofs.Ytfbkpjjnhengfaa.K
open Go.RowKit Go.Proofs.YtfbkpjjnhengfaaW.PrintWords Go.Proofs.YtfbkpjjnhengfaaW.PrintLast Go.Proofs.YtfbkpjjnhengfaaW.PrintMore
attribute [local go_sem] max2_int min2_int max_two min_two max_three min_three max_four min_four
set_option linter.unusedVariables false
set_option linter.unusedSimpArgs false
def thingsOk (q : Nat) (m : Mm) : List Int → Option Bool
  | [] => some true
  | a :: r => (wordsOk.f q m a).bind fun ok => if ok = true then thingsOk q m r else some false
def mopen (k q : Nat) (l0 : List S99) (ws : List Int) (y t o : Int) (cs : List Bool) : Option (Option Mm) :=
  (impl_ClassesOk.f k l0).bind fun c => if c = true then ((impl_partsOk.f ws y t o cs).bind fun p => if p = true then ((impl_allFields.f k l0).bind fun F =>
    if F.all (fun r => decide (r.length ≤ 4294967296)) = true ∧ ws.length ≤ 1048576 ∧ cs.length ≤ 1048576 then ((mwalk ws F t q 0 []).bind fun r1 => if r1.1 = true then (if r1.2.length ≤ 1048576 then ((mwalk ws F o q y r1.2).bind fun r2 => if r2.1 = true then (if r2.2.length ≤ 1048576 then ((thingsOk q ⟨ws, y, t, o, cs, F, r2.2⟩ r2.2).bind fun ok => if ok = true then some (some ⟨ws, y, t, o, cs, F, r2.2⟩) else some none) else none) else some none) else none) else some none) else none) else some none) else some none
def OpenPost (w : World) (r : Option Mm) (e : Ending) (w' : World) : Prop :=
  match r with
  | none => e = .returned (.tuple #[.pointer none, .bool false]) ∧ Below w.heap.size w w'
  | some m => ∃ g, e = .returned (.tuple #[.pointer (some ⟨g, 0, none⟩), .bool true]) ∧ MO w' w.heap.size g m ∧ Below w.heap.size w w'
theorem fshort_of {F : List (List Int)} (h : F.all (fun r => decide (r.length ≤ 4294967296)) = true) : FShort F := by
 intro c h0 h1
 have h2 : c.toNat < F.length := by omega
 have h3 := List.all_eq_true.mp h (F[c.toNat]) (List.getElem_mem h2)
 have h4 : rdL F c = F[c.toNat] := by unfold rdL; rw [List.getD_eq_getElem?_getD, List.getElem?_eq_getElem h2]; rfl
 rw [h4]
 exact of_decide_eq_true h3
theorem parts_true {ws : List Int} {y t o : Int} {cs : List Bool} (h : impl_partsOk.f ws y t o cs = some true) : 0 ≤ y ∧ y ≤ 40 ∧ 0 ≤ t ∧ t ≤ y ∧ y ≤ o ∧ o ≤ ws.length := by
 unfold impl_partsOk.f at h
 split at h
 case isFalse => simp at h
 case isTrue =>
 have h := Option.some.inj h
 simp only [Bool.and_eq_true] at h
 obtain ⟨⟨⟨⟨⟨⟨h0, h1⟩, h2⟩, h3⟩, h4⟩, h5⟩, h6⟩ := h
 unfold pOk at h0 h2 h3
 have h0 := of_decide_eq_true h0
 have h2 := of_decide_eq_true h2
 have h3 := of_decide_eq_true h3
 exact ⟨h0.1, h0.2, h2.1, h2.2, h3.1, h3.2⟩
theorem MO_cells {w : World} {b g : Nat} {m : Mm} (h : MO w b g m) : w.cell? ⟨g, 1, none⟩ = some (.int .i64 m.young) ∧ w.cell? ⟨g, 2, none⟩ = some (.int .i64 m.top) ∧ w.cell? ⟨g, 3, none⟩ = some (.int .i64 m.old) := by
  obtain ⟨_, _, _, _, _, _, _, _, h0, _⟩ := h
  exact ⟨(blk_cell h0 1).trans rfl, (blk_cell h0 2).trans rfl, (blk_cell h0 3).trans rfl⟩
theorem MO_new {w3 w4 : World} {b : Nat} {AU AV AF : Option Addr} {cU cV cF : Nat} {l0 : List Int} {l4 : List Bool} {F : List (List Int)} {a1 a2 a3 : Int} (hb : b ≤ w3.heap.size) (hw : Below w3.heap.size w3 w4)
  (h1 : Kd.R (Kd.int .i64) 3 w3 b (fun k => some k ≠ (Value.slice AV l4.length cV).ownBlock) (.slice AU l0.length cU) l0)
  (h2 : Kd.R Kd.bool 4 w3 b (fun k => some k ≠ (Value.slice AU l0.length cU).ownBlock) (.slice AV l4.length cV) l4)
  (h3 : Kd.S (Kd.slice 3 (Kd.int .i64)) 24 w4 w3.heap.size (fun _ => True) (.slice AF F.length cF) F) :
  MO (w4.alloc (.cells #[.slice AU l0.length cU, .int .i64 a1, .int .i64 a2, .int .i64 a3, .slice AV l4.length cV, .slice AF F.length cF, .slice none 0 0] 55 (0, 0))) b w4.heap.size ⟨l0, a1, a2, a3, l4, F, []⟩ := by
 have hs := hw.size
 have u1 := Kd.R_lt h1
 have u2 := Kd.R_lt h2
 have nn : ∀ k : Nat, some k ≠ (Value.slice none 0 0).ownBlock := fun k => by simp [Value.ownBlock]
 have al := below_alloc (Below.refl w4.heap.size w4) (.cells #[.slice AU l0.length cU, .int .i64 a1, .int .i64 a2, .int .i64 a3, .slice AV l4.length cV, .slice AF F.length cF, .slice none 0 0] 55 (0, 0))
 refine ⟨AU, cU, AV, cV, AF, cF, none, 0, blk_new _ _, by show b ≤ w4.heap.size; omega, (Kd.R_reads' (Kd.S_R h3)).2.1, ?_, ?_, ?_, ?_⟩
 ·exact Kd.R_below (Kd.R_mono (Kd.R_below (Kd.R_bound h1) hw) (fun k hk => ⟨⟨by have := hk.2.2.1; omega, hk.1⟩, nn k⟩)) al
 ·exact Kd.R_below (Kd.R_mono (Kd.R_below (Kd.R_bound h2) hw) (fun k hk => ⟨⟨by have := hk.2.2.1; omega, hk.1⟩, nn k⟩)) al
 ·exact Kd.F_below (Kd.F_mono (Kd.R_F (Kd.R_bound (Kd.S_R h3))) (fun k hk => ⟨⟨⟨by have := hk.2.2.1; omega, fun e => by have := u1 k e.symm; have := hk.2.1; omega⟩, fun e => by have := u2 k e.symm; have := hk.2.1; omega⟩, nn k⟩)) al
 ·exact Kd.R_nil _ _ _ _ _
set_option maxHeartbeats 32000000 in
set_option maxRecDepth 100000 in
theorem memOpen.calls (k q : Nat) (A0 : Option Addr) (c0 : Nat) (l0 : List S99) (AW : Option Addr) (cW : Nat) (ws : List Int) (y t o : Int) (AC : Option Addr) (cC : Nat) (cs : List Bool) (r : Option Mm) (w : World)
  (hr0 : Kd.C k99 w A0 l0.length l0) (hc0 : l0.length ≤ c0) (hrW : Kd.C (Kd.int .i64) w AW ws.length ws) (hcW : ws.length ≤ cW) (hrC : Kd.C Kd.bool w AC cs.length cs) (hcC : cs.length ≤ cC) (h : mopen k q l0 ws y t o cs = some r) :
  Calls Try.prog 28 #[.slice A0 l0.length c0, .agg #[.slice AW ws.length cW, .int .i64 y, .int .i64 t, .int .i64 o, .slice AC cs.length cC]] w (OpenPost w r) := by
 have HR0 := Aside0.mk hr0
 have HC0 := Aside0.mk hc0
 have HRW := Aside0.mk hrW
 have HCW := Aside0.mk hcW
 have HRC := Aside0.mk hrC
 have HCC := Aside0.mk hcC
 clear hr0 hc0 hrW hcW hrC hcC
 unfold mopen at h
 obtain ⟨c, hc, h⟩ := Option.bind_eq_some_iff.mp h
 have H1 := Aside0.mk hc
 clear hc
 have HB0 := Aside0.mk (below_alloc (Below.refl w.heap.size w) (.cells #[.slice AW ws.length cW, .int .i64 y, .int .i64 t, .int .i64 o, .slice AC cs.length cC] 27 (0, 0)))
 have HX0 := Aside0.mk (blk_new w (.cells #[.slice AW ws.length cW, .int .i64 y, .int .i64 t, .int .i64 o, .slice AC cs.length cC] 27 (0, 0)))
 cases c with
 | false =>
  rw [if_neg (by simp)] at h
  have HR := Aside0.mk (Option.some.inj h)
  clear h
  go_enter Try.func28, Try.ntmps28
  go_wp2_with (go_at_call 55; refine (impl_ClassesOk.calls k A0 c0 l0 false _ (Kd.C_below HR0.out HB0.out) HC0.out H1.out).mono ?_; rintro e w1 ⟨rfl, hb⟩; have HB := Aside0.mk (below_step HB0.out hb); have HX := Aside0.mk ((hb.block _ (blk_lt HX0.out)).trans HX0.out); clear hb HB0 HX0; have x0 := (blk_cell HX.out 0).trans rfl; have x1 := (blk_cell HX.out 1).trans rfl; have x2 := (blk_cell HX.out 2).trans rfl; have x3 := (blk_cell HX.out 3).trans rfl; have x4 := (blk_cell HX.out 4).trans rfl)
  go_ret2
  rw [← HR.out]
  exact ⟨rfl, HB.out⟩
 | true =>
 rw [if_pos rfl] at h
 obtain ⟨p, hp, h⟩ := Option.bind_eq_some_iff.mp h
 have H2 := Aside0.mk hp
 clear hp
 cases p with
 | false =>
  rw [if_neg (by simp)] at h
  have HR := Aside0.mk (Option.some.inj h)
  clear h
  go_enter Try.func28, Try.ntmps28
  go_wp2_with first | (go_at_call 55; refine (impl_ClassesOk.calls k A0 c0 l0 true _ (Kd.C_below HR0.out HB0.out) HC0.out H1.out).mono ?_; rintro e w1 ⟨rfl, hb⟩; have HB := Aside0.mk (below_step HB0.out hb); have HX := Aside0.mk ((hb.block _ (blk_lt HX0.out)).trans HX0.out); clear hb HB0 HX0; have x0 := (blk_cell HX.out 0).trans rfl; have x1 := (blk_cell HX.out 1).trans rfl; have x2 := (blk_cell HX.out 2).trans rfl; have x3 := (blk_cell HX.out 3).trans rfl; have x4 := (blk_cell HX.out 4).trans rfl) | (go_at_call 56; refine (impl_partsOk.calls AW cW ws y t o AC cC cs false _ (Kd.C_below HRW.out HB.out) HCW.out H2.out).mono ?_; rintro e w2 ⟨rfl, hb⟩; have HBn := Aside0.mk (below_step HB.out hb); have HXn := Aside0.mk ((hb.block _ (blk_lt HX.out)).trans HX.out); clear hb HB HX x0 x1 x2 x3 x4; have HB := HBn; have HX := HXn; clear HBn HXn; have x0 := (blk_cell HX.out 0).trans rfl; have x1 := (blk_cell HX.out 1).trans rfl; have x2 := (blk_cell HX.out 2).trans rfl; have x3 := (blk_cell HX.out 3).trans rfl; have x4 := (blk_cell HX.out 4).trans rfl)
  go_ret2
  rw [← HR.out]
  exact ⟨rfl, HB.out⟩
 | true =>
 rw [if_pos rfl] at h
 obtain ⟨F, hF, h⟩ := Option.bind_eq_some_iff.mp h
 have H3 := Aside0.mk hF
 clear hF
 split at h
 case isFalse => simp at h
 case isTrue hl =>
 have HL1 := Aside0.mk (fshort_of hl.1)
 have HL2 := Aside0.mk hl.2.1
 have HL3 := Aside0.mk hl.2.2
 clear hl
 have HP := Aside0.mk (parts_true H2.out)
 obtain ⟨r1, hr1, h⟩ := Option.bind_eq_some_iff.mp h
 have H4 := Aside0.mk hr1
 clear hr1
 have H := Aside0.mk h
 clear h
 go_enter Try.func28, Try.ntmps28
 go_wp2_with first | (go_at_call 55; refine (impl_ClassesOk.calls k A0 c0 l0 true _ (Kd.C_below HR0.out HB0.out) HC0.out H1.out).mono ?_; rintro e w1 ⟨rfl, hb⟩; have HB := Aside0.mk (below_step HB0.out hb); have HX := Aside0.mk ((hb.block _ (blk_lt HX0.out)).trans HX0.out); clear hb HB0 HX0; have x0 := (blk_cell HX.out 0).trans rfl; have x1 := (blk_cell HX.out 1).trans rfl; have x2 := (blk_cell HX.out 2).trans rfl; have x3 := (blk_cell HX.out 3).trans rfl; have x4 := (blk_cell HX.out 4).trans rfl) | (go_at_call 56; refine (impl_partsOk.calls AW cW ws y t o AC cC cs true _ (Kd.C_below HRW.out HB.out) HCW.out H2.out).mono ?_; rintro e w2 ⟨rfl, hb⟩; have HBn := Aside0.mk (below_step HB.out hb); have HXn := Aside0.mk ((hb.block _ (blk_lt HX.out)).trans HX.out); clear hb HB HX x0 x1 x2 x3 x4; have HB := HBn; have HX := HXn; clear HBn HXn; have x0 := (blk_cell HX.out 0).trans rfl; have x1 := (blk_cell HX.out 1).trans rfl; have x2 := (blk_cell HX.out 2).trans rfl; have x3 := (blk_cell HX.out 3).trans rfl; have x4 := (blk_cell HX.out 4).trans rfl) | fail
 go_at_call 57
 refine (impl_memClone.calls AW cW ws y t o AC cC cs _ (Kd.C_below HRW.out HB.out) HCW.out (Kd.C_below HRC.out HB.out) HCC.out (by have := HL2.out; omega) (by have := HL3.out; omega)).mono ?_
 rintro e w3 ⟨u, v, rfl, hu, hv, hb⟩
 have HS2 := Aside0.mk (below_size HB.out)
 have HBn := Aside0.mk (below_step HB.out hb)
 have HU := Aside0.mk (Kd.R_lower hu HS2.out)
 have HV := Aside0.mk (Kd.R_lower hv HS2.out)
 obtain ⟨AU, cU, rfl⟩ := Kd.R_slice hu
 obtain ⟨AV, cV, rfl⟩ := Kd.R_slice hv
 clear hu hv hb HB HX HS2 x0 x1 x2 x3 x4
 have HB := HBn
 clear HBn
 go_wp2_with fail
 go_at_call 58
 refine (impl_allFields.calls k A0 c0 l0 F _ (Kd.C_below HR0.out HB.out) HC0.out H3.out).mono ?_
 rintro e w4 ⟨vf, rfl, hf, hb⟩
 obtain ⟨AF, cF, rfl⟩ := Kd.S_slice hf
 have HM0 := Aside0.mk (MO_new (a1 := y) (a2 := t) (a3 := o) (below_size HB.out) hb HU.out HV.out hf)
 have HBn := Aside0.mk (below_alloc (below_step HB.out hb) (.cells #[.slice AU ws.length cU, .int .i64 y, .int .i64 t, .int .i64 o, .slice AV cs.length cV, .slice AF F.length cF, .slice none 0 0] 55 (0, 0)))
 clear hf hb HB HU HV
 have HB := HBn
 clear HBn
 obtain ⟨g, hg⟩ : ∃ g, g = w4.heap.size := ⟨_, rfl⟩
 have HG := Aside0.mk hg
 go_wp2
 rw [← hg] at HM0 ⊢
 clear hg
 generalize w4.alloc (.cells #[.slice AU ws.length cU, .int .i64 y, .int .i64 t, .int .i64 o, .slice AV cs.length cV, .slice AF F.length cF, .slice none 0 0] 55 (0, 0)) = W5 at HB HM0 ⊢
 obtain ⟨k1, k2, k3⟩ := MO_cells HM0.out
 dsimp only at k1 k2 k3
 obtain ⟨r1b, r1l⟩ := r1
 have hh := H.out
 cases r1b with
 | false =>
  rw [if_neg (by simp)] at hh
  have HR := Aside0.mk (Option.some.inj hh)
  clear hh H
  refine start_ (n := 23) (S := fun w' => Aside0 (Below w.heap.size w w') ∧ w'.cell? ⟨g, 1, none⟩ = some (.int .i64 y) ∧ w'.cell? ⟨g, 2, none⟩ = some (.int .i64 t) ∧ w'.cell? ⟨g, 3, none⟩ = some (.int .i64 o)) (ds := []) #[false, false, false, false, false, false, false, false, false, false, false, false, false, false, false, false, false, false, false, false, false, false, false] (by kernel_rfl) rfl rfl ⟨⟨below_drew1 HB.out⟩, (by go_simp), (by go_simp), (by go_simp)⟩ (fun hHeld => ?_)
  refine pS 0 23 (lA 23 1) ?_
  refine pS 1 24 (lA 23 3) ?_
  refine pS 2 25 (lA 23 7) ?_
  refine pS 3 26 (lA 23 15) ?_
  refine pS 4 27 (lA 23 31) ?_
  refine tS 5 28 (lA 23 63) rfl rfl (by kernel_rfl) hHeld z19 ?_
  refine one_ (i := 6) (N := some 29) (lA 23 127) rfl rfl (by kernel_rfl) (by decide) (fun K hK => ?_)
  refine goes_ Try.func59 (by kernel_rfl) rfl #[.pointer (some ⟨g, 0, none⟩), .int .i64 0, .int .i64 t] (by rfl) rfl rfl z5 ?_
  with_reducible refine (memory_walk.calls w.heap.size g _ 0 t q (false, r1l) _ (MO_below HM0.out (below_drew1 (Below.refl _ _))) hHeld.1.out.size (by decide) (by have := HP.out; show t ≤ (ws.length : Int); omega) HL2.out (Nat.zero_le _) HL1.out H4.out).mono ?_
  rintro e w5 ⟨rfl, ho1, hb1⟩
  have hMO1 := Aside0.mk ho1
  have hB1 := Aside0.mk hb1
  obtain ⟨c1_, c2_, c3_⟩ := MO_cells ho1
  dsimp only at c1_ c2_ c3_
  refine ⟨_, rfl, ?_⟩
  refine hK.out _ _ ⟨⟨hHeld.1.out.trans hB1.out⟩, c1_, c2_, c3_⟩ (fun hHeld => ?_)
  clear hK K
  refine norm_ (a' := ?_) ?_ ?_
  rotate_left
  ·show Act.put _ (some 29) _ = _
   simp only [Act.put, lA1, lA2, lA3, i64_w, i32_w]
   rfl
  refine pS 7 30 (lA 23 255) ?_
  refine pS 8 31 (lA 23 511) ?_
  refine pU 9 32 (lA 23 1023) ?_
  refine pU 10 33 (lA 23 2047) ?_
  refine pU 11 34 (lA 23 4095) ?_
  refine pU 12 35 (lA 23 8191) ?_
  refine pU 13 36 (lA 23 16383) ?_
  refine pU 14 37 (lA 23 32767) ?_
  refine pU 15 38 (lA 23 65535) ?_
  refine pU 16 39 (lA 23 131071) ?_
  refine pU 17 40 (lA 23 262143) ?_
  refine pU 18 41 (lA 23 524287) ?_
  refine pU 19 42 (lA 23 1048575) ?_
  refine pU 20 43 (lA 23 2097151) ?_
  refine pU 21 44 (lA 23 4194303) ?_
  refine pS 22 45 (lA 23 8388607) ?_
  refine done_ (by kernel_rfl) ?_
  go_wp2
  go_ret2
  rw [← HR.out]
  exact ⟨rfl, hHeld.1.out⟩
 | true =>
 rw [if_pos rfl] at hh
 split at hh
 case isFalse => simp at hh
 case isTrue hl =>
 have HL4 := Aside0.mk hl
 clear hl
 obtain ⟨r2, hr2, hh⟩ := Option.bind_eq_some_iff.mp hh
 have H5 := Aside0.mk hr2
 clear hr2 H
 obtain ⟨r2b, r2l⟩ := r2
 cases r2b with
 | false =>
  rw [if_neg (by simp)] at hh
  have HR := Aside0.mk (Option.some.inj hh)
  clear hh
  refine start_ (n := 23) (S := fun w' => Aside0 (Below w.heap.size w w') ∧ w'.cell? ⟨g, 1, none⟩ = some (.int .i64 y) ∧ w'.cell? ⟨g, 2, none⟩ = some (.int .i64 t) ∧ w'.cell? ⟨g, 3, none⟩ = some (.int .i64 o)) (ds := []) #[false, false, false, false, false, false, false, false, false, false, false, false, false, false, false, false, false, false, false, false, false, false, false] (by kernel_rfl) rfl rfl ⟨⟨below_drew1 HB.out⟩, (by go_simp), (by go_simp), (by go_simp)⟩ (fun hHeld => ?_)
  refine pS 0 23 (lA 23 1) ?_
  refine pS 1 24 (lA 23 3) ?_
  refine pS 2 25 (lA 23 7) ?_
  refine pS 3 26 (lA 23 15) ?_
  refine pS 4 27 (lA 23 31) ?_
  refine tS 5 28 (lA 23 63) rfl rfl (by kernel_rfl) hHeld z19 ?_
  refine one_ (i := 6) (N := some 29) (lA 23 127) rfl rfl (by kernel_rfl) (by decide) (fun K hK => ?_)
  refine goes_ Try.func59 (by kernel_rfl) rfl #[.pointer (some ⟨g, 0, none⟩), .int .i64 0, .int .i64 t] (by rfl) rfl rfl z5 ?_
  with_reducible refine (memory_walk.calls w.heap.size g _ 0 t q (true, r1l) _ (MO_below HM0.out (below_drew1 (Below.refl _ _))) hHeld.1.out.size (by decide) (by have := HP.out; show t ≤ (ws.length : Int); omega) HL2.out (Nat.zero_le _) HL1.out H4.out).mono ?_
  rintro e w5 ⟨rfl, ho1, hb1⟩
  have hMO1 := Aside0.mk ho1
  have hB1 := Aside0.mk hb1
  obtain ⟨c1_, c2_, c3_⟩ := MO_cells ho1
  dsimp only at c1_ c2_ c3_
  refine ⟨_, rfl, ?_⟩
  refine hK.out _ _ ⟨⟨hHeld.1.out.trans hB1.out⟩, c1_, c2_, c3_⟩ (fun hHeld => ?_)
  clear hK K
  refine norm_ (a' := ?_) ?_ ?_
  rotate_left
  ·show Act.put _ (some 29) _ = _
   simp only [Act.put, lA1, lA2, lA3, i64_w, i32_w]
   rfl
  refine pS 7 30 (lA 23 255) ?_
  refine pS 8 31 (lA 23 511) ?_
  refine pS 9 32 (lA 23 1023) ?_
  refine pS 10 33 (lA 23 2047) ?_
  refine pS 11 34 (lA 23 4095) ?_
  refine pS 12 35 (lA 23 8191) ?_
  refine pS 13 36 (lA 23 16383) ?_
  refine pS 15 38 (lA 23 49151) ?_
  refine pS 16 39 (lA 23 114687) ?_
  refine pS 17 40 (lA 23 245759) ?_
  refine pS 18 41 (lA 23 507903) ?_
  refine tS 14 37 (lA 23 524287) rfl rfl (by kernel_rfl) hHeld z19 ?_
  refine tS 19 42 (lA 23 1048575) rfl rfl (by kernel_rfl) hHeld z19 ?_
  refine one_ (i := 20) (N := some 43) (lA 23 2097151) rfl rfl (by kernel_rfl) (by decide) (fun K hK => ?_)
  refine goes_ Try.func59 (by kernel_rfl) rfl #[.pointer (some ⟨g, 0, none⟩), .int .i64 y, .int .i64 o] (by rfl) rfl rfl z5 ?_
  with_reducible refine (memory_walk.calls w.heap.size g _ y o q (false, r2l) _ hMO1.out hHeld.1.out.size HP.out.1 (by have := HP.out; show o ≤ (ws.length : Int); omega) HL2.out HL4.out HL1.out H5.out).mono ?_
  rintro e w6 ⟨rfl, ho2, hb2⟩
  have hMO2 := Aside0.mk ho2
  have hB2 := Aside0.mk hb2
  obtain ⟨d1_, d2_, d3_⟩ := MO_cells ho2
  dsimp only at d1_ d2_ d3_
  refine ⟨_, rfl, ?_⟩
  refine hK.out _ _ ⟨⟨hHeld.1.out.trans hB2.out⟩, d1_, d2_, d3_⟩ (fun hHeld => ?_)
  clear hK K
  refine norm_ (a' := ?_) ?_ ?_
  rotate_left
  ·show Act.put _ (some 43) _ = _
   simp only [Act.put, lA1, lA2, lA3, i64_w, i32_w]
   rfl
  refine pS 21 44 (lA 23 4194303) ?_
  refine pS 22 45 (lA 23 8388607) ?_
  refine done_ (by kernel_rfl) ?_
  go_wp2
  go_ret2
  rw [← HR.out]
  exact ⟨rfl, hHeld.1.out⟩
 | true =>
 rw [if_pos rfl] at hh
 split at hh
 case isFalse => simp at hh
 case isTrue hl =>
 have HL5 := Aside0.mk hl
 clear hl
 obtain ⟨ok, hok, hh⟩ := Option.bind_eq_some_iff.mp hh
 have H6 := Aside0.mk hok
 have H7 := Aside0.mk hh
 clear hok hh
 refine start_ (n := 23) (S := fun w' => Aside0 (Below w.heap.size w w') ∧ w'.cell? ⟨g, 1, none⟩ = some (.int .i64 y) ∧ w'.cell? ⟨g, 2, none⟩ = some (.int .i64 t) ∧ w'.cell? ⟨g, 3, none⟩ = some (.int .i64 o)) (ds := []) #[false, false, false, false, false, false, false, false, false, false, false, false, false, false, false, false, false, false, false, false, false, false, false] (by kernel_rfl) rfl rfl ⟨⟨below_drew1 HB.out⟩, (by go_simp), (by go_simp), (by go_simp)⟩ (fun hHeld => ?_)
 refine pS 0 23 (lA 23 1) ?_
 refine pS 1 24 (lA 23 3) ?_
 refine pS 2 25 (lA 23 7) ?_
 refine pS 3 26 (lA 23 15) ?_
 refine pS 4 27 (lA 23 31) ?_
 refine tS 5 28 (lA 23 63) rfl rfl (by kernel_rfl) hHeld z19 ?_
 refine one_ (i := 6) (N := some 29) (lA 23 127) rfl rfl (by kernel_rfl) (by decide) (fun K hK => ?_)
 refine goes_ Try.func59 (by kernel_rfl) rfl #[.pointer (some ⟨g, 0, none⟩), .int .i64 0, .int .i64 t] (by rfl) rfl rfl z5 ?_
 with_reducible refine (memory_walk.calls w.heap.size g _ 0 t q (true, r1l) _ (MO_below HM0.out (below_drew1 (Below.refl _ _))) hHeld.1.out.size (by decide) (by have := HP.out; show t ≤ (ws.length : Int); omega) HL2.out (Nat.zero_le _) HL1.out H4.out).mono ?_
 rintro e w5 ⟨rfl, ho1, hb1⟩
 have hMO1 := Aside0.mk ho1
 have hB1 := Aside0.mk hb1
 obtain ⟨c1_, c2_, c3_⟩ := MO_cells ho1
 dsimp only at c1_ c2_ c3_
 refine ⟨_, rfl, ?_⟩
 refine hK.out _ _ ⟨⟨hHeld.1.out.trans hB1.out⟩, c1_, c2_, c3_⟩ (fun hHeld => ?_)
 clear hK K
 refine norm_ (a' := ?_) ?_ ?_
 rotate_left
 ·show Act.put _ (some 29) _ = _
  simp only [Act.put, lA1, lA2, lA3, i64_w, i32_w]
  rfl
 refine pS 7 30 (lA 23 255) ?_
 refine pS 8 31 (lA 23 511) ?_
 refine pS 9 32 (lA 23 1023) ?_
 refine pS 10 33 (lA 23 2047) ?_
 refine pS 11 34 (lA 23 4095) ?_
 refine pS 12 35 (lA 23 8191) ?_
 refine pS 13 36 (lA 23 16383) ?_
 refine pS 15 38 (lA 23 49151) ?_
 refine pS 16 39 (lA 23 114687) ?_
 refine pS 17 40 (lA 23 245759) ?_
 refine pS 18 41 (lA 23 507903) ?_
 refine tS 14 37 (lA 23 524287) rfl rfl (by kernel_rfl) hHeld z19 ?_
 refine tS 19 42 (lA 23 1048575) rfl rfl (by kernel_rfl) hHeld z19 ?_
 refine one_ (i := 20) (N := some 43) (lA 23 2097151) rfl rfl (by kernel_rfl) (by decide) (fun K hK => ?_)
 refine goes_ Try.func59 (by kernel_rfl) rfl #[.pointer (some ⟨g, 0, none⟩), .int .i64 y, .int .i64 o] (by rfl) rfl rfl z5 ?_
 with_reducible refine (memory_walk.calls w.heap.size g _ y o q (true, r2l) _ hMO1.out hHeld.1.out.size HP.out.1 (by have := HP.out; show o ≤ (ws.length : Int); omega) HL2.out HL4.out HL1.out H5.out).mono ?_
 rintro e w6 ⟨rfl, ho2, hb2⟩
 have hMO2 := Aside0.mk ho2
 have hB2 := Aside0.mk hb2
 obtain ⟨d1_, d2_, d3_⟩ := MO_cells ho2
 dsimp only at d1_ d2_ d3_
 refine ⟨_, rfl, ?_⟩
 refine hK.out _ _ ⟨⟨hHeld.1.out.trans hB2.out⟩, d1_, d2_, d3_⟩ (fun hHeld => ?_)
 clear hK K
 refine norm_ (a' := ?_) ?_ ?_
 rotate_left
 ·show Act.put _ (some 43) _ = _
  simp only [Act.put, lA1, lA2, lA3, i64_w, i32_w]
  rfl
 refine pS 21 44 (lA 23 4194303) ?_
 refine pS 22 45 (lA 23 8388607) ?_
 refine done_ (by kernel_rfl) ?_
 have HB := hHeld.1
 clear hHeld
 obtain ⟨AW6, cW6, AC6, cC6, AF6, cF6, AB, cB, g0, hg1, _, _, _, _, rB⟩ := hMO2.out
 have k6 := (blk_cell g0 6).trans rfl
 have HCB := Aside0.mk (Kd.R_reads' rB).2.2
 clear g0 rB hg1
 go_wp2
 go_loopw [51] (fun i wr => ∃ j : Nat, i = .int .i64 j ∧ j ≤ r2l.length ∧ Aside0 (thingsOk q ⟨ws, y, t, o, cs, F, r2l⟩ (r2l.drop j) = some ok) ∧ Aside0 (Below w6.heap.size w6 wr)) (fun i _ => r2l.length - (intOf i).toNat)
 case atStart => exact ⟨0, rfl, Nat.zero_le _, ⟨by rw [List.drop_zero]; exact H6.out⟩, ⟨Below.refl _ _⟩⟩
 case round =>
  clear H6
  obtain ⟨j, rfl, hj, HT, HB6⟩ := hrel
  by_cases hlt : j < r2l.length
  ·have hd := List.drop_eq_getElem_cons hlt
   have hg : r2l[j] = rd r2l j := by unfold rd; rw [Int.toNat_natCast, List.getD_eq_getElem?_getD, List.getElem?_eq_getElem hlt]; rfl
   obtain ⟨ad, e0, hcell⟩ := Kd.at_int (Kd.C_below HCB.out HB6.out) j (by omega) (by omega)
   cases e0
   rw [Int.toNat_natCast] at hcell
   have ht := HT.out
   rw [hd, hg] at ht
   unfold thingsOk at ht
   obtain ⟨o1, ho1, ht⟩ := Option.bind_eq_some_iff.mp ht
   have HO1 := Aside0.mk ho1
   clear hd hg HT ho1
   generalize rd r2l j = x at *
   cases o1 with
   | false =>
    rw [if_neg (by simp)] at ht
    have h7 := H7.out
    rw [← Option.some.inj ht, if_neg (by simp)] at h7
    have HR := Aside0.mk (Option.some.inj h7)
    clear ht h7
    go_wp2_with fail
    go_at_call 34
    refine (memory_thing.calls g x _).mono ?_
    rintro e w7 ⟨rfl, hb⟩
    have HB7 := Aside0.mk (below_step HB6.out hb)
    clear hb
    go_wp2_with fail
    go_at_call 60
    refine (thing_wordsOk.calls q g _ x false _ (MV_below (MO_MV hMO2.out) HB7.out) HO1.out).mono ?_
    rintro e w8 ⟨rfl, hb⟩
    have HB8 := Aside0.mk (below_step HB7.out hb)
    clear hb HB7
    go_wp2
    go_ret2
    rw [← HR.out]
    exact ⟨rfl, below_then HB.out (Nat.le_trans (Nat.le_refl _) HB.out.size) HB8.out⟩
   | true =>
    rw [if_pos rfl] at ht
    have HT2 := Aside0.mk ht
    clear ht
    go_wp2_with fail
    go_at_call 34
    refine (memory_thing.calls g x _).mono ?_
    rintro e w7 ⟨rfl, hb⟩
    have HB7 := Aside0.mk (below_step HB6.out hb)
    clear hb
    go_wp2_with fail
    go_at_call 60
    refine (thing_wordsOk.calls q g _ x true _ (MV_below (MO_MV hMO2.out) HB7.out) HO1.out).mono ?_
    rintro e w8 ⟨rfl, hb⟩
    have HB8 := Aside0.mk (below_step HB7.out hb)
    clear hb HB7
    go_wp2
    go_roundw
    case rel => exact ⟨j + 1, by rw [show wrap64 ((j : Int) + 1) = ((j + 1 : Nat) : Int) by have := HL5.out; unfold wrap64; omega], by omega, HT2, HB8⟩
    case measure => rw [show wrap64 ((j : Int) + 1) = ((j + 1 : Nat) : Int) by have := HL5.out; unfold wrap64; omega]; simp only [intOf, Int.toNat_natCast]; omega
  ·have d0 : decide ((j : Int) < r2l.length) = false := decide_eq_false (by omega)
   have ht := HT.out
   rw [List.drop_eq_nil_of_le (by omega)] at ht
   have h7 := H7.out
   rw [← Option.some.inj ht, if_pos rfl] at h7
   have HR := Aside0.mk (Option.some.inj h7)
   clear ht h7
   go_wp2
   go_ret2
   rw [← HR.out]
   exact ⟨g, rfl, MO_below hMO2.out HB6.out, below_then HB.out HB.out.size HB6.out⟩
end Go.Proofs.Ytfbkpjjnhengfaa.K
namespace Go.Proofs.Ytfbkpjjnhengfaa.K
open Go.RowKit Go.Proofs.YtfbkpjjnhengfaaW.PrintWords Go.Proofs.YtfbkpjjnhengfaaW.PrintLast Go.Proofs.YtfbkpjjnhengfaaW.PrintMore
attribute [local go_sem] max2_int min2_int max_two min_two max_three min_three max_four min_four
set_option linter.unusedVariables false
set_option linter.unusedSimpArgs false
end Go.Proofs.Ytfbkpjjnhengfaa.K
namespace Go.Proofs.Ytfbkpjjnhengfaa.K
open Go.RowKit Go.Proofs.YtfbkpjjnhengfaaW.PrintWords Go.Proofs.YtfbkpjjnhengfaaW.PrintLast Go.Proofs.YtfbkpjjnhengfaaW.PrintMore
attribute [local go_sem] max2_int min2_int max_two min_two max_three min_three max_four min_four
set_option linter.unusedVariables false
set_option linter.unusedSimpArgs false
def walkOf : Option Mm → List Int
  | none => []
  | some m => m.begins
def impl_MemWalk.f (k : Nat) (l0 : List (S99)) (l1_0 : List Int) (a1_1 : Int) (a1_2 : Int) (a1_3 : Int) (l1_4 : List Bool) : Option (List Int) := (mopen k k l0 l1_0 a1_1 a1_2 a1_3 l1_4).bind fun r => some (walkOf r)
set_option maxHeartbeats 8000000 in
set_option maxRecDepth 100000 in
theorem impl_MemWalk.calls (k : Nat) (A0 : Option Addr) (c0 : Nat) (l0 : List (S99)) (A1_0 : Option Addr) (c1_0 : Nat) (l1_0 : List Int) (a1_1 : Int) (a1_2 : Int) (a1_3 : Int) (A1_4 : Option Addr) (c1_4 : Nat) (l1_4 : List Bool) (r : List Int) (w : World) (hr0 : Kd.C k99 w A0 l0.length l0) (hc0 : l0.length ≤ c0) (hr1_0 : Kd.C (Kd.int .i64) w A1_0 l1_0.length l1_0) (hc1_0 : l1_0.length ≤ c1_0) (hr1_4 : Kd.C Kd.bool w A1_4 l1_4.length l1_4) (hc1_4 : l1_4.length ≤ c1_4) (h : impl_MemWalk.f k l0 l1_0 a1_1 a1_2 a1_3 l1_4 = some r) :
  Calls Try.prog 10 #[.slice A0 l0.length c0, .agg #[.slice A1_0 l1_0.length c1_0, .int .i64 a1_1, .int .i64 a1_2, .int .i64 a1_3, .slice A1_4 l1_4.length c1_4]] w fun e w' => ∃ v0_ : Value, e = .returned (v0_) ∧ Kd.R (Kd.int .i64) 3 w' w.heap.size (fun _ => True) v0_ r ∧ Below w.heap.size w w' := by
 unfold impl_MemWalk.f at h
 obtain ⟨m, hm, h⟩ := Option.bind_eq_some_iff.mp h
 have HM := Aside0.mk hm
 have HR0 := Aside0.mk hr0
 have HC0 := Aside0.mk hc0
 have HR1 := Aside0.mk hr1_0
 have HC1 := Aside0.mk hc1_0
 have HR4 := Aside0.mk hr1_4
 have HC4 := Aside0.mk hc1_4
 have HB := Aside0.mk (below_alloc (Below.refl w.heap.size w) (.cells #[.slice A1_0 l1_0.length c1_0, .int .i64 a1_1, .int .i64 a1_2, .int .i64 a1_3, .slice A1_4 l1_4.length c1_4] 27 (0, 0)))
 have HH := Aside0.mk h
 clear hr0 hc0 hr1_0 hc1_0 hr1_4 hc1_4 h hm
 go_enter Try.func10, Try.ntmps10
 go_wp2_with fail
 go_at_call 28
 refine (memOpen.calls k k A0 c0 l0 A1_0 c1_0 l1_0 a1_1 a1_2 a1_3 A1_4 c1_4 l1_4 m _ (Kd.C_below HR0.out HB.out) HC0.out (Kd.C_below HR1.out HB.out) HC1.out (Kd.C_below HR4.out HB.out) HC4.out HM.out).mono ?_
 cases m with
 | none =>
  rintro e w1 ⟨rfl, hb⟩
  have HB1 := Aside0.mk (below_step HB.out hb)
  have hh := Option.some.inj HH.out
  subst hh
  clear hb HM HH
  go_wp2
  go_ret
  exact ⟨_, rfl, Kd.R_nil _ _ _ _ _, HB1.out⟩
 | some m =>
  rintro e w1 ⟨g, rfl, hmo, hb⟩
  have HB1 := Aside0.mk (below_step HB.out hb)
  have hs := below_size HB.out
  have hh := Option.some.inj HH.out
  subst hh
  obtain ⟨AW, cW, AC, cC, AF, cF, AB, cB, g0, _, _, _, _, _, rB⟩ := hmo
  have k6 := (blk_cell g0 6).trans rfl
  have RB := Aside0.mk (Kd.R_mono (ok' := fun _ => True) (Kd.R_lower rB hs) (fun _ _ => trivial))
  clear hb HM HH g0 rB hs
  go_wp2
  go_ret
  exact ⟨_, rfl, RB.out, HB1.out⟩
end Go.Proofs.Ytfbkpjjnhengfaa.K
namespace Go.Proofs.Ytfbkpjjnhengfaa.K
open Go.RowKit Go.Proofs.YtfbkpjjnhengfaaW.PrintWords Go.Proofs.YtfbkpjjnhengfaaW.PrintLast Go.Proofs.YtfbkpjjnhengfaaW.PrintMore
attribute [local go_sem] max2_int min2_int max_two min_two max_three min_three max_four min_four
set_option linter.unusedVariables false
set_option linter.unusedSimpArgs false
def laws_leInts.l0 : Nat → List Int → List Int → Int → Option (Bool)
  | 0, _, _, _ => none
  | k + 1, x0, x1, x5 => if x5 < (x0.length : Int) then (if 0 ≤ x5 then (if x5 < (x1.length : Int) then (if (rd x0 x5) = (rd x1 x5) then (laws_leInts.l0 k x0 x1 (wrap64 (x5 + 1))) else (some false)) else (none)) else (none)) else (some true)
def laws_leInts.f (k : Nat) (l0 : List Int) (l1 : List Int) : Option (Bool) := if (l0.length : Int) = (l1.length : Int) then (laws_leInts.l0 k l0 l1 0) else (some false)
set_option maxHeartbeats 8000000 in
set_option maxRecDepth 100000 in
theorem laws_leInts.calls (k : Nat) (A0 : Option Addr) (c0 : Nat) (l0 : List Int) (A1 : Option Addr) (c1 : Nat) (l1 : List Int) (r : Bool) (w : World) (hr0 : Kd.C (Kd.int .i64) w A0 l0.length l0) (hc0 : l0.length ≤ c0) (hr1 : Kd.C (Kd.int .i64) w A1 l1.length l1) (hc1 : l1.length ≤ c1) (h : laws_leInts.f k l0 l1 = some r) :
  Calls Try.prog 11 #[.slice A0 l0.length c0, .slice A1 l1.length c1] w fun e w' => e = .returned (.bool r) ∧ Drawn0 w w' := by
 have HR0 := Aside0.mk hr0
 have HC0 := Aside0.mk hc0
 clear hr0 hc0
 have HR1 := Aside0.mk hr1
 have HC1 := Aside0.mk hc1
 clear hr1 hc1
 have H : (if (l0.length : Int) = (l1.length : Int) then (laws_leInts.l0 k l0 l1 0) else (some false)) = some r := h
 clear h
 by_cases c3 : (l0.length : Int) = (l1.length : Int)
 ·rw [if_pos c3] at H
  have c3b0 : ((l0.length : Int) == (l1.length : Int)) = true := beq_iff_eq.mpr c3
  have c3b1 : ((l0.length : Int) != (l1.length : Int)) = false := bne_eq_false_iff_eq.mpr c3
  have c3b2 : (l0.length == l1.length) = true := by first | simpa using c3 | (simp at c3 ⊢; omega)
  clear c3
  have H' := Aside0.mk H
  clear H
  go_enter Try.func11, Try.ntmps11
  go_wp2
  repeat (go_quiet (fail); try go_wp2)
  go_loopg [5] k (fun kq v5 w' => ∃ (x5_1 : Int), v5 = .int .i64 x5_1 ∧ Aside0 (laws_leInts.l0 kq l0 l1 x5_1 = some r) ∧ Aside0 (kq ≤ k) ∧ Drawn0 w w')
  case atStart => exact ⟨(0), z7, H', ⟨Nat.le_refl _⟩, by repeat (first | exact Drawn0.refl _ | apply Drawn0.step)⟩
  case round =>
   clear H'
   try clear c1
   try clear p2
   try clear c3
   try clear c3b0
   try clear c3b1
   try clear c3b2
   obtain ⟨x5_1, rfl, HA, HK1, ⟨m1, rfl⟩⟩ := hrel
   cases gk with
   | zero => exact absurd HA.out (by simp [laws_leInts.l0])
   | succ k1 =>
    have H := HA.out
    clear HA
    simp only [laws_leInts.l0] at H
    by_cases c4 : x5_1 < (l0.length : Int)
    ·rw [if_pos c4] at H
     have c4b0 : decide (x5_1 < (l0.length : Int)) = true := decide_eq_true c4
     clear c4
     by_cases c5 : 0 ≤ x5_1
     ·rw [if_pos c5] at H
      have c5b0 : decide (0 ≤ x5_1) = true := decide_eq_true c5
      clear c5
      by_cases c6 : x5_1 < (l1.length : Int)
      ·rw [if_pos c6] at H
       have c6b0 : decide (x5_1 < (l1.length : Int)) = true := decide_eq_true c6
       clear c6
       by_cases c7 : (rd l0 x5_1) = (rd l1 x5_1)
       ·rw [if_pos c7] at H
        have c7b0 : ((rd l0 x5_1) == (rd l1 x5_1)) = true := beq_iff_eq.mpr c7
        have c7b1 : ((rd l0 x5_1) != (rd l1 x5_1)) = false := bne_eq_false_iff_eq.mpr c7
        clear c7
        have H' := Aside0.mk H
        clear H
        have p262 : 0 ≤ (x5_1 : Int) := of_decide_eq_true z3
        have q262 : x5_1 < (l0.length : Int) := of_decide_eq_true z3
        obtain ⟨ad262, e262, hx262_0⟩ := Kd.at_int HR0.out x5_1 p262 q262
        cases e262
        replace p262 := eq_true p262
        replace q262 := eq_true q262
        have p263 : 0 ≤ (x5_1 : Int) := of_decide_eq_true z3
        have q263 : x5_1 < (l1.length : Int) := of_decide_eq_true z3
        obtain ⟨ad263, e263, hx263_0⟩ := Kd.at_int HR1.out x5_1 p263 q263
        cases e263
        replace p263 := eq_true p263
        replace q263 := eq_true q263
        go_wp2
        repeat (go_quiet (fail); try go_wp2)
        go_roundg k1
        case measure => have := HK1.out; omega
        case rel => exact ⟨(wrap64 (x5_1 + 1)), z7, H', ⟨by have := HK1.out; omega⟩, by repeat (first | exact Drawn0.refl _ | apply Drawn0.step)⟩
       ·rw [if_neg c7] at H
        have c7b0 : ((rd l0 x5_1) == (rd l1 x5_1)) = false := beq_eq_false_iff_ne.mpr c7
        have c7b1 : ((rd l0 x5_1) != (rd l1 x5_1)) = true := bne_iff_ne.mpr c7
        obtain rfl := Option.some.inj H
        have p262 : 0 ≤ (x5_1 : Int) := of_decide_eq_true z3
        have q262 : x5_1 < (l0.length : Int) := of_decide_eq_true z3
        obtain ⟨ad262, e262, hx262_0⟩ := Kd.at_int HR0.out x5_1 p262 q262
        cases e262
        replace p262 := eq_true p262
        replace q262 := eq_true q262
        have p263 : 0 ≤ (x5_1 : Int) := of_decide_eq_true z3
        have q263 : x5_1 < (l1.length : Int) := of_decide_eq_true z3
        obtain ⟨ad263, e263, hx263_0⟩ := Kd.at_int HR1.out x5_1 p263 q263
        cases e263
        replace p263 := eq_true p263
        replace q263 := eq_true q263
        go_wp2
        repeat (go_quiet (fail); try go_wp2)
        go_ret
        exact ⟨by first | rfl | (simp; done) | (simp [*]; done), by repeat (first | exact Drawn0.refl _ | apply Drawn0.step)⟩
      ·rw [if_neg c6] at H
       exact absurd H (by simp)
     ·rw [if_neg c5] at H
      exact absurd H (by simp)
    ·rw [if_neg c4] at H
     have c4b0 : decide (x5_1 < (l0.length : Int)) = false := decide_eq_false c4
     clear c4
     obtain rfl := Option.some.inj H
     go_wp2
     repeat (go_quiet (fail); try go_wp2)
     go_ret
     exact ⟨by first | rfl | (simp; done) | (simp [*]; done), by repeat (first | exact Drawn0.refl _ | apply Drawn0.step)⟩
 ·rw [if_neg c3] at H
  have c3b0 : ((l0.length : Int) == (l1.length : Int)) = false := beq_eq_false_iff_ne.mpr c3
  have c3b1 : ((l0.length : Int) != (l1.length : Int)) = true := bne_iff_ne.mpr c3
  have c3b2 : (l0.length == l1.length) = false := by first | simpa using c3 | (simp at c3 ⊢; omega)
  obtain rfl := Option.some.inj H
  go_enter Try.func11, Try.ntmps11
  go_wp2
  repeat (go_quiet (fail); try go_wp2)
  go_ret
  exact ⟨by first | rfl | (simp; done) | (simp [*]; done), by repeat (first | exact Drawn0.refl _ | apply Drawn0.step)⟩
end Go.Proofs.Ytfbkpjjnhengfaa.K
namespace Go.Proofs.Ytfbkpjjnhengfaa.K
open Go.RowKit Go.Proofs.YtfbkpjjnhengfaaW.PrintWords Go.Proofs.YtfbkpjjnhengfaaW.PrintLast Go.Proofs.YtfbkpjjnhengfaaW.PrintMore
attribute [local go_sem] max2_int min2_int max_two min_two max_three min_three max_four min_four
set_option linter.unusedVariables false
set_option linter.unusedSimpArgs false
def spec_l6In.f (a0 : Int) (a1 : Int) (a2 : Int) : Option (Bool) := if a0 ≥ a1 then (some (decide (a0 ≤ a2))) else (some false)
set_option maxHeartbeats 8000000 in
set_option maxRecDepth 100000 in
theorem spec_l6In.calls (a0 : Int) (a1 : Int) (a2 : Int) (r : Bool) (w : World) (h : spec_l6In.f a0 a1 a2 = some r) :
  Calls Try.prog 63 #[.int .i64 a0, .int .i64 a1, .int .i64 a2] w fun e w' => e = .returned (.bool r) ∧ Drawn0 w w' := by
 have H : (if a0 ≥ a1 then (some (decide (a0 ≤ a2))) else (some false)) = some r := h
 clear h
 by_cases c4 : a0 ≥ a1
 ·rw [if_pos c4] at H
  have c4b0 : decide (a1 ≤ a0) = true := decide_eq_true c4
  clear c4
  obtain rfl := Option.some.inj H
  go_enter Try.func63, Try.ntmps63
  go_wp2
  go_ret
  exact ⟨by first | rfl | (simp; done) | (simp [*]; done), by repeat (first | exact Drawn0.refl _ | apply Drawn0.step)⟩
 ·rw [if_neg c4] at H
  have c4b0 : decide (a1 ≤ a0) = false := decide_eq_false c4
  clear c4
  obtain rfl := Option.some.inj H
  go_enter Try.func63, Try.ntmps63
  go_wp2
  go_ret
  exact ⟨by first | rfl | (simp; done) | (simp [*]; done), by repeat (first | exact Drawn0.refl _ | apply Drawn0.step)⟩
end Go.Proofs.Ytfbkpjjnhengfaa.K
namespace Go.Proofs.Ytfbkpjjnhengfaa.K
open Go.RowKit Go.Proofs.YtfbkpjjnhengfaaW.PrintWords Go.Proofs.YtfbkpjjnhengfaaW.PrintLast Go.Proofs.YtfbkpjjnhengfaaW.PrintMore
attribute [local go_sem] max2_int min2_int max_two min_two max_three min_three max_four min_four
set_option linter.unusedVariables false
set_option linter.unusedSimpArgs false
def spec_l2Fields.f : Nat → List (S99) → Int → Option (List Int)
  | 0, _, _ => none
  | k + 1, l0, a1 => if a1 = 0 then (some (([] : List Int))) else (if 0 ≤ a1 then (if a1 < (l0.length : Int) then ((spec_l2Fields.f k l0 ((rd_T99 l0 a1).f0)).bind fun t125 => (if t125.length + ((rd_T99 l0 a1).f1).length < 17592186044416 then (some (t125 ++ ((rd_T99 l0 a1).f1))) else (none))) else (none)) else (none))
def spec_l2Fields.T3 : Bool × List (List Nat × List Nat) := (true, [([], []), ([], []), ([], []), ([1, 2], [1, 2]), ([3], [3]), ([4], [4]), ([0, 5], [0, 5]), ([], []), ([], []), ([7, 8], [7, 8]), ([9], [9]), ([10], [10]), ([6, 11, 6], [6, 11]), ([12, 12, 0, 1, 2, 3, 4, 5, 6, 7, 8, 9, 10, 11, 12], [12])])
def spec_l2Fields.B3 : List Nat := [0, 0, 0, 6, 14, 30, 63, 0, 0, 384, 896, 1920, 4095, 8191]
theorem spec_l2Fields.tab3 : rtab .any (opsOf Try.f78 3) = spec_l2Fields.T3 := by kernel_rfl
theorem spec_l2Fields.bits3 : waitsOk spec_l2Fields.T3.2 spec_l2Fields.B3 = true := by kernel_rfl
set_option maxHeartbeats 8000000 in
set_option maxRecDepth 100000 in
theorem spec_l2Fields.calls (k : Nat) : ∀ (A0 : Option Addr) (c0 : Nat) (l0 : List (S99)) (a1 : Int) (r : List Int) (w : World) (hr0 : Kd.C k99 w A0 l0.length l0) (hc0 : l0.length ≤ c0) (h : spec_l2Fields.f k l0 a1 = some r),
  Calls Try.prog 78 #[.slice A0 l0.length c0, .int .i64 a1] w fun e w' => ∃ v0_ : Value, e = .returned (v0_) ∧ Kd.R (Kd.int .i64) 3 w' w.heap.size (fun _ => True) v0_ r ∧ Below w.heap.size w w' := by
 induction k using Nat.strongRecOn with
 | _ k ih =>
 intro A0 c0 l0 a1 r w hr0 hc0 h
 cases k with
 | zero => exact absurd h (by simp [spec_l2Fields.f])
 | succ k =>
 simp only [spec_l2Fields.f] at h
 have HR0 := Aside0.mk hr0
 have HC0 := Aside0.mk hc0
 clear hr0 hc0
 have HB := Aside0.mk (Below.refl w.heap.size w)
 have H : (if a1 = 0 then (some (([] : List Int))) else (if 0 ≤ a1 then (if a1 < (l0.length : Int) then ((spec_l2Fields.f k l0 ((rd_T99 l0 a1).f0)).bind fun t125 => (if t125.length + ((rd_T99 l0 a1).f1).length < 17592186044416 then (some (t125 ++ ((rd_T99 l0 a1).f1))) else (none))) else (none)) else (none))) = some r := h
 clear h
 by_cases c3 : a1 = 0
 ·rw [if_pos c3] at H
  have c3b0 : (a1 == 0) = true := beq_iff_eq.mpr c3
  have c3b1 : (a1 != 0) = false := bne_eq_false_iff_eq.mpr c3
  clear c3
  obtain ⟨y121, hy121⟩ : ∃ y_ : List Int, y_ = (([] : List Int)) := ⟨_, rfl⟩
  replace H : (some y121) = some r := by first | (rw [hy121]; with_reducible exact H) | (have H2_ := (Option.bind_some _ _).symm.trans H; rw [hy121]; with_reducible exact H2_) | (have H2_ := (Option.bind_some _ _).symm.trans H; with_reducible exact H2_) | with_reducible exact H | (rw [hy121]; exact H) | exact H
  have Ny121 := Aside0.mk hy121
  clear hy121
  obtain rfl := Option.some.inj H
  go_enter Try.func78, Try.ntmps78
  go_wp2_with (first | ((with_reducible refine gate_dst (N := 7) rfl ?_); refine Kd.R_lit (Kd.int .i64) _ 3 ?hg (N := 7) ?hd (xs := ([] : List Int)) (inner := []) (ok := fun _ => True) (okp := fun _ => True) ?hr ?hp (fun _ hk => hk) trivial (Below.refl _ _) (Nat.le_refl _) (by simp) ?_; (case hd => rfl); (case hg => rfl); (case hr => first | (go_simp; done) | (go_simp; rfl)); (case hp => exact (Reps.none _ _)); intro v122 w4 ho5 hb hg_ hnew_; clear hg_ hnew_; (first | rw [← Ny121.out] at ho5 | (simp only [Int.reduceToNat] at ho5; rw [← Ny121.out] at ho5)); have HO123 := Aside0.mk (Kd.R_lower ho5 (below_size z2)); replace HB := Aside0.mk (below_step z2 hb); clear hb ho5))
  go_ret
  exact ⟨_, by first | rfl | (simp [errW_none, errW_some] <;> rfl) | (simp [*, errW_none, errW_some] <;> rfl), by (with_reducible repeat (first | apply Kd.R_alloc | apply Kd.R_drewN | apply Kd.R_drew)); exact HO123.out, by repeat (first | (with_reducible first | exact HB.out | apply below_alloc | apply pw_below_drewN | apply below_drew1) | exact HB.out)⟩
 ·rw [if_neg c3] at H
  have c3b0 : (a1 == 0) = false := beq_eq_false_iff_ne.mpr c3
  have c3b1 : (a1 != 0) = true := bne_iff_ne.mpr c3
  by_cases c6 : 0 ≤ a1
  ·rw [if_pos c6] at H
   have c6b0 : decide (0 ≤ a1) = true := decide_eq_true c6
   clear c6
   by_cases c7 : a1 < (l0.length : Int)
   ·rw [if_pos c7] at H
    have c7b0 : decide (a1 < (l0.length : Int)) = true := decide_eq_true c7
    clear c7
    replace H := Option.bind_eq_some_iff.mp H
    obtain ⟨t125, A80, H⟩ := H
    try dsimp only at H
    have A8 := Aside0.mk A80
    clear A80
    by_cases c9 : t125.length + ((rd_T99 l0 a1).f1).length < 17592186044416
    ·rw [if_pos c9] at H
     have LMc9 := Aside0.mk c9
     clear c9
     obtain ⟨y129, hy129⟩ : ∃ y_ : List Int, y_ = (t125 ++ ((rd_T99 l0 a1).f1)) := ⟨_, rfl⟩
     replace H : (some y129) = some r := by first | (rw [hy129]; with_reducible exact H) | (have H2_ := (Option.bind_some _ _).symm.trans H; rw [hy129]; with_reducible exact H2_) | (have H2_ := (Option.bind_some _ _).symm.trans H; with_reducible exact H2_) | with_reducible exact H | (rw [hy129]; exact H) | exact H
     have Ny129 := Aside0.mk hy129
     clear hy129
     obtain rfl := Option.some.inj H
     go_enter Try.func78, Try.ntmps78
     try go_wp2
     have n0_ := Aside0.mk (below_drew1 HB.out)
     clear HB
     have HB := n0_
     clear n0_
     have p124 : 0 ≤ (a1 : Int) := of_decide_eq_true z3
     have q124 : a1 < (l0.length : Int) := of_decide_eq_true z3
     obtain ⟨ad124, A124_1, c124_1, e124, hx124_0, hx124_1, hl124_1, hi124_1⟩ := at_T99 HR0.out a1 p124 q124
     have hw124_1 := hx124_1
     have hw124_0 := hx124_0
     cases e124
     replace hx124_0 := (HB.out.cell (World.block_lt_of_cell? w _ hx124_0)).trans hx124_0
     replace hx124_1 := (HB.out.cell (World.block_lt_of_cell? w _ hx124_1)).trans hx124_1
     have HR124_1 := Aside0.mk hi124_1
     have HC124_1 := Aside0.mk hl124_1
     clear hi124_1 hl124_1
     replace p124 := eq_true p124
     replace q124 := eq_true q124
     have p128 : 0 ≤ (a1 : Int) := of_decide_eq_true z3
     have q128 : a1 < (l0.length : Int) := of_decide_eq_true z3
     obtain ⟨ad128, A128_1, c128_1, e128, hx128_0, hx128_1, hl128_1, hi128_1⟩ := at_T99 HR0.out a1 p128 q128
     have hw128_1 := hx128_1
     have hw128_0 := hx128_0
     obtain rfl : ad124 = ad128 := (by injection e128)
     replace hx128_0 := (HB.out.cell (World.block_lt_of_cell? w _ hx128_0)).trans hx128_0
     replace hx128_1 := (HB.out.cell (World.block_lt_of_cell? w _ hx128_1)).trans hx128_1
     have HR128_1 := Aside0.mk hi128_1
     have HC128_1 := Aside0.mk hl128_1
     clear hi128_1 hl128_1
     replace p128 := eq_true p128
     replace q128 := eq_true q128
     have ea_ := Option.some.inj (hx124_1.symm.trans hx128_1)
     injection ea_ with ea_ en_ ec_
     subst ea_
     subst ec_
     clear en_
     refine start_ (n := 14) (S := fun w' => w'.cell? (ad124.add ((a1).toNat * 2)) = some (.int .i64 ((rd_T99 l0 a1).f0)) ∧ w'.cell? ⟨(ad124.add ((a1).toNat * 2)).block, (ad124.add ((a1).toNat * 2)).off + 1, none⟩ = some (.slice A124_1 ((rd_T99 l0 a1).f1).length c124_1) ∧ w'.cell? (ad124.add ((a1).toNat * 2)) = some (.int .i64 ((rd_T99 l0 a1).f0)) ∧ w'.cell? ⟨(ad124.add ((a1).toNat * 2)).block, (ad124.add ((a1).toNat * 2)).off + 1, none⟩ = some (.slice A124_1 ((rd_T99 l0 a1).f1).length c124_1)) (ds := []) #[false, false, false, false, false, false, false, false, false, false, false, false, false, false] (by kernel_rfl) rfl rfl ⟨((HB.out.cell (World.block_lt_of_cell? w _ hw124_0)).trans hw124_0), ((HB.out.cell (World.block_lt_of_cell? w _ hw124_1)).trans hw124_1), ((HB.out.cell (World.block_lt_of_cell? w _ hw128_0)).trans hw128_0), ((HB.out.cell (World.block_lt_of_cell? w _ hw128_1)).trans hw128_1)⟩ (fun hHeld => ?_); refine with_tabW spec_l2Fields.tab3 spec_l2Fields.bits3 (fun HT_ HW_ => ?_)
     generalize w.drew = w10 at HB HR124_1 HR128_1 hx124_0 hx124_1 hx128_0 hx128_1 hHeld ⊢
     refine pS 0 8 (lA 14 1) ?_ (hc := (any_of HT_.out (by kernel_rfl)))
     refine pS 1 9 (lA 14 3) ?_ (hc := (any_of HT_.out (by kernel_rfl)))
     refine pS 2 10 (lA 14 7) ?_ (hc := (any_of HT_.out (by kernel_rfl)))
     refine pS 3 11 (lA 14 15) ?_ (hc := (any_of HT_.out (by kernel_rfl)))
     refine pS 4 12 (lA 14 31) ?_ (hc := (any_of HT_.out (by kernel_rfl)))
     refine pS 7 15 (lA 14 159) ?_ (hc := (any_of HT_.out (by kernel_rfl)))
     refine pS 8 16 (lA 14 415) ?_ (hc := (any_of HT_.out (by kernel_rfl)))
     refine pS 9 17 (lA 14 927) ?_ (hc := (any_of HT_.out (by kernel_rfl)))
     refine pS 10 18 (lA 14 1951) ?_ (hc := (any_of HT_.out (by kernel_rfl)))
     refine tS 5 13 (lA 14 1983) rfl rfl (take_ofW HT_.out HW_.out (by kernel_rfl)) hHeld z19 ?_
     refine tS 11 19 (lA 14 4031) rfl rfl (take_ofW HT_.out HW_.out (by kernel_rfl)) hHeld z19 ?_
     refine one_ (i := 6) (N := some 14) (lA 14 4095) rfl rfl (one_of HT_.out (by kernel_rfl)) (by decide) (fun K hK => ?_)
     refine goes_ Try.func78 (by kernel_rfl) rfl #[.slice (some ad124) l0.length c0, .int .i64 ((rd_T99 l0 a1).f0)] (by rfl) rfl rfl z1 ?_
     with_reducible refine (ih k (by omega) _ _ l0 ((rd_T99 l0 a1).f0) t125 _ ?side1 ?side2 A8.out).mono ?_
     (case side1 => repeat (first | exact (Kd.C_below HR0.out HB.out) | (with_reducible refine Kd.C_alloc ?_ _) | (with_reducible refine Kd.C_drewN ?_ _) | (with_reducible refine Kd.C_drew ?_)))
     (case side2 => exact HC0.out)
     rintro e w11 ⟨v126, rfl, ho0, hb⟩
     refine ⟨_, rfl, ?_⟩
     have n0_ := Aside0.mk (Kd.R_lower ho0 (below_size z2))
     have n1_ := Aside0.mk (below_step z2 hb)
     clear HB
     have HO127 := n0_
     have HB := n1_
     clear n0_ n1_
     (try clear hb)
     (try clear hb2)
     (try clear hk)
     (try clear hi)
     (try clear ho0)
     refine hK.out _ _ ⟨((HB.out.cell (World.block_lt_of_cell? w _ hw124_0)).trans hw124_0), ((HB.out.cell (World.block_lt_of_cell? w _ hw124_1)).trans hw124_1), ((HB.out.cell (World.block_lt_of_cell? w _ hw128_0)).trans hw128_0), ((HB.out.cell (World.block_lt_of_cell? w _ hw128_1)).trans hw128_1)⟩ (fun hHeld => ?_)
     clear hK K
     refine norm_ (a' := ?_) ?_ ?_
     rotate_left
     ·show Act.put _ (some 14) _ = _
      simp only [Act.put, lA1, lA2, lA3, i64_w, i32_w]
      rfl
     refine one_ (i := 12) (N := some 20) (lA 14 8191) rfl rfl (one_of HT_.out (by kernel_rfl)) (by decide) (fun K hK => ?_)
     refine Kd.R_append_rows_step (Kd.int .i64) (w0 := w) w.heap.size (by rfl) (.tmp 14) (.tmp 19) 24 3 (.int .i64 0) 8 rfl Try.underlying24 info3 rfl (by decide) (by omega) v126 t125 ((rd_T99 l0 a1).f1) _ _ _ (fun _ => True) (fun _ => False) rfl rfl ?aO ?aR (fun _ _ h => h) (fun _ h => h.elim) ?aF ?aB ?aS ?aL ?_
     (case aR => repeat (first | exact (Kd.C_below HR128_1.out HB.out) | (with_reducible refine Kd.C_alloc ?_ _) | (with_reducible refine Kd.C_drewN ?_ _) | (with_reducible refine Kd.C_drew ?_)))
     (case aB => exact z2)
     (case aF => exact (fun _ _ => trivial))
     (case aO => exact (by (with_reducible repeat (first | apply Kd.R_alloc | apply Kd.R_drewN | apply Kd.R_drew)); exact HO127.out))
     (case aS => exact (below_size z2))
     (case aL => have := LMc9.out; omega)
     intro v130 w12 ho hb hg hat
     rw [← Ny129.out] at ho
     have n0_ := Aside0.mk (hb)
     have n1_ := Aside0.mk (ho)
     clear HB
     clear HO127
     have HB := n0_
     have HO131 := n1_
     clear n0_ n1_
     clear ho hb hg hat
     refine hK.out _ _ ⟨((HB.out.cell (World.block_lt_of_cell? w _ hw124_0)).trans hw124_0), ((HB.out.cell (World.block_lt_of_cell? w _ hw124_1)).trans hw124_1), ((HB.out.cell (World.block_lt_of_cell? w _ hw128_0)).trans hw128_0), ((HB.out.cell (World.block_lt_of_cell? w _ hw128_1)).trans hw128_1)⟩ (fun hHeld => ?_)
     clear hK K
     refine norm_ (a' := ?_) ?_ ?_
     rotate_left
     ·show Act.put _ (some 20) _ = _
      simp only [Act.put, lA1, lA2, lA3, i64_w, i32_w]
      rfl
     refine pS 13 4 (lA 14 16383) ?_ (hc := (any_of HT_.out (by kernel_rfl)))
     refine done_ (done_of HT_.out (by kernel_rfl)) ?_
     try go_wp2
     go_ret
     exact ⟨_, by first | rfl | (simp [errW_none, errW_some] <;> rfl) | (simp [*, errW_none, errW_some] <;> rfl), by (with_reducible repeat (first | apply Kd.R_alloc | apply Kd.R_drewN | apply Kd.R_drew)); exact HO131.out, by repeat (first | (with_reducible first | exact HB.out | apply below_alloc | apply pw_below_drewN | apply below_drew1) | exact HB.out)⟩
    ·rw [if_neg c9] at H
     exact absurd H (by simp)
   ·rw [if_neg c7] at H
    exact absurd H (by simp)
  ·rw [if_neg c6] at H
   exact absurd H (by simp)
end Go.Proofs.Ytfbkpjjnhengfaa.K
