import Derived.Test.YtbaklikaoleplaaPg24
import Derived.Test.YtbaklikaoleplaaPg27
import Derived.Test.YtbaklikaoleplaaPg25
import Derived.Test.YtbaklikaoleplaaPg26
import Derived.Maps.OwnSet
import Derived.Laws.IdiomCopy
namespace Go.Proofs.Ytbaklikaoleplaa.K
open Go.RowKit Go.Proofs.YtbaklikaoleplaaW.PrintWords Go.Proofs.YtbaklikaoleplaaW.PrintLast Go.Proofs.YtbaklikaoleplaaW.PrintMore
attribute [local go_sem] max2_int min2_int max_two min_two max_three min_three max_four min_four
set_option linter.unusedVariables false
set_option linter.unusedSimpArgs false
def cardOk (m:Mm) (at_ v x:Int):Option Bool:=if at_>m.young then (if v>m.young then some true else (if 0≤wrap64 (Int.tdiv (wrap64 (x - m.young)) 4)∧wrap64 (Int.tdiv (wrap64 (x - m.young)) 4)<m.cards.length then some (rdOf false m.cards (wrap64 (Int.tdiv (wrap64 (x - m.young)) 4))) else none)) else some true
def wordAt (q:Nat) (m:Mm) (at_ k:Int):Option Bool:=(thing_first.f m at_).bind fun a=>if 0≤a+k∧a+k<m.words.length then (thing_leads.f m at_ k).bind fun b=>if b=true then (if rd m.words (a+k)=0 then some true else (memory_has.f q m (rd m.words (a+k))).bind fun h=>if h=true then cardOk m at_ (rd m.words (a+k)) (a+k) else some false) else impl_isWord.f (rd m.words (a+k)) else none
def wordsOk.l (q:Nat) (m:Mm) (at_ n:Int):Nat→Int→Option Bool
  |0,_=>none
  |j+1,k=>if k<n then (wordAt q m at_ k).bind fun ok=>if ok=true then wordsOk.l q m at_ n j (k+1) else some false else some true
def wordsOk.f (q:Nat) (m:Mm) (at_:Int):Option Bool:=(thing_count.f m at_).bind fun n=>if n≤1099511627776 then wordsOk.l q m at_ n (n.toNat+1) 0 else none
set_option maxHeartbeats 32000000 in
set_option maxRecDepth 100000 in
theorem thing_wordsOk.calls (q g : Nat) (m : Mm) (at_ : Int) (r : Bool) (w : World) (hm : MV w g m) (h : wordsOk.f q m at_ = some r) :
  Calls Try.prog 70 #[thV g at_] w fun e w'=>e= .returned (.bool r)∧Below w.heap.size w w':=by
 unfold wordsOk.f at h;obtain ⟨n,hn,h⟩:=Option.bind_eq_some_iff.mp h
 split at h
 case isFalse=>simp at h
 case isTrue hn2=>
 have HN:=aK hn;have HM:=aK hm;have HA:=aK h;have HN2:=aK hn2;clear hm hn h hn2;unfold thV;go_enter Try.func70,Try.ntmps70
 go_wp2_with fail
 go_at_call 84;refine (thing_count.calls g m at_ n _ (MV_below HM.out (below_alloc (Below.refl _ _) _)) HN.out).mono ?_;rintro e w1 ⟨rfl,hb⟩;have HB1:=aK (below_step (below_alloc (Below.refl _ _) _) hb:Below w.heap.size w w1);have HX1:=aK (box_new hb);clear hb;go_wp2
 go_loopw [8] (fun i wr=> ∃(j:Nat) (k:Int),i= .int .i64 k∧Aside0 (wordsOk.l q m at_ n j k=some r)∧Aside0 (0≤k)∧Aside0 (wr.heap[w.heap.size]? =some (.cells #[.pointer (some ⟨g,0,none⟩),.int .i64 at_] 102 (0,0)))∧Aside0 (Below w.heap.size w wr)) (fun i _=>(n - intOf i).toNat)
 case atStart=>exact ⟨n.toNat+1,0,rfl,HA,⟨Int.le_refl _⟩,HX1,HB1⟩
 case round =>
  clear HA HX1 HB1;obtain ⟨j,k,rfl,HA,HK,HX,HB⟩:=hrel
  cases j with
  |zero=>exact absurd HA.out (by simp [wordsOk.l])
  | succ j1 =>
   have H:=HA.out;clear HA;unfold wordsOk.l at H;by_cases c0:k<n
   case neg=>
    rw [if_neg c0] at H;have d0:decide (k<n)=false:=decide_eq_false c0
    have HR:=aK (Option.some.inj H);clear H c0;go_wp2;go_ret;exact ⟨by rw [←HR.out];rfl,HB.out⟩
   case pos =>
    rw [if_pos c0] at H;have d0:decide (k<n)=true:=decide_eq_true c0
    obtain ⟨ok,hk,H⟩:=Option.bind_eq_some_iff.mp H;unfold wordAt at hk;obtain ⟨a,ha,hk⟩:=Option.bind_eq_some_iff.mp hk
    split at hk
    case isFalse=>simp at hk
    case isTrue hx=>
    obtain ⟨b,hb,hk⟩:=Option.bind_eq_some_iff.mp hk;have lf:=thing_first_lt ha;have HFi:=aK ha;have HLe:=aK hb;obtain ⟨x,hx0⟩: ∃x,x=a+k:=⟨_,rfl⟩;have q1:IntKind.i64.wrap (a+k)=x:=by rw [hx0];exact IntWalk.i64_in _ ⟨by omega,by omega⟩
    rw [←hx0] at hk hx;obtain ⟨v,hv⟩: ∃v,v=rd m.words x:=⟨_,rfl⟩;rw [←hv] at hk;have HV:=aK hv;have p1:=eq_true hx.1;have p2:=eq_true hx.2;have HXw:=aK (show x<(m.words.length:Int)∧0≤x from ⟨hx.2,hx.1⟩);have HLf:=aK lf;have HC0:=aK c0;obtain ⟨k1,hk1⟩: ∃k1,k1=k+1:=⟨_,rfl⟩;have q2:IntKind.i64.wrap (k+1)=k1:=by rw [hk1];exact IntWalk.i64_in _ ⟨by have:=HK.out;omega,by have:=HN2.out;omega⟩
    have HK1:=aK hk1;rw [←hk1] at H;have HH:=aK H;have HQ:=aK hk;clear ha hb hx0 hx hv lf c0 hk1 H hk
    cases b with
    | false =>
     have hq:=HQ.out;rw [if_neg (by simp)] at hq;have HQ2:=aK hq;clear hq HQ
     cases ok with
     |false=>
      have HZ:=aK (show false=r by have:=HH.out;rw [if_neg (by simp)] at this;exact Option.some.inj this);clear HH;have b0:=(blk_cell HX.out 0).trans rfl;have b1:=(blk_cell HX.out 1).trans rfl
      go_wp2_with fail
      go_at_call 86;refine (thing_first.calls g m at_ a _ (MV_below HM.out HB.out) HFi.out).mono ?_;rintro e w2 ⟨rfl,hb⟩;clear b0 b1;have HBn:=aK (below_step HB.out hb);have HXn:=aK ((hb.block _ (blk_lt HX.out)).trans HX.out);clear hb HB HX;have HB:=HBn;have HX:=HXn;clear HBn HXn;have b0:=(blk_cell HX.out 0).trans rfl;have b1:=(blk_cell HX.out 1).trans rfl;obtain ⟨AW,cW,AC,cC,AF,cF,AB,cB,h0,hW,hC,_⟩:=MV_below HM.out HB.out;obtain ⟨ad,e0,hcell⟩:=Kd.at_int hW x (by have:=HXw.out;omega) (by have:=HXw.out;omega)
      cases e0
      rw [←HV.out] at hcell;have g0:=(blk_cell h0 0).trans rfl;have G0:=aK h0;have HCc:=aK hC;clear h0 hW hC
      go_wp2_with fail
      go_at_call 85;refine (thing_leads.calls g m at_ k false _ (MV_below HM.out HB.out) HLe.out).mono ?_;rintro e w3 ⟨rfl,hb⟩;clear b0 b1 hcell g0;have G0n:=aK ((hb.block _ (blk_lt G0.out)).trans G0.out);have HCn:=aK (Kd.C_below HCc.out hb);clear G0 HCc;have G0:=G0n;have HCc:=HCn;clear G0n HCn;have HBn:=aK (below_step HB.out hb);have HXn:=aK ((hb.block _ (blk_lt HX.out)).trans HX.out);clear hb HB HX;have HB:=HBn;have HX:=HXn;clear HBn HXn
      go_wp2_with (go_at_call 101;refine (impl_isWord.calls v false _ HQ2.out).mono ?_;rintro e w4 ⟨rfl,hd⟩;have hb:=hd.below;have HBn:=aK (below_step HB.out hb);have HXn:=aK ((hb.block _ (blk_lt HX.out)).trans HX.out);clear hd hb HB HX;have HB:=HBn;have HX:=HXn;clear HBn HXn)
      go_ret;exact ⟨by rw [←HZ.out];rfl,HB.out⟩
     |true=>
      have HZ:=aK (show wordsOk.l q m at_ n j1 k1=some r by have:=HH.out;rw [if_pos rfl] at this;exact this);clear HH;have b0:=(blk_cell HX.out 0).trans rfl;have b1:=(blk_cell HX.out 1).trans rfl
      go_wp2_with fail
      go_at_call 86;refine (thing_first.calls g m at_ a _ (MV_below HM.out HB.out) HFi.out).mono ?_;rintro e w2 ⟨rfl,hb⟩;clear b0 b1;have HBn:=aK (below_step HB.out hb);have HXn:=aK ((hb.block _ (blk_lt HX.out)).trans HX.out);clear hb HB HX;have HB:=HBn;have HX:=HXn;clear HBn HXn;have b0:=(blk_cell HX.out 0).trans rfl;have b1:=(blk_cell HX.out 1).trans rfl;obtain ⟨AW,cW,AC,cC,AF,cF,AB,cB,h0,hW,hC,_⟩:=MV_below HM.out HB.out;obtain ⟨ad,e0,hcell⟩:=Kd.at_int hW x (by have:=HXw.out;omega) (by have:=HXw.out;omega)
      cases e0
      rw [←HV.out] at hcell;have g0:=(blk_cell h0 0).trans rfl;have G0:=aK h0;have HCc:=aK hC;clear h0 hW hC
      go_wp2_with fail
      go_at_call 85;refine (thing_leads.calls g m at_ k false _ (MV_below HM.out HB.out) HLe.out).mono ?_;rintro e w3 ⟨rfl,hb⟩;clear b0 b1 hcell g0;have G0n:=aK ((hb.block _ (blk_lt G0.out)).trans G0.out);have HCn:=aK (Kd.C_below HCc.out hb);clear G0 HCc;have G0:=G0n;have HCc:=HCn;clear G0n HCn;have HBn:=aK (below_step HB.out hb);have HXn:=aK ((hb.block _ (blk_lt HX.out)).trans HX.out);clear hb HB HX;have HB:=HBn;have HX:=HXn;clear HBn HXn
      go_wp2_with (go_at_call 101;refine (impl_isWord.calls v true _ HQ2.out).mono ?_;rintro e w4 ⟨rfl,hd⟩;have hb:=hd.below;have HBn:=aK (below_step HB.out hb);have HXn:=aK ((hb.block _ (blk_lt HX.out)).trans HX.out);clear hd hb HB HX;have HB:=HBn;have HX:=HXn;clear HBn HXn)
      go_roundw
      case rel=>exact ⟨j1,k1,rfl,HZ,⟨by have:=HK1.out;have:=HK.out;omega⟩,HX,HB⟩
      case measure=>have:=HK1.out;have:=HC0.out;have:=HK.out;show (n - k1).toNat<(n - k).toNat;omega
    | true =>
     have hq:=HQ.out;rw [if_pos rfl] at hq;by_cases c1:v=0
     ·rw [if_pos c1] at hq
      have e1:(v !=0)=false:=by rw [c1];rfl
      have HQ2:=aK (Option.some.inj hq);clear hq HQ c1;obtain rfl:=HQ2.out;have HZ:=aK (show wordsOk.l q m at_ n j1 k1=some r by have:=HH.out;rw [if_pos rfl] at this;exact this);clear HH;have b0:=(blk_cell HX.out 0).trans rfl;have b1:=(blk_cell HX.out 1).trans rfl
      go_wp2_with fail
      go_at_call 86;refine (thing_first.calls g m at_ a _ (MV_below HM.out HB.out) HFi.out).mono ?_;rintro e w2 ⟨rfl,hb⟩;clear b0 b1;have HBn:=aK (below_step HB.out hb);have HXn:=aK ((hb.block _ (blk_lt HX.out)).trans HX.out);clear hb HB HX;have HB:=HBn;have HX:=HXn;clear HBn HXn;have b0:=(blk_cell HX.out 0).trans rfl;have b1:=(blk_cell HX.out 1).trans rfl;obtain ⟨AW,cW,AC,cC,AF,cF,AB,cB,h0,hW,hC,_⟩:=MV_below HM.out HB.out;obtain ⟨ad,e0,hcell⟩:=Kd.at_int hW x (by have:=HXw.out;omega) (by have:=HXw.out;omega)
      cases e0
      rw [←HV.out] at hcell;have g0:=(blk_cell h0 0).trans rfl;have G0:=aK h0;have HCc:=aK hC;clear h0 hW hC
      go_wp2_with fail
      go_at_call 85;refine (thing_leads.calls g m at_ k true _ (MV_below HM.out HB.out) HLe.out).mono ?_;rintro e w3 ⟨rfl,hb⟩;clear b0 b1 hcell g0;have G0n:=aK ((hb.block _ (blk_lt G0.out)).trans G0.out);have HCn:=aK (Kd.C_below HCc.out hb);clear G0 HCc;have G0:=G0n;have HCc:=HCn;clear G0n HCn;have HBn:=aK (below_step HB.out hb);have HXn:=aK ((hb.block _ (blk_lt HX.out)).trans HX.out);clear hb HB HX;have HB:=HBn;have HX:=HXn;clear HBn HXn;go_wp2
      go_roundw
      case rel=>exact ⟨j1,k1,rfl,HZ,⟨by have:=HK1.out;have:=HK.out;omega⟩,HX,HB⟩
      case measure=>have:=HK1.out;have:=HC0.out;have:=HK.out;show (n - k1).toNat<(n - k).toNat;omega
     rw [if_neg c1] at hq;have e1:(v !=0)=true:=bne_iff_ne.mpr c1
     obtain ⟨h,hh,hq⟩:=Option.bind_eq_some_iff.mp hq;have HHa:=aK hh;clear hh c1 HQ
     cases h with
     |false=>
      rw [if_neg (by simp)] at hq;have HQ2:=aK (Option.some.inj hq);clear hq;obtain rfl:=HQ2.out;have HZ:=aK (show false=r by have:=HH.out;rw [if_neg (by simp)] at this;exact Option.some.inj this);clear HH;have b0:=(blk_cell HX.out 0).trans rfl;have b1:=(blk_cell HX.out 1).trans rfl
      go_wp2_with fail
      go_at_call 86;refine (thing_first.calls g m at_ a _ (MV_below HM.out HB.out) HFi.out).mono ?_;rintro e w2 ⟨rfl,hb⟩;clear b0 b1;have HBn:=aK (below_step HB.out hb);have HXn:=aK ((hb.block _ (blk_lt HX.out)).trans HX.out);clear hb HB HX;have HB:=HBn;have HX:=HXn;clear HBn HXn;have b0:=(blk_cell HX.out 0).trans rfl;have b1:=(blk_cell HX.out 1).trans rfl;obtain ⟨AW,cW,AC,cC,AF,cF,AB,cB,h0,hW,hC,_⟩:=MV_below HM.out HB.out;obtain ⟨ad,e0,hcell⟩:=Kd.at_int hW x (by have:=HXw.out;omega) (by have:=HXw.out;omega)
      cases e0
      rw [←HV.out] at hcell;have g0:=(blk_cell h0 0).trans rfl;have G0:=aK h0;have HCc:=aK hC;clear h0 hW hC
      go_wp2_with fail
      go_at_call 85;refine (thing_leads.calls g m at_ k true _ (MV_below HM.out HB.out) HLe.out).mono ?_;rintro e w3 ⟨rfl,hb⟩;clear b0 b1 hcell g0;have G0n:=aK ((hb.block _ (blk_lt G0.out)).trans G0.out);have HCn:=aK (Kd.C_below HCc.out hb);clear G0 HCc;have G0:=G0n;have HCc:=HCn;clear G0n HCn;have HBn:=aK (below_step HB.out hb);have HXn:=aK ((hb.block _ (blk_lt HX.out)).trans HX.out);clear hb HB HX;have HB:=HBn;have HX:=HXn;clear HBn HXn;have b0:=(blk_cell HX.out 0).trans rfl;have b1:=(blk_cell HX.out 1).trans rfl
      go_wp2_with (go_at_call 78;refine (memory_has.calls q g m v false _ (MV_below HM.out HB.out) HHa.out).mono ?_;rintro e w5 ⟨rfl,hd⟩;have hb:=hd.below;have HBn:=aK (below_step HB.out hb);have HXn:=aK ((hb.block _ (blk_lt HX.out)).trans HX.out);have G0n:=aK ((hb.block _ (blk_lt G0.out)).trans G0.out);have HCn:=aK (Kd.C_below HCc.out hb);clear hd hb HB HX G0 HCc b0 b1;have HB:=HBn;have HX:=HXn;have G0:=G0n;have HCc:=HCn;clear HBn HXn G0n HCn)
      go_ret;exact ⟨by rw [←HZ.out];rfl,HB.out⟩
     | true =>
      rw [if_pos rfl] at hq;unfold cardOk at hq;by_cases c2:at_>m.young
      ·rw [if_pos c2] at hq
       have O1:=aK (decide_eq_true c2);clear c2;by_cases c3:v>m.young
       ·rw [if_pos c3] at hq
        have O2:=aK (decide_eq_true c3);have HQ2:=aK (Option.some.inj hq);clear hq c3;obtain rfl:=HQ2.out;have HZ:=aK (show wordsOk.l q m at_ n j1 k1=some r by have:=HH.out;rw [if_pos rfl] at this;exact this);clear HH;have b0:=(blk_cell HX.out 0).trans rfl;have b1:=(blk_cell HX.out 1).trans rfl
        go_wp2_with fail
        go_at_call 86;refine (thing_first.calls g m at_ a _ (MV_below HM.out HB.out) HFi.out).mono ?_;rintro e w2 ⟨rfl,hb⟩;clear b0 b1;have HBn:=aK (below_step HB.out hb);have HXn:=aK ((hb.block _ (blk_lt HX.out)).trans HX.out);clear hb HB HX;have HB:=HBn;have HX:=HXn;clear HBn HXn;have b0:=(blk_cell HX.out 0).trans rfl;have b1:=(blk_cell HX.out 1).trans rfl;obtain ⟨AW,cW,AC,cC,AF,cF,AB,cB,h0,hW,hC,_⟩:=MV_below HM.out HB.out;obtain ⟨ad,e0,hcell⟩:=Kd.at_int hW x (by have:=HXw.out;omega) (by have:=HXw.out;omega)
        cases e0
        rw [←HV.out] at hcell;have g0:=(blk_cell h0 0).trans rfl;have G0:=aK h0;have HCc:=aK hC;clear h0 hW hC
        go_wp2_with fail
        go_at_call 85;refine (thing_leads.calls g m at_ k true _ (MV_below HM.out HB.out) HLe.out).mono ?_;rintro e w3 ⟨rfl,hb⟩;clear b0 b1 hcell g0;have G0n:=aK ((hb.block _ (blk_lt G0.out)).trans G0.out);have HCn:=aK (Kd.C_below HCc.out hb);clear G0 HCc;have G0:=G0n;have HCc:=HCn;clear G0n HCn;have HBn:=aK (below_step HB.out hb);have HXn:=aK ((hb.block _ (blk_lt HX.out)).trans HX.out);clear hb HB HX;have HB:=HBn;have HX:=HXn;clear HBn HXn;have b0:=(blk_cell HX.out 0).trans rfl;have b1:=(blk_cell HX.out 1).trans rfl
        go_wp2_with (go_at_call 78;refine (memory_has.calls q g m v true _ (MV_below HM.out HB.out) HHa.out).mono ?_;rintro e w5 ⟨rfl,hd⟩;have hb:=hd.below;have HBn:=aK (below_step HB.out hb);have HXn:=aK ((hb.block _ (blk_lt HX.out)).trans HX.out);have G0n:=aK ((hb.block _ (blk_lt G0.out)).trans G0.out);have HCn:=aK (Kd.C_below HCc.out hb);clear hd hb HB HX G0 HCc b0 b1;have HB:=HBn;have HX:=HXn;have G0:=G0n;have HCc:=HCn;clear HBn HXn G0n HCn;have b0:=(blk_cell HX.out 0).trans rfl;have b1:=(blk_cell HX.out 1).trans rfl;have g0:=(blk_cell G0.out 0).trans rfl;have g1:=(blk_cell G0.out 1).trans rfl;have g2:=(blk_cell G0.out 2).trans rfl;have g3:=(blk_cell G0.out 3).trans rfl;have g4:=(blk_cell G0.out 4).trans rfl;have HM1:=aK (MV_below HM.out HB.out);try clear HCc)
        refine sT 36 (S:=fun w'=>Aside0 (Below w.heap.size w w')∧Aside0 (MV w' g (m))∧Aside0 (w'.heap[w.heap.size]? =some (.cells #[.pointer (some ⟨g,0,none⟩),.int .i64 at_] 102 (0,0)))∧w'.cell? (⟨w.heap.size,0,none⟩)=some (.pointer (some ⟨g,0,none⟩))∧w'.cell? (⟨w.heap.size,1,none⟩)=some (.int .i64 at_)∧w'.cell? (⟨g,0,none⟩)=some (.slice (some ad) m.words.length cW)∧w'.cell? (⟨g,1,none⟩)=some (.int .i64 m.young)∧w'.cell? (⟨g,2,none⟩)=some (.int .i64 m.top)∧w'.cell? (⟨g,3,none⟩)=some (.int .i64 m.old)∧w'.cell? (⟨g,4,none⟩)=some (.slice AC m.cards.length cC)) (ds:=[]) ⟨⟨below_drew1 HB.out⟩,⟨MV_below HM1.out (below_drew1 (Below.refl _ _))⟩,⟨blk_drew HX.out⟩,(by go_simp),(by go_simp),(by go_simp),(by go_simp),(by go_simp),(by go_simp),(by go_simp)⟩ (fun hHeld=>?_);refine pS 0 40 (lA 36 1) ?_;refine pS 5 45 (lA 36 33) ?_;refine tS 1 41 (lA 36 35) rfl rfl (by kernel_rfl) hHeld zz45 ?_;refine pS 2 42 (lA 36 39) ?_;refine pS 3 43 (lA 36 47) ?_;refine tS 4 44 (lA 36 63) rfl rfl (by kernel_rfl) hHeld zz45 ?_;refine tS 6 46 (lA 36 127) rfl rfl (by kernel_rfl) hHeld zz45 ?_;refine oS 7 47 (lA 36 255) rfl rfl (fun K hK=>?_);refine gO Try.func81 #[.agg #[.slice (some ad) m.words.length cW,.int .i64 m.young,.int .i64 m.top,.int .i64 m.old,.slice AC m.cards.length cC],.int .i64 at_] ?_;(with_reducible refine (Mem_isOld.calls (some ad) m.words.length cW m.young m.top m.old AC m.cards.length cC at_ true _ O1.out).mono ?_);rintro e w9 ⟨rfl,hb3⟩;refine ⟨_,rfl,?_⟩;refine hK.out _ _ ⟨⟨below_step hHeld.1.out hb3⟩,⟨MV_below hHeld.2.1.out hb3⟩,⟨(hb3.block _ (blk_lt hHeld.2.2.1.out)).trans hHeld.2.2.1.out⟩,(pw_cell_below hb3 hHeld.2.2.2.1),(pw_cell_below hb3 hHeld.2.2.2.2.1),(pw_cell_below hb3 hHeld.2.2.2.2.2.1),(pw_cell_below hb3 hHeld.2.2.2.2.2.2.1),(pw_cell_below hb3 hHeld.2.2.2.2.2.2.2.1),(pw_cell_below hb3 hHeld.2.2.2.2.2.2.2.2.1),(pw_cell_below hb3 hHeld.2.2.2.2.2.2.2.2.2)⟩ (fun hHeld=>?_);clear hK K;refine nS 47 ?_;refine pS 8 48 (lA 36 511) ?_;refine pS 9 49 (lA 36 1023) ?_;refine pS 14 54 (lA 36 17407) ?_;refine tS 10 50 (lA 36 18431) rfl rfl (by kernel_rfl) hHeld zz45 ?_;refine pS 11 51 (lA 36 20479) ?_;refine pS 12 52 (lA 36 24575) ?_;refine tS 13 53 (lA 36 32767) rfl rfl (by kernel_rfl) hHeld zz45 ?_;refine oS 15 55 (lA 36 65535) rfl rfl (fun K hK=>?_);refine gO Try.func81 #[.agg #[.slice (some ad) m.words.length cW,.int .i64 m.young,.int .i64 m.top,.int .i64 m.old,.slice AC m.cards.length cC],.int .i64 v] ?_;(with_reducible refine (Mem_isOld.calls (some ad) m.words.length cW m.young m.top m.old AC m.cards.length cC v true _ O2.out).mono ?_);rintro e w9 ⟨rfl,hb3⟩;refine ⟨_,rfl,?_⟩;refine hK.out _ _ ⟨⟨below_step hHeld.1.out hb3⟩,⟨MV_below hHeld.2.1.out hb3⟩,⟨(hb3.block _ (blk_lt hHeld.2.2.1.out)).trans hHeld.2.2.1.out⟩,(pw_cell_below hb3 hHeld.2.2.2.1),(pw_cell_below hb3 hHeld.2.2.2.2.1),(pw_cell_below hb3 hHeld.2.2.2.2.2.1),(pw_cell_below hb3 hHeld.2.2.2.2.2.2.1),(pw_cell_below hb3 hHeld.2.2.2.2.2.2.2.1),(pw_cell_below hb3 hHeld.2.2.2.2.2.2.2.2.1),(pw_cell_below hb3 hHeld.2.2.2.2.2.2.2.2.2)⟩ (fun hHeld=>?_);clear hK K;refine nS 55 ?_;refine pS 16 56 (lA 36 131071) ?_;refine pS 17 57 (lA 36 262143) ?_;refine pS 18 58 (lA 36 524287) ?_;refine pU 19 59 (lA 36 1048575) ?_;refine pU 20 60 (lA 36 2097151) ?_;refine pU 21 61 (lA 36 4194303) ?_;refine pU 22 62 (lA 36 8388607) ?_;refine pU 23 63 (lA 36 16777215) ?_;refine pU 24 64 (lA 36 33554431) ?_;refine pU 25 65 (lA 36 67108863) ?_;refine pU 26 66 (lA 36 134217727) ?_;refine pU 27 67 (lA 36 268435455) ?_;refine pU 28 68 (lA 36 536870911) ?_;refine pU 29 69 (lA 36 1073741823) ?_;refine pU 30 70 (lA 36 2147483647) ?_;refine pU 31 71 (lA 36 4294967295) ?_;refine pU 32 72 (lA 36 8589934591) ?_;refine pU 33 73 (lA 36 17179869183) ?_;refine pU 34 74 (lA 36 34359738367) ?_;refine pS 35 75 (lA 36 68719476735) ?_;refine done_ (by kernel_rfl) ?_;have HBn:=hHeld.1;have HXn:=hHeld.2.2.1
        clear hHeld HB HX;have HB:=HBn;have HX:=HXn;clear HBn HXn;go_wp2
        go_roundw
        case rel=>exact ⟨j1,k1,rfl,HZ,⟨by have:=HK1.out;have:=HK.out;omega⟩,HX,HB⟩
        case measure=>have:=HK1.out;have:=HC0.out;have:=HK.out;show (n - k1).toNat<(n - k).toNat;omega
       ·rw [if_neg c3] at hq
        have O2:=aK (decide_eq_false c3);clear c3;obtain ⟨cj,hcj⟩: ∃cj,cj=wrap64 (x - m.young):=⟨_,rfl⟩;obtain ⟨ci,hci⟩: ∃ci,ci=wrap64 (Int.tdiv cj 4):=⟨_,rfl⟩;rw [←hcj,←hci] at hq;have O3:=aK (show IntKind.i64.wrap (x - m.young)=cj by rw [hcj,i64_w]);have O4:=aK (show wrap64 (Int.tdiv cj 4)=ci from hci.symm);clear hcj hci
        split at hq
        case isFalse=>simp at hq
        case isTrue ht=>
        have t1:=eq_true ht.1;have t2:=eq_true ht.2;obtain ⟨cv,hcv⟩: ∃cv,cv=rdOf false m.cards ci:=⟨_,rfl⟩;rw [←hcv] at hq;have O5:=aK hcv.symm;have HQ2:=aK (Option.some.inj hq);clear hq ht hcv;obtain rfl:=HQ2.out
        cases cv with
        |false=>
         have HZ:=aK (show false=r by have:=HH.out;rw [if_neg (by simp)] at this;exact Option.some.inj this);clear HH;have b0:=(blk_cell HX.out 0).trans rfl;have b1:=(blk_cell HX.out 1).trans rfl
         go_wp2_with fail
         go_at_call 86;refine (thing_first.calls g m at_ a _ (MV_below HM.out HB.out) HFi.out).mono ?_;rintro e w2 ⟨rfl,hb⟩;clear b0 b1;have HBn:=aK (below_step HB.out hb);have HXn:=aK ((hb.block _ (blk_lt HX.out)).trans HX.out);clear hb HB HX;have HB:=HBn;have HX:=HXn;clear HBn HXn;have b0:=(blk_cell HX.out 0).trans rfl;have b1:=(blk_cell HX.out 1).trans rfl;obtain ⟨AW,cW,AC,cC,AF,cF,AB,cB,h0,hW,hC,_⟩:=MV_below HM.out HB.out;obtain ⟨ad,e0,hcell⟩:=Kd.at_int hW x (by have:=HXw.out;omega) (by have:=HXw.out;omega)
         cases e0
         rw [←HV.out] at hcell;have g0:=(blk_cell h0 0).trans rfl;have G0:=aK h0;have HCc:=aK hC;clear h0 hW hC
         go_wp2_with fail
         go_at_call 85;refine (thing_leads.calls g m at_ k true _ (MV_below HM.out HB.out) HLe.out).mono ?_;rintro e w3 ⟨rfl,hb⟩;clear b0 b1 hcell g0;have G0n:=aK ((hb.block _ (blk_lt G0.out)).trans G0.out);have HCn:=aK (Kd.C_below HCc.out hb);clear G0 HCc;have G0:=G0n;have HCc:=HCn;clear G0n HCn;have HBn:=aK (below_step HB.out hb);have HXn:=aK ((hb.block _ (blk_lt HX.out)).trans HX.out);clear hb HB HX;have HB:=HBn;have HX:=HXn;clear HBn HXn;have b0:=(blk_cell HX.out 0).trans rfl;have b1:=(blk_cell HX.out 1).trans rfl
         go_wp2_with (go_at_call 78;refine (memory_has.calls q g m v true _ (MV_below HM.out HB.out) HHa.out).mono ?_;rintro e w5 ⟨rfl,hd⟩;have hb:=hd.below;have HBn:=aK (below_step HB.out hb);have HXn:=aK ((hb.block _ (blk_lt HX.out)).trans HX.out);have G0n:=aK ((hb.block _ (blk_lt G0.out)).trans G0.out);have HCn:=aK (Kd.C_below HCc.out hb);clear hd hb HB HX G0 HCc b0 b1;have HB:=HBn;have HX:=HXn;have G0:=G0n;have HCc:=HCn;clear HBn HXn G0n HCn;have b0:=(blk_cell HX.out 0).trans rfl;have b1:=(blk_cell HX.out 1).trans rfl;have g0:=(blk_cell G0.out 0).trans rfl;have g1:=(blk_cell G0.out 1).trans rfl;have g2:=(blk_cell G0.out 2).trans rfl;have g3:=(blk_cell G0.out 3).trans rfl;have g4:=(blk_cell G0.out 4).trans rfl;have HM1:=aK (MV_below HM.out HB.out);obtain ⟨ad4,e4,hc4⟩:=Kd.at_bool HCc.out ci (of_eq_true t1) (of_eq_true t2);cases e4;rw [O5.out] at hc4;try clear HCc)
         refine sT 36 (S:=fun w'=>Aside0 (Below w.heap.size w w')∧Aside0 (MV w' g (m))∧Aside0 (w'.heap[w.heap.size]? =some (.cells #[.pointer (some ⟨g,0,none⟩),.int .i64 at_] 102 (0,0)))∧w'.cell? (⟨w.heap.size,0,none⟩)=some (.pointer (some ⟨g,0,none⟩))∧w'.cell? (⟨w.heap.size,1,none⟩)=some (.int .i64 at_)∧w'.cell? (⟨g,0,none⟩)=some (.slice (some ad) m.words.length cW)∧w'.cell? (⟨g,1,none⟩)=some (.int .i64 m.young)∧w'.cell? (⟨g,2,none⟩)=some (.int .i64 m.top)∧w'.cell? (⟨g,3,none⟩)=some (.int .i64 m.old)∧w'.cell? (⟨g,4,none⟩)=some (.slice (some ad4) m.cards.length cC)∧w'.cell? (ad4.add ci.toNat)=some (.bool false)) (ds:=[]) ⟨⟨below_drew1 HB.out⟩,⟨MV_below HM1.out (below_drew1 (Below.refl _ _))⟩,⟨blk_drew HX.out⟩,(by go_simp),(by go_simp),(by go_simp),(by go_simp),(by go_simp),(by go_simp),(by go_simp),(by go_simp)⟩ (fun hHeld=>?_);refine pS 0 40 (lA 36 1) ?_;refine pS 5 45 (lA 36 33) ?_;refine tS 1 41 (lA 36 35) rfl rfl (by kernel_rfl) hHeld zz15 ?_;refine pS 2 42 (lA 36 39) ?_;refine pS 3 43 (lA 36 47) ?_;refine tS 4 44 (lA 36 63) rfl rfl (by kernel_rfl) hHeld zz15 ?_;refine tS 6 46 (lA 36 127) rfl rfl (by kernel_rfl) hHeld zz15 ?_;refine oS 7 47 (lA 36 255) rfl rfl (fun K hK=>?_);refine gO Try.func81 #[.agg #[.slice (some ad) m.words.length cW,.int .i64 m.young,.int .i64 m.top,.int .i64 m.old,.slice (some ad4) m.cards.length cC],.int .i64 at_] ?_;(with_reducible refine (Mem_isOld.calls (some ad) m.words.length cW m.young m.top m.old (some ad4) m.cards.length cC at_ true _ O1.out).mono ?_);rintro e w9 ⟨rfl,hb3⟩;refine ⟨_,rfl,?_⟩;refine hK.out _ _ ⟨⟨below_step hHeld.1.out hb3⟩,⟨MV_below hHeld.2.1.out hb3⟩,⟨(hb3.block _ (blk_lt hHeld.2.2.1.out)).trans hHeld.2.2.1.out⟩,(pw_cell_below hb3 hHeld.2.2.2.1),(pw_cell_below hb3 hHeld.2.2.2.2.1),(pw_cell_below hb3 hHeld.2.2.2.2.2.1),(pw_cell_below hb3 hHeld.2.2.2.2.2.2.1),(pw_cell_below hb3 hHeld.2.2.2.2.2.2.2.1),(pw_cell_below hb3 hHeld.2.2.2.2.2.2.2.2.1),(pw_cell_below hb3 hHeld.2.2.2.2.2.2.2.2.2.1),(pw_cell_below hb3 hHeld.2.2.2.2.2.2.2.2.2.2)⟩ (fun hHeld=>?_);clear hK K;refine nS 47 ?_;refine pS 8 48 (lA 36 511) ?_;refine pS 9 49 (lA 36 1023) ?_;refine pS 14 54 (lA 36 17407) ?_;refine tS 10 50 (lA 36 18431) rfl rfl (by kernel_rfl) hHeld zz15 ?_;refine pS 11 51 (lA 36 20479) ?_;refine pS 12 52 (lA 36 24575) ?_;refine tS 13 53 (lA 36 32767) rfl rfl (by kernel_rfl) hHeld zz15 ?_;refine oS 15 55 (lA 36 65535) rfl rfl (fun K hK=>?_);refine gO Try.func81 #[.agg #[.slice (some ad) m.words.length cW,.int .i64 m.young,.int .i64 m.top,.int .i64 m.old,.slice (some ad4) m.cards.length cC],.int .i64 v] ?_;(with_reducible refine (Mem_isOld.calls (some ad) m.words.length cW m.young m.top m.old (some ad4) m.cards.length cC v false _ O2.out).mono ?_);rintro e w9 ⟨rfl,hb3⟩;refine ⟨_,rfl,?_⟩;refine hK.out _ _ ⟨⟨below_step hHeld.1.out hb3⟩,⟨MV_below hHeld.2.1.out hb3⟩,⟨(hb3.block _ (blk_lt hHeld.2.2.1.out)).trans hHeld.2.2.1.out⟩,(pw_cell_below hb3 hHeld.2.2.2.1),(pw_cell_below hb3 hHeld.2.2.2.2.1),(pw_cell_below hb3 hHeld.2.2.2.2.2.1),(pw_cell_below hb3 hHeld.2.2.2.2.2.2.1),(pw_cell_below hb3 hHeld.2.2.2.2.2.2.2.1),(pw_cell_below hb3 hHeld.2.2.2.2.2.2.2.2.1),(pw_cell_below hb3 hHeld.2.2.2.2.2.2.2.2.2.1),(pw_cell_below hb3 hHeld.2.2.2.2.2.2.2.2.2.2)⟩ (fun hHeld=>?_);clear hK K;refine nS 55 ?_;refine pS 16 56 (lA 36 131071) ?_;refine pS 17 57 (lA 36 262143) ?_;refine pS 18 58 (lA 36 524287) ?_;refine pS 19 59 (lA 36 1048575) ?_;refine pS 25 65 (lA 36 34603007) ?_;refine pS 30 70 (lA 36 1108344831) ?_;refine tS 20 60 (lA 36 1109393407) rfl rfl (by kernel_rfl) hHeld zz15 ?_;refine pS 21 61 (lA 36 1111490559) ?_;refine pS 22 62 (lA 36 1115684863) ?_;refine pS 23 63 (lA 36 1124073471) ?_;refine tS 24 64 (lA 36 1140850687) rfl rfl (by kernel_rfl) hHeld zz15 ?_;refine tS 26 66 (lA 36 1207959551) rfl rfl (by kernel_rfl) hHeld zz15 ?_;refine pS 27 67 (lA 36 1342177279) ?_
         refine pS 28 68 (lA 36 1610612735) ?_;refine tS 29 69 (lA 36 2147483647) rfl rfl (by kernel_rfl) hHeld zz15 ?_;refine oS 31 71 (lA 36 4294967295) rfl rfl (fun K hK=>?_);refine gO Try.func57 #[.agg #[.slice (some ad) m.words.length cW,.int .i64 m.young,.int .i64 m.top,.int .i64 m.old,.slice (some ad4) m.cards.length cC],.int .i64 x] ?_;(with_reducible refine (Mem_card.calls (some ad) m.words.length cW m.young m.top m.old (some ad4) m.cards.length cC x cj ci _ O3.out O4.out).mono ?_);rintro e w9 ⟨rfl,hb3⟩;refine ⟨_,rfl,?_⟩;refine hK.out _ _ ⟨⟨below_step hHeld.1.out hb3⟩,⟨MV_below hHeld.2.1.out hb3⟩,⟨(hb3.block _ (blk_lt hHeld.2.2.1.out)).trans hHeld.2.2.1.out⟩,(pw_cell_below hb3 hHeld.2.2.2.1),(pw_cell_below hb3 hHeld.2.2.2.2.1),(pw_cell_below hb3 hHeld.2.2.2.2.2.1),(pw_cell_below hb3 hHeld.2.2.2.2.2.2.1),(pw_cell_below hb3 hHeld.2.2.2.2.2.2.2.1),(pw_cell_below hb3 hHeld.2.2.2.2.2.2.2.2.1),(pw_cell_below hb3 hHeld.2.2.2.2.2.2.2.2.2.1),(pw_cell_below hb3 hHeld.2.2.2.2.2.2.2.2.2.2)⟩ (fun hHeld=>?_);clear hK K;refine nS 71 ?_;refine pS 32 72 (lA 36 8589934591) ?_;refine tS 33 73 (lA 36 17179869183) rfl rfl (by kernel_rfl) hHeld zz15 ?_;refine pS 34 74 (lA 36 34359738367) ?_;refine pS 35 75 (lA 36 68719476735) ?_;refine done_ (by kernel_rfl) ?_;have HBn:=hHeld.1;have HXn:=hHeld.2.2.1;clear hHeld HB HX;have HB:=HBn;have HX:=HXn;clear HBn HXn;go_wp2;go_ret;exact ⟨by rw [←HZ.out];rfl,HB.out⟩
        |true=>
         have HZ:=aK (show wordsOk.l q m at_ n j1 k1=some r by have:=HH.out;rw [if_pos rfl] at this;exact this);clear HH;have b0:=(blk_cell HX.out 0).trans rfl;have b1:=(blk_cell HX.out 1).trans rfl
         go_wp2_with fail
         go_at_call 86;refine (thing_first.calls g m at_ a _ (MV_below HM.out HB.out) HFi.out).mono ?_;rintro e w2 ⟨rfl,hb⟩;clear b0 b1;have HBn:=aK (below_step HB.out hb);have HXn:=aK ((hb.block _ (blk_lt HX.out)).trans HX.out);clear hb HB HX;have HB:=HBn;have HX:=HXn;clear HBn HXn;have b0:=(blk_cell HX.out 0).trans rfl;have b1:=(blk_cell HX.out 1).trans rfl;obtain ⟨AW,cW,AC,cC,AF,cF,AB,cB,h0,hW,hC,_⟩:=MV_below HM.out HB.out;obtain ⟨ad,e0,hcell⟩:=Kd.at_int hW x (by have:=HXw.out;omega) (by have:=HXw.out;omega)
         cases e0
         rw [←HV.out] at hcell;have g0:=(blk_cell h0 0).trans rfl;have G0:=aK h0;have HCc:=aK hC;clear h0 hW hC
         go_wp2_with fail
         go_at_call 85;refine (thing_leads.calls g m at_ k true _ (MV_below HM.out HB.out) HLe.out).mono ?_;rintro e w3 ⟨rfl,hb⟩;clear b0 b1 hcell g0;have G0n:=aK ((hb.block _ (blk_lt G0.out)).trans G0.out);have HCn:=aK (Kd.C_below HCc.out hb);clear G0 HCc;have G0:=G0n;have HCc:=HCn;clear G0n HCn;have HBn:=aK (below_step HB.out hb);have HXn:=aK ((hb.block _ (blk_lt HX.out)).trans HX.out);clear hb HB HX;have HB:=HBn;have HX:=HXn;clear HBn HXn;have b0:=(blk_cell HX.out 0).trans rfl;have b1:=(blk_cell HX.out 1).trans rfl
         go_wp2_with (go_at_call 78;refine (memory_has.calls q g m v true _ (MV_below HM.out HB.out) HHa.out).mono ?_;rintro e w5 ⟨rfl,hd⟩;have hb:=hd.below;have HBn:=aK (below_step HB.out hb);have HXn:=aK ((hb.block _ (blk_lt HX.out)).trans HX.out);have G0n:=aK ((hb.block _ (blk_lt G0.out)).trans G0.out);have HCn:=aK (Kd.C_below HCc.out hb);clear hd hb HB HX G0 HCc b0 b1;have HB:=HBn;have HX:=HXn;have G0:=G0n;have HCc:=HCn;clear HBn HXn G0n HCn;have b0:=(blk_cell HX.out 0).trans rfl;have b1:=(blk_cell HX.out 1).trans rfl;have g0:=(blk_cell G0.out 0).trans rfl;have g1:=(blk_cell G0.out 1).trans rfl;have g2:=(blk_cell G0.out 2).trans rfl;have g3:=(blk_cell G0.out 3).trans rfl;have g4:=(blk_cell G0.out 4).trans rfl;have HM1:=aK (MV_below HM.out HB.out);obtain ⟨ad4,e4,hc4⟩:=Kd.at_bool HCc.out ci (of_eq_true t1) (of_eq_true t2);cases e4;rw [O5.out] at hc4;try clear HCc)
         refine sT 36 (S:=fun w'=>Aside0 (Below w.heap.size w w')∧Aside0 (MV w' g (m))∧Aside0 (w'.heap[w.heap.size]? =some (.cells #[.pointer (some ⟨g,0,none⟩),.int .i64 at_] 102 (0,0)))∧w'.cell? (⟨w.heap.size,0,none⟩)=some (.pointer (some ⟨g,0,none⟩))∧w'.cell? (⟨w.heap.size,1,none⟩)=some (.int .i64 at_)∧w'.cell? (⟨g,0,none⟩)=some (.slice (some ad) m.words.length cW)∧w'.cell? (⟨g,1,none⟩)=some (.int .i64 m.young)∧w'.cell? (⟨g,2,none⟩)=some (.int .i64 m.top)∧w'.cell? (⟨g,3,none⟩)=some (.int .i64 m.old)∧w'.cell? (⟨g,4,none⟩)=some (.slice (some ad4) m.cards.length cC)∧w'.cell? (ad4.add ci.toNat)=some (.bool true)) (ds:=[]) ⟨⟨below_drew1 HB.out⟩,⟨MV_below HM1.out (below_drew1 (Below.refl _ _))⟩,⟨blk_drew HX.out⟩,(by go_simp),(by go_simp),(by go_simp),(by go_simp),(by go_simp),(by go_simp),(by go_simp),(by go_simp)⟩ (fun hHeld=>?_);refine pS 0 40 (lA 36 1) ?_;refine pS 5 45 (lA 36 33) ?_;refine tS 1 41 (lA 36 35) rfl rfl (by kernel_rfl) hHeld zz15 ?_;refine pS 2 42 (lA 36 39) ?_;refine pS 3 43 (lA 36 47) ?_;refine tS 4 44 (lA 36 63) rfl rfl (by kernel_rfl) hHeld zz15 ?_;refine tS 6 46 (lA 36 127) rfl rfl (by kernel_rfl) hHeld zz15 ?_;refine oS 7 47 (lA 36 255) rfl rfl (fun K hK=>?_);refine gO Try.func81 #[.agg #[.slice (some ad) m.words.length cW,.int .i64 m.young,.int .i64 m.top,.int .i64 m.old,.slice (some ad4) m.cards.length cC],.int .i64 at_] ?_;(with_reducible refine (Mem_isOld.calls (some ad) m.words.length cW m.young m.top m.old (some ad4) m.cards.length cC at_ true _ O1.out).mono ?_);rintro e w9 ⟨rfl,hb3⟩;refine ⟨_,rfl,?_⟩;refine hK.out _ _ ⟨⟨below_step hHeld.1.out hb3⟩,⟨MV_below hHeld.2.1.out hb3⟩,⟨(hb3.block _ (blk_lt hHeld.2.2.1.out)).trans hHeld.2.2.1.out⟩,(pw_cell_below hb3 hHeld.2.2.2.1),(pw_cell_below hb3 hHeld.2.2.2.2.1),(pw_cell_below hb3 hHeld.2.2.2.2.2.1),(pw_cell_below hb3 hHeld.2.2.2.2.2.2.1),(pw_cell_below hb3 hHeld.2.2.2.2.2.2.2.1),(pw_cell_below hb3 hHeld.2.2.2.2.2.2.2.2.1),(pw_cell_below hb3 hHeld.2.2.2.2.2.2.2.2.2.1),(pw_cell_below hb3 hHeld.2.2.2.2.2.2.2.2.2.2)⟩ (fun hHeld=>?_);clear hK K;refine nS 47 ?_;refine pS 8 48 (lA 36 511) ?_;refine pS 9 49 (lA 36 1023) ?_;refine pS 14 54 (lA 36 17407) ?_;refine tS 10 50 (lA 36 18431) rfl rfl (by kernel_rfl) hHeld zz15 ?_;refine pS 11 51 (lA 36 20479) ?_;refine pS 12 52 (lA 36 24575) ?_;refine tS 13 53 (lA 36 32767) rfl rfl (by kernel_rfl) hHeld zz15 ?_;refine oS 15 55 (lA 36 65535) rfl rfl (fun K hK=>?_);refine gO Try.func81 #[.agg #[.slice (some ad) m.words.length cW,.int .i64 m.young,.int .i64 m.top,.int .i64 m.old,.slice (some ad4) m.cards.length cC],.int .i64 v] ?_;(with_reducible refine (Mem_isOld.calls (some ad) m.words.length cW m.young m.top m.old (some ad4) m.cards.length cC v false _ O2.out).mono ?_);rintro e w9 ⟨rfl,hb3⟩;refine ⟨_,rfl,?_⟩;refine hK.out _ _ ⟨⟨below_step hHeld.1.out hb3⟩,⟨MV_below hHeld.2.1.out hb3⟩,⟨(hb3.block _ (blk_lt hHeld.2.2.1.out)).trans hHeld.2.2.1.out⟩,(pw_cell_below hb3 hHeld.2.2.2.1),(pw_cell_below hb3 hHeld.2.2.2.2.1),(pw_cell_below hb3 hHeld.2.2.2.2.2.1),(pw_cell_below hb3 hHeld.2.2.2.2.2.2.1),(pw_cell_below hb3 hHeld.2.2.2.2.2.2.2.1),(pw_cell_below hb3 hHeld.2.2.2.2.2.2.2.2.1),(pw_cell_below hb3 hHeld.2.2.2.2.2.2.2.2.2.1),(pw_cell_below hb3 hHeld.2.2.2.2.2.2.2.2.2.2)⟩ (fun hHeld=>?_);clear hK K;refine nS 55 ?_;refine pS 16 56 (lA 36 131071) ?_;refine pS 17 57 (lA 36 262143) ?_;refine pS 18 58 (lA 36 524287) ?_;refine pS 19 59 (lA 36 1048575) ?_;refine pS 25 65 (lA 36 34603007) ?_;refine pS 30 70 (lA 36 1108344831) ?_;refine tS 20 60 (lA 36 1109393407) rfl rfl (by kernel_rfl) hHeld zz15 ?_;refine pS 21 61 (lA 36 1111490559) ?_;refine pS 22 62 (lA 36 1115684863) ?_;refine pS 23 63 (lA 36 1124073471) ?_;refine tS 24 64 (lA 36 1140850687) rfl rfl (by kernel_rfl) hHeld zz15 ?_;refine tS 26 66 (lA 36 1207959551) rfl rfl (by kernel_rfl) hHeld zz15 ?_;refine pS 27 67 (lA 36 1342177279) ?_
         refine pS 28 68 (lA 36 1610612735) ?_;refine tS 29 69 (lA 36 2147483647) rfl rfl (by kernel_rfl) hHeld zz15 ?_;refine oS 31 71 (lA 36 4294967295) rfl rfl (fun K hK=>?_);refine gO Try.func57 #[.agg #[.slice (some ad) m.words.length cW,.int .i64 m.young,.int .i64 m.top,.int .i64 m.old,.slice (some ad4) m.cards.length cC],.int .i64 x] ?_;(with_reducible refine (Mem_card.calls (some ad) m.words.length cW m.young m.top m.old (some ad4) m.cards.length cC x cj ci _ O3.out O4.out).mono ?_);rintro e w9 ⟨rfl,hb3⟩;refine ⟨_,rfl,?_⟩;refine hK.out _ _ ⟨⟨below_step hHeld.1.out hb3⟩,⟨MV_below hHeld.2.1.out hb3⟩,⟨(hb3.block _ (blk_lt hHeld.2.2.1.out)).trans hHeld.2.2.1.out⟩,(pw_cell_below hb3 hHeld.2.2.2.1),(pw_cell_below hb3 hHeld.2.2.2.2.1),(pw_cell_below hb3 hHeld.2.2.2.2.2.1),(pw_cell_below hb3 hHeld.2.2.2.2.2.2.1),(pw_cell_below hb3 hHeld.2.2.2.2.2.2.2.1),(pw_cell_below hb3 hHeld.2.2.2.2.2.2.2.2.1),(pw_cell_below hb3 hHeld.2.2.2.2.2.2.2.2.2.1),(pw_cell_below hb3 hHeld.2.2.2.2.2.2.2.2.2.2)⟩ (fun hHeld=>?_);clear hK K;refine nS 71 ?_;refine pS 32 72 (lA 36 8589934591) ?_;refine tS 33 73 (lA 36 17179869183) rfl rfl (by kernel_rfl) hHeld zz15 ?_;refine pS 34 74 (lA 36 34359738367) ?_;refine pS 35 75 (lA 36 68719476735) ?_;refine done_ (by kernel_rfl) ?_;have HBn:=hHeld.1;have HXn:=hHeld.2.2.1;clear hHeld HB HX;have HB:=HBn;have HX:=HXn;clear HBn HXn;go_wp2
         go_roundw
         case rel=>exact ⟨j1,k1,rfl,HZ,⟨by have:=HK1.out;have:=HK.out;omega⟩,HX,HB⟩
         case measure=>have:=HK1.out;have:=HC0.out;have:=HK.out;show (n - k1).toNat<(n - k).toNat;omega
      ·rw [if_neg c2] at hq
       have O1:=aK (decide_eq_false c2);have HQ2:=aK (Option.some.inj hq);clear hq c2;obtain rfl:=HQ2.out;have HZ:=aK (show wordsOk.l q m at_ n j1 k1=some r by have:=HH.out;rw [if_pos rfl] at this;exact this);clear HH;have b0:=(blk_cell HX.out 0).trans rfl;have b1:=(blk_cell HX.out 1).trans rfl
       go_wp2_with fail
       go_at_call 86;refine (thing_first.calls g m at_ a _ (MV_below HM.out HB.out) HFi.out).mono ?_;rintro e w2 ⟨rfl,hb⟩;clear b0 b1;have HBn:=aK (below_step HB.out hb);have HXn:=aK ((hb.block _ (blk_lt HX.out)).trans HX.out);clear hb HB HX;have HB:=HBn;have HX:=HXn;clear HBn HXn;have b0:=(blk_cell HX.out 0).trans rfl;have b1:=(blk_cell HX.out 1).trans rfl;obtain ⟨AW,cW,AC,cC,AF,cF,AB,cB,h0,hW,hC,_⟩:=MV_below HM.out HB.out;obtain ⟨ad,e0,hcell⟩:=Kd.at_int hW x (by have:=HXw.out;omega) (by have:=HXw.out;omega)
       cases e0
       rw [←HV.out] at hcell;have g0:=(blk_cell h0 0).trans rfl;have G0:=aK h0;have HCc:=aK hC;clear h0 hW hC
       go_wp2_with fail
       go_at_call 85;refine (thing_leads.calls g m at_ k true _ (MV_below HM.out HB.out) HLe.out).mono ?_;rintro e w3 ⟨rfl,hb⟩;clear b0 b1 hcell g0;have G0n:=aK ((hb.block _ (blk_lt G0.out)).trans G0.out);have HCn:=aK (Kd.C_below HCc.out hb);clear G0 HCc;have G0:=G0n;have HCc:=HCn;clear G0n HCn;have HBn:=aK (below_step HB.out hb);have HXn:=aK ((hb.block _ (blk_lt HX.out)).trans HX.out);clear hb HB HX;have HB:=HBn;have HX:=HXn;clear HBn HXn;have b0:=(blk_cell HX.out 0).trans rfl;have b1:=(blk_cell HX.out 1).trans rfl
       go_wp2_with (go_at_call 78;refine (memory_has.calls q g m v true _ (MV_below HM.out HB.out) HHa.out).mono ?_;rintro e w5 ⟨rfl,hd⟩;have hb:=hd.below;have HBn:=aK (below_step HB.out hb);have HXn:=aK ((hb.block _ (blk_lt HX.out)).trans HX.out);have G0n:=aK ((hb.block _ (blk_lt G0.out)).trans G0.out);have HCn:=aK (Kd.C_below HCc.out hb);clear hd hb HB HX G0 HCc b0 b1;have HB:=HBn;have HX:=HXn;have G0:=G0n;have HCc:=HCn;clear HBn HXn G0n HCn;have b0:=(blk_cell HX.out 0).trans rfl;have b1:=(blk_cell HX.out 1).trans rfl;have g0:=(blk_cell G0.out 0).trans rfl;have g1:=(blk_cell G0.out 1).trans rfl;have g2:=(blk_cell G0.out 2).trans rfl;have g3:=(blk_cell G0.out 3).trans rfl;have g4:=(blk_cell G0.out 4).trans rfl;have HM1:=aK (MV_below HM.out HB.out);try clear HCc)
       refine sT 36 (S:=fun w'=>Aside0 (Below w.heap.size w w')∧Aside0 (MV w' g (m))∧Aside0 (w'.heap[w.heap.size]? =some (.cells #[.pointer (some ⟨g,0,none⟩),.int .i64 at_] 102 (0,0)))∧w'.cell? (⟨w.heap.size,0,none⟩)=some (.pointer (some ⟨g,0,none⟩))∧w'.cell? (⟨w.heap.size,1,none⟩)=some (.int .i64 at_)∧w'.cell? (⟨g,0,none⟩)=some (.slice (some ad) m.words.length cW)∧w'.cell? (⟨g,1,none⟩)=some (.int .i64 m.young)∧w'.cell? (⟨g,2,none⟩)=some (.int .i64 m.top)∧w'.cell? (⟨g,3,none⟩)=some (.int .i64 m.old)∧w'.cell? (⟨g,4,none⟩)=some (.slice AC m.cards.length cC)) (ds:=[]) ⟨⟨below_drew1 HB.out⟩,⟨MV_below HM1.out (below_drew1 (Below.refl _ _))⟩,⟨blk_drew HX.out⟩,(by go_simp),(by go_simp),(by go_simp),(by go_simp),(by go_simp),(by go_simp),(by go_simp)⟩ (fun hHeld=>?_);refine pS 0 40 (lA 36 1) ?_;refine pS 5 45 (lA 36 33) ?_;refine tS 1 41 (lA 36 35) rfl rfl (by kernel_rfl) hHeld zz45 ?_;refine pS 2 42 (lA 36 39) ?_;refine pS 3 43 (lA 36 47) ?_;refine tS 4 44 (lA 36 63) rfl rfl (by kernel_rfl) hHeld zz45 ?_;refine tS 6 46 (lA 36 127) rfl rfl (by kernel_rfl) hHeld zz45 ?_;refine oS 7 47 (lA 36 255) rfl rfl (fun K hK=>?_);refine gO Try.func81 #[.agg #[.slice (some ad) m.words.length cW,.int .i64 m.young,.int .i64 m.top,.int .i64 m.old,.slice AC m.cards.length cC],.int .i64 at_] ?_;(with_reducible refine (Mem_isOld.calls (some ad) m.words.length cW m.young m.top m.old AC m.cards.length cC at_ false _ O1.out).mono ?_);rintro e w9 ⟨rfl,hb3⟩;refine ⟨_,rfl,?_⟩;refine hK.out _ _ ⟨⟨below_step hHeld.1.out hb3⟩,⟨MV_below hHeld.2.1.out hb3⟩,⟨(hb3.block _ (blk_lt hHeld.2.2.1.out)).trans hHeld.2.2.1.out⟩,(pw_cell_below hb3 hHeld.2.2.2.1),(pw_cell_below hb3 hHeld.2.2.2.2.1),(pw_cell_below hb3 hHeld.2.2.2.2.2.1),(pw_cell_below hb3 hHeld.2.2.2.2.2.2.1),(pw_cell_below hb3 hHeld.2.2.2.2.2.2.2.1),(pw_cell_below hb3 hHeld.2.2.2.2.2.2.2.2.1),(pw_cell_below hb3 hHeld.2.2.2.2.2.2.2.2.2)⟩ (fun hHeld=>?_);clear hK K;refine nS 47 ?_;refine pS 8 48 (lA 36 511) ?_;refine pU 9 49 (lA 36 1023) ?_;refine pU 10 50 (lA 36 2047) ?_;refine pU 11 51 (lA 36 4095) ?_;refine pU 12 52 (lA 36 8191) ?_;refine pU 13 53 (lA 36 16383) ?_;refine pU 14 54 (lA 36 32767) ?_;refine pU 15 55 (lA 36 65535) ?_;refine pU 16 56 (lA 36 131071) ?_;refine pS 17 57 (lA 36 262143) ?_;refine pS 18 58 (lA 36 524287) ?_;refine pU 19 59 (lA 36 1048575) ?_;refine pU 20 60 (lA 36 2097151) ?_;refine pU 21 61 (lA 36 4194303) ?_;refine pU 22 62 (lA 36 8388607) ?_;refine pU 23 63 (lA 36 16777215) ?_;refine pU 24 64 (lA 36 33554431) ?_;refine pU 25 65 (lA 36 67108863) ?_;refine pU 26 66 (lA 36 134217727) ?_;refine pU 27 67 (lA 36 268435455) ?_;refine pU 28 68 (lA 36 536870911) ?_;refine pU 29 69 (lA 36 1073741823) ?_;refine pU 30 70 (lA 36 2147483647) ?_;refine pU 31 71 (lA 36 4294967295) ?_;refine pU 32 72 (lA 36 8589934591) ?_;refine pU 33 73 (lA 36 17179869183) ?_;refine pU 34 74 (lA 36 34359738367) ?_;refine pS 35 75 (lA 36 68719476735) ?_;refine done_ (by kernel_rfl) ?_;have HBn:=hHeld.1;have HXn:=hHeld.2.2.1;clear hHeld HB HX;have HB:=HBn;have HX:=HXn;clear HBn HXn;go_wp2
       go_roundw
       case rel=>exact ⟨j1,k1,rfl,HZ,⟨by have:=HK1.out;have:=HK.out;omega⟩,HX,HB⟩
       case measure=>have:=HK1.out;have:=HC0.out;have:=HK.out;show (n - k1).toNat<(n - k).toNat;omega
def thingsOk (q:Nat) (m:Mm):List Int→Option Bool
  |[]=>some true
  |a::r=>(wordsOk.f q m a).bind fun ok=>if ok=true then thingsOk q m r else some false
def mopen (k q : Nat) (l0 : List S53) (ws : List Int) (y t o : Int) (cs : List Bool) : Option (Option Mm) :=
  (impl_ClassesOk.f k l0).bind fun c=>if c=true then ((impl_partsOk.f ws y t o cs).bind fun p=>if p=true then ((impl_allFields.f k l0).bind fun F=>
    if F.all (fun r=>decide (r.length≤4294967296))=true∧ws.length≤1048576∧cs.length≤1048576 then ((mwalk ws F t q 0 []).bind fun r1=>if r1.1=true then (if r1.2.length≤1048576 then ((mwalk ws F o q y r1.2).bind fun r2=>if r2.1=true then (if r2.2.length≤1048576 then ((thingsOk q ⟨ws,y,t,o,cs,F,r2.2⟩ r2.2).bind fun ok=>if ok=true then some (some ⟨ws,y,t,o,cs,F,r2.2⟩) else some none) else none) else some none) else none) else some none) else none) else some none) else some none
def OpenPost (w:World) (r:Option Mm) (e:Ending) (w':World):Prop:=
  match r with
  |none=>e= .returned (.tuple #[.pointer none,.bool false])∧Below w.heap.size w w'
  |some m=> ∃g,e= .returned (.tuple #[.pointer (some ⟨g,0,none⟩),.bool true])∧MO w' w.heap.size g m∧Below w.heap.size w w'
theorem fshort_of {F:List (List Int)} (h:F.all (fun r=>decide (r.length≤4294967296))=true):FShort F:=by
 intro c h0 h1;have h2:c.toNat<F.length:=by omega
 have h3:=List.all_eq_true.mp h (F[c.toNat]) (List.getElem_mem h2);have h4:rdL F c=F[c.toNat]:=by unfold rdL;rw [List.getD_eq_getElem?_getD,List.getElem?_eq_getElem h2];rfl
 rw [h4];exact of_decide_eq_true h3
theorem parts_true {ws:List Int} {y t o:Int} {cs:List Bool} (h:impl_partsOk.f ws y t o cs=some true):0≤y∧y≤40∧0≤t∧t≤y∧y≤o∧o≤ws.length:=by
 unfold impl_partsOk.f at h
 split at h
 case isFalse=>simp at h
 case isTrue=>
 have h:=Option.some.inj h;simp only [Bool.and_eq_true] at h;obtain ⟨⟨⟨⟨⟨⟨h0,h1⟩,h2⟩,h3⟩,h4⟩,h5⟩,h6⟩:=h;unfold pOk at h0 h2 h3;have h0:=of_decide_eq_true h0;have h2:=of_decide_eq_true h2;have h3:=of_decide_eq_true h3;exact ⟨h0.1,h0.2,h2.1,h2.2,h3.1,h3.2⟩
theorem MO_cells {w:World} {b g:Nat} {m:Mm} (h:MO w b g m):w.cell? ⟨g,1,none⟩=some (.int .i64 m.young)∧w.cell? ⟨g,2,none⟩=some (.int .i64 m.top)∧w.cell? ⟨g,3,none⟩=some (.int .i64 m.old):=by
  obtain ⟨_,_,_,_,_,_,_,_,h0,_⟩:=h;exact ⟨(blk_cell h0 1).trans rfl,(blk_cell h0 2).trans rfl,(blk_cell h0 3).trans rfl⟩
theorem MO_new {w3 w4:World} {b:Nat} {AU AV AF:Option Addr} {cU cV cF:Nat} {l0:List Int} {l4:List Bool} {F:List (List Int)} {a1 a2 a3:Int} (hb:b≤w3.heap.size) (hw:Below w3.heap.size w3 w4)
  (h1:Kd.R (Kd.int .i64) 3 w3 b (fun k=>some k≠(Value.slice AV l4.length cV).ownBlock) (.slice AU l0.length cU) l0)
  (h2:Kd.R Kd.bool 4 w3 b (fun k=>some k≠(Value.slice AU l0.length cU).ownBlock) (.slice AV l4.length cV) l4)
  (h3:Kd.S (Kd.slice 3 (Kd.int .i64)) 23 w4 w3.heap.size (fun _=>True) (.slice AF F.length cF) F):
  MO (w4.alloc (.cells #[.slice AU l0.length cU,.int .i64 a1,.int .i64 a2,.int .i64 a3,.slice AV l4.length cV,.slice AF F.length cF,.slice none 0 0] 68 (0,0))) b w4.heap.size ⟨l0,a1,a2,a3,l4,F,[]⟩:=by
 have hs:=hw.size;have u1:=Kd.R_lt h1;have u2:=Kd.R_lt h2;have nn: ∀k:Nat,some k≠(Value.slice none 0 0).ownBlock:=fun k=>by simp [Value.ownBlock]
 have al:=below_alloc (Below.refl w4.heap.size w4) (.cells #[.slice AU l0.length cU,.int .i64 a1,.int .i64 a2,.int .i64 a3,.slice AV l4.length cV,.slice AF F.length cF,.slice none 0 0] 68 (0,0));refine ⟨AU,cU,AV,cV,AF,cF,none,0,blk_new _ _,by show b≤w4.heap.size;omega,(Kd.R_reads' (Kd.S_R h3)).2.1,?_,?_,?_,?_⟩
 ·exact Kd.R_below (Kd.R_mono (Kd.R_below (Kd.R_bound h1) hw) (fun k hk=>⟨⟨by have:=hk.2.2.1;omega,hk.1⟩,nn k⟩)) al
 ·exact Kd.R_below (Kd.R_mono (Kd.R_below (Kd.R_bound h2) hw) (fun k hk=>⟨⟨by have:=hk.2.2.1;omega,hk.1⟩,nn k⟩)) al
 ·exact Kd.F_below (Kd.F_mono (Kd.R_F (Kd.R_bound (Kd.S_R h3))) (fun k hk=>⟨⟨⟨by have:=hk.2.2.1;omega,fun e=>by have:=u1 k e.symm;have:=hk.2.1;omega⟩,fun e=>by have:=u2 k e.symm;have:=hk.2.1;omega⟩,nn k⟩)) al
 ·exact Kd.R_nil _ _ _ _ _
set_option maxHeartbeats 32000000 in
set_option maxRecDepth 100000 in
theorem memOpen.calls (k q:Nat) (A0:Option Addr) (c0:Nat) (l0:List S53) (AW:Option Addr) (cW:Nat) (ws:List Int) (y t o:Int) (AC:Option Addr) (cC:Nat) (cs:List Bool) (r:Option Mm) (w:World)
  (hr0:Kd.C k53 w A0 l0.length l0) (hc0:l0.length≤c0) (hrW:Kd.C (Kd.int .i64) w AW ws.length ws) (hcW:ws.length≤cW) (hrC:Kd.C Kd.bool w AC cs.length cs) (hcC:cs.length≤cC) (h:mopen k q l0 ws y t o cs=some r):
  Calls Try.prog 39 #[.slice A0 l0.length c0,.agg #[.slice AW ws.length cW,.int .i64 y,.int .i64 t,.int .i64 o,.slice AC cs.length cC]] w (OpenPost w r):=by
 have HR0:=aK hr0;have HC0:=aK hc0;have HRW:=aK hrW;have HCW:=aK hcW;have HRC:=aK hrC;have HCC:=aK hcC;clear hr0 hc0 hrW hcW hrC hcC;unfold mopen at h;obtain ⟨c,hc,h⟩:=Option.bind_eq_some_iff.mp h;have H1:=aK hc;clear hc;have HB0:=aK (below_alloc (Below.refl w.heap.size w) (.cells #[.slice AW ws.length cW,.int .i64 y,.int .i64 t,.int .i64 o,.slice AC cs.length cC] 29 (0,0)));have HX0:=aK (blk_new w (.cells #[.slice AW ws.length cW,.int .i64 y,.int .i64 t,.int .i64 o,.slice AC cs.length cC] 29 (0,0)))
 cases c with
 |false=>
  rw [if_neg (by simp)] at h;have HR:=aK (Option.some.inj h);clear h;go_enter Try.func39,Try.ntmps39
  go_wp2_with (go_at_call 65;refine (impl_ClassesOk.calls k A0 c0 l0 false _ (Kd.C_below HR0.out HB0.out) HC0.out H1.out).mono ?_;rintro e w1 ⟨rfl,hb⟩;have HB:=aK (below_step HB0.out hb);have HX:=aK ((hb.block _ (blk_lt HX0.out)).trans HX0.out);clear hb HB0 HX0;have x0:=(blk_cell HX.out 0).trans rfl;have x1:=(blk_cell HX.out 1).trans rfl;have x2:=(blk_cell HX.out 2).trans rfl;have x3:=(blk_cell HX.out 3).trans rfl;have x4:=(blk_cell HX.out 4).trans rfl)
  go_ret2
  rw [←HR.out];exact ⟨rfl,HB.out⟩
 |true=>
 rw [if_pos rfl] at h;obtain ⟨p,hp,h⟩:=Option.bind_eq_some_iff.mp h;have H2:=aK hp;clear hp
 cases p with
 |false=>
  rw [if_neg (by simp)] at h;have HR:=aK (Option.some.inj h);clear h;go_enter Try.func39,Try.ntmps39
  go_wp2_with first|(go_at_call 65;refine (impl_ClassesOk.calls k A0 c0 l0 true _ (Kd.C_below HR0.out HB0.out) HC0.out H1.out).mono ?_;rintro e w1 ⟨rfl,hb⟩;have HB:=aK (below_step HB0.out hb);have HX:=aK ((hb.block _ (blk_lt HX0.out)).trans HX0.out);clear hb HB0 HX0;have x0:=(blk_cell HX.out 0).trans rfl;have x1:=(blk_cell HX.out 1).trans rfl;have x2:=(blk_cell HX.out 2).trans rfl;have x3:=(blk_cell HX.out 3).trans rfl;have x4:=(blk_cell HX.out 4).trans rfl)|(go_at_call 66;refine (impl_partsOk.calls AW cW ws y t o AC cC cs false _ (Kd.C_below HRW.out HB.out) HCW.out H2.out).mono ?_;rintro e w2 ⟨rfl,hb⟩;have HBn:=aK (below_step HB.out hb);have HXn:=aK ((hb.block _ (blk_lt HX.out)).trans HX.out);clear hb HB HX x0 x1 x2 x3 x4;have HB:=HBn;have HX:=HXn;clear HBn HXn;have x0:=(blk_cell HX.out 0).trans rfl;have x1:=(blk_cell HX.out 1).trans rfl;have x2:=(blk_cell HX.out 2).trans rfl;have x3:=(blk_cell HX.out 3).trans rfl;have x4:=(blk_cell HX.out 4).trans rfl)
  go_ret2
  rw [←HR.out];exact ⟨rfl,HB.out⟩
 |true=>
 rw [if_pos rfl] at h;obtain ⟨F,hF,h⟩:=Option.bind_eq_some_iff.mp h;have H3:=aK hF;clear hF
 split at h
 case isFalse=>simp at h
 case isTrue hl=>
 have HL1:=aK (fshort_of hl.1);have HL2:=aK hl.2.1;have HL3:=aK hl.2.2;clear hl;have HP:=aK (parts_true H2.out);obtain ⟨r1,hr1,h⟩:=Option.bind_eq_some_iff.mp h;have H4:=aK hr1;clear hr1;have H:=aK h;clear h;go_enter Try.func39,Try.ntmps39
 go_wp2_with first|(go_at_call 65;refine (impl_ClassesOk.calls k A0 c0 l0 true _ (Kd.C_below HR0.out HB0.out) HC0.out H1.out).mono ?_;rintro e w1 ⟨rfl,hb⟩;have HB:=aK (below_step HB0.out hb);have HX:=aK ((hb.block _ (blk_lt HX0.out)).trans HX0.out);clear hb HB0 HX0;have x0:=(blk_cell HX.out 0).trans rfl;have x1:=(blk_cell HX.out 1).trans rfl;have x2:=(blk_cell HX.out 2).trans rfl;have x3:=(blk_cell HX.out 3).trans rfl;have x4:=(blk_cell HX.out 4).trans rfl)|(go_at_call 66;refine (impl_partsOk.calls AW cW ws y t o AC cC cs true _ (Kd.C_below HRW.out HB.out) HCW.out H2.out).mono ?_;rintro e w2 ⟨rfl,hb⟩;have HBn:=aK (below_step HB.out hb);have HXn:=aK ((hb.block _ (blk_lt HX.out)).trans HX.out);clear hb HB HX x0 x1 x2 x3 x4;have HB:=HBn;have HX:=HXn;clear HBn HXn;have x0:=(blk_cell HX.out 0).trans rfl;have x1:=(blk_cell HX.out 1).trans rfl;have x2:=(blk_cell HX.out 2).trans rfl;have x3:=(blk_cell HX.out 3).trans rfl;have x4:=(blk_cell HX.out 4).trans rfl)|fail
 go_at_call 52;refine (impl_memClone.calls AW cW ws y t o AC cC cs _ (Kd.C_below HRW.out HB.out) HCW.out (Kd.C_below HRC.out HB.out) HCC.out (by have:=HL2.out;omega) (by have:=HL3.out;omega)).mono ?_;rintro e w3 ⟨u,v,rfl,hu,hv,hb⟩;have HS2:=aK (below_size HB.out);have HBn:=aK (below_step HB.out hb);have HU:=aK (Kd.R_lower hu HS2.out);have HV:=aK (Kd.R_lower hv HS2.out);obtain ⟨AU,cU,rfl⟩:=Kd.R_slice hu;obtain ⟨AV,cV,rfl⟩:=Kd.R_slice hv;clear hu hv hb HB HX HS2 x0 x1 x2 x3 x4;have HB:=HBn;clear HBn
 go_wp2_with fail
 go_at_call 67;refine (impl_allFields.calls k A0 c0 l0 F _ (Kd.C_below HR0.out HB.out) HC0.out H3.out).mono ?_;rintro e w4 ⟨vf,rfl,hf,hb⟩;obtain ⟨AF,cF,rfl⟩:=Kd.S_slice hf;have HM0:=aK (MO_new (a1:=y) (a2:=t) (a3:=o) (below_size HB.out) hb HU.out HV.out hf);have HBn:=aK (below_alloc (below_step HB.out hb) (.cells #[.slice AU ws.length cU,.int .i64 y,.int .i64 t,.int .i64 o,.slice AV cs.length cV,.slice AF F.length cF,.slice none 0 0] 68 (0,0)));clear hf hb HB HU HV;have HB:=HBn;clear HBn;obtain ⟨g,hg⟩: ∃g,g=w4.heap.size:=⟨_,rfl⟩;have HG:=aK hg;go_wp2;rw [←hg] at HM0 ⊢;clear hg;generalize w4.alloc (.cells #[.slice AU ws.length cU,.int .i64 y,.int .i64 t,.int .i64 o,.slice AV cs.length cV,.slice AF F.length cF,.slice none 0 0] 68 (0,0))=W5 at HB HM0 ⊢;obtain ⟨k1,k2,k3⟩:=MO_cells HM0.out;dsimp only at k1 k2 k3;obtain ⟨r1b,r1l⟩:=r1;have hh:=H.out
 cases r1b with
 |false=>
  rw [if_neg (by simp)] at hh;have HR:=aK (Option.some.inj hh);clear hh H;refine sT 23 (S:=fun w'=>Aside0 (Below w.heap.size w w')∧w'.cell? ⟨g,1,none⟩=some (.int .i64 y)∧w'.cell? ⟨g,2,none⟩=some (.int .i64 t)∧w'.cell? ⟨g,3,none⟩=some (.int .i64 o)) (ds:=[]) ⟨⟨below_drew1 HB.out⟩,(by go_simp),(by go_simp),(by go_simp)⟩ (fun hHeld=>?_);refine pS 0 23 (lA 23 1) ?_;refine pS 1 24 (lA 23 3) ?_;refine pS 2 25 (lA 23 7) ?_;refine pS 3 26 (lA 23 15) ?_;refine pS 4 27 (lA 23 31) ?_;refine tS 5 28 (lA 23 63) rfl rfl (by kernel_rfl) hHeld zz12 ?_;refine oS 6 29 (lA 23 127) rfl rfl (fun K hK=>?_);refine gO Try.func68 #[.pointer (some ⟨g,0,none⟩),.int .i64 0,.int .i64 t] ?_;(with_reducible refine (memory_walk.calls w.heap.size g _ 0 t q (false,r1l) _ (MO_below HM0.out (below_drew1 (Below.refl _ _))) hHeld.1.out.size (by decide) (by have:=HP.out;show t≤(ws.length:Int);omega) HL2.out (Nat.zero_le _) HL1.out H4.out).mono ?_);rintro e w5 ⟨rfl,ho1,hb1⟩;have hMO1:=aK ho1;have hB1:=aK hb1;obtain ⟨c1_,c2_,c3_⟩:=MO_cells ho1;dsimp only at c1_ c2_ c3_;refine ⟨_,rfl,?_⟩;refine hK.out _ _ ⟨⟨hHeld.1.out.trans hB1.out⟩,c1_,c2_,c3_⟩ (fun hHeld=>?_);clear hK K;refine nS 29 ?_;refine pS 7 30 (lA 23 255) ?_;refine pS 8 31 (lA 23 511) ?_;refine pU 9 32 (lA 23 1023) ?_;refine pU 10 33 (lA 23 2047) ?_;refine pU 11 34 (lA 23 4095) ?_;refine pU 12 35 (lA 23 8191) ?_;refine pU 13 36 (lA 23 16383) ?_;refine pU 14 37 (lA 23 32767) ?_;refine pU 15 38 (lA 23 65535) ?_;refine pU 16 39 (lA 23 131071) ?_;refine pU 17 40 (lA 23 262143) ?_;refine pU 18 41 (lA 23 524287) ?_;refine pU 19 42 (lA 23 1048575) ?_;refine pU 20 43 (lA 23 2097151) ?_;refine pU 21 44 (lA 23 4194303) ?_;refine pS 22 45 (lA 23 8388607) ?_;refine done_ (by kernel_rfl) ?_;go_wp2
  go_ret2
  rw [←HR.out];exact ⟨rfl,hHeld.1.out⟩
 |true=>
 rw [if_pos rfl] at hh
 split at hh
 case isFalse=>simp at hh
 case isTrue hl=>
 have HL4:=aK hl;clear hl;obtain ⟨r2,hr2,hh⟩:=Option.bind_eq_some_iff.mp hh;have H5:=aK hr2;clear hr2 H;obtain ⟨r2b,r2l⟩:=r2
 cases r2b with
 |false=>
  rw [if_neg (by simp)] at hh;have HR:=aK (Option.some.inj hh);clear hh;refine sT 23 (S:=fun w'=>Aside0 (Below w.heap.size w w')∧w'.cell? ⟨g,1,none⟩=some (.int .i64 y)∧w'.cell? ⟨g,2,none⟩=some (.int .i64 t)∧w'.cell? ⟨g,3,none⟩=some (.int .i64 o)) (ds:=[]) ⟨⟨below_drew1 HB.out⟩,(by go_simp),(by go_simp),(by go_simp)⟩ (fun hHeld=>?_);refine pS 0 23 (lA 23 1) ?_;refine pS 1 24 (lA 23 3) ?_;refine pS 2 25 (lA 23 7) ?_;refine pS 3 26 (lA 23 15) ?_;refine pS 4 27 (lA 23 31) ?_;refine tS 5 28 (lA 23 63) rfl rfl (by kernel_rfl) hHeld zz12 ?_;refine oS 6 29 (lA 23 127) rfl rfl (fun K hK=>?_);refine gO Try.func68 #[.pointer (some ⟨g,0,none⟩),.int .i64 0,.int .i64 t] ?_;(with_reducible refine (memory_walk.calls w.heap.size g _ 0 t q (true,r1l) _ (MO_below HM0.out (below_drew1 (Below.refl _ _))) hHeld.1.out.size (by decide) (by have:=HP.out;show t≤(ws.length:Int);omega) HL2.out (Nat.zero_le _) HL1.out H4.out).mono ?_);rintro e w5 ⟨rfl,ho1,hb1⟩;have hMO1:=aK ho1;have hB1:=aK hb1;obtain ⟨c1_,c2_,c3_⟩:=MO_cells ho1;dsimp only at c1_ c2_ c3_;refine ⟨_,rfl,?_⟩;refine hK.out _ _ ⟨⟨hHeld.1.out.trans hB1.out⟩,c1_,c2_,c3_⟩ (fun hHeld=>?_);clear hK K;refine nS 29 ?_;refine pS 7 30 (lA 23 255) ?_;refine pS 8 31 (lA 23 511) ?_;refine pS 9 32 (lA 23 1023) ?_;refine pS 10 33 (lA 23 2047) ?_;refine pS 11 34 (lA 23 4095) ?_;refine pS 12 35 (lA 23 8191) ?_;refine pS 13 36 (lA 23 16383) ?_;refine pS 15 38 (lA 23 49151) ?_;refine pS 16 39 (lA 23 114687) ?_;refine pS 17 40 (lA 23 245759) ?_;refine pS 18 41 (lA 23 507903) ?_;refine tS 14 37 (lA 23 524287) rfl rfl (by kernel_rfl) hHeld zz12 ?_;refine tS 19 42 (lA 23 1048575) rfl rfl (by kernel_rfl) hHeld zz12 ?_;refine oS 20 43 (lA 23 2097151) rfl rfl (fun K hK=>?_);refine gO Try.func68 #[.pointer (some ⟨g,0,none⟩),.int .i64 y,.int .i64 o] ?_;(with_reducible refine (memory_walk.calls w.heap.size g _ y o q (false,r2l) _ hMO1.out hHeld.1.out.size HP.out.1 (by have:=HP.out;show o≤(ws.length:Int);omega) HL2.out HL4.out HL1.out H5.out).mono ?_);rintro e w6 ⟨rfl,ho2,hb2⟩;have hMO2:=aK ho2;have hB2:=aK hb2;obtain ⟨d1_,d2_,d3_⟩:=MO_cells ho2;dsimp only at d1_ d2_ d3_;refine ⟨_,rfl,?_⟩;refine hK.out _ _ ⟨⟨hHeld.1.out.trans hB2.out⟩,d1_,d2_,d3_⟩ (fun hHeld=>?_);clear hK K;refine nS 43 ?_;refine pS 21 44 (lA 23 4194303) ?_;refine pS 22 45 (lA 23 8388607) ?_;refine done_ (by kernel_rfl) ?_;go_wp2
  go_ret2
  rw [←HR.out];exact ⟨rfl,hHeld.1.out⟩
 |true=>
 rw [if_pos rfl] at hh
 split at hh
 case isFalse=>simp at hh
 case isTrue hl=>
 have HL5:=aK hl;clear hl;obtain ⟨ok,hok,hh⟩:=Option.bind_eq_some_iff.mp hh;have H6:=aK hok;have H7:=aK hh;clear hok hh;refine sT 23 (S:=fun w'=>Aside0 (Below w.heap.size w w')∧w'.cell? ⟨g,1,none⟩=some (.int .i64 y)∧w'.cell? ⟨g,2,none⟩=some (.int .i64 t)∧w'.cell? ⟨g,3,none⟩=some (.int .i64 o)) (ds:=[]) ⟨⟨below_drew1 HB.out⟩,(by go_simp),(by go_simp),(by go_simp)⟩ (fun hHeld=>?_);refine pS 0 23 (lA 23 1) ?_;refine pS 1 24 (lA 23 3) ?_;refine pS 2 25 (lA 23 7) ?_;refine pS 3 26 (lA 23 15) ?_;refine pS 4 27 (lA 23 31) ?_;refine tS 5 28 (lA 23 63) rfl rfl (by kernel_rfl) hHeld zz12 ?_;refine oS 6 29 (lA 23 127) rfl rfl (fun K hK=>?_);refine gO Try.func68 #[.pointer (some ⟨g,0,none⟩),.int .i64 0,.int .i64 t] ?_;(with_reducible refine (memory_walk.calls w.heap.size g _ 0 t q (true,r1l) _ (MO_below HM0.out (below_drew1 (Below.refl _ _))) hHeld.1.out.size (by decide) (by have:=HP.out;show t≤(ws.length:Int);omega) HL2.out (Nat.zero_le _) HL1.out H4.out).mono ?_);rintro e w5 ⟨rfl,ho1,hb1⟩;have hMO1:=aK ho1;have hB1:=aK hb1;obtain ⟨c1_,c2_,c3_⟩:=MO_cells ho1;dsimp only at c1_ c2_ c3_;refine ⟨_,rfl,?_⟩;refine hK.out _ _ ⟨⟨hHeld.1.out.trans hB1.out⟩,c1_,c2_,c3_⟩ (fun hHeld=>?_);clear hK K;refine nS 29 ?_;refine pS 7 30 (lA 23 255) ?_;refine pS 8 31 (lA 23 511) ?_;refine pS 9 32 (lA 23 1023) ?_;refine pS 10 33 (lA 23 2047) ?_;refine pS 11 34 (lA 23 4095) ?_;refine pS 12 35 (lA 23 8191) ?_;refine pS 13 36 (lA 23 16383) ?_;refine pS 15 38 (lA 23 49151) ?_;refine pS 16 39 (lA 23 114687) ?_;refine pS 17 40 (lA 23 245759) ?_;refine pS 18 41 (lA 23 507903) ?_;refine tS 14 37 (lA 23 524287) rfl rfl (by kernel_rfl) hHeld zz12 ?_;refine tS 19 42 (lA 23 1048575) rfl rfl (by kernel_rfl) hHeld zz12 ?_;refine oS 20 43 (lA 23 2097151) rfl rfl (fun K hK=>?_);refine gO Try.func68 #[.pointer (some ⟨g,0,none⟩),.int .i64 y,.int .i64 o] ?_;(with_reducible refine (memory_walk.calls w.heap.size g _ y o q (true,r2l) _ hMO1.out hHeld.1.out.size HP.out.1 (by have:=HP.out;show o≤(ws.length:Int);omega) HL2.out HL4.out HL1.out H5.out).mono ?_);rintro e w6 ⟨rfl,ho2,hb2⟩;have hMO2:=aK ho2;have hB2:=aK hb2;obtain ⟨d1_,d2_,d3_⟩:=MO_cells ho2;dsimp only at d1_ d2_ d3_;refine ⟨_,rfl,?_⟩;refine hK.out _ _ ⟨⟨hHeld.1.out.trans hB2.out⟩,d1_,d2_,d3_⟩ (fun hHeld=>?_);clear hK K;refine nS 43 ?_;refine pS 21 44 (lA 23 4194303) ?_;refine pS 22 45 (lA 23 8388607) ?_;refine done_ (by kernel_rfl) ?_;have HB:=hHeld.1;clear hHeld;obtain ⟨AW6,cW6,AC6,cC6,AF6,cF6,AB,cB,g0,hg1,_,_,_,_,rB⟩:=hMO2.out;have k6:=(blk_cell g0 6).trans rfl;have HCB:=aK (Kd.R_reads' rB).2.2;clear g0 rB hg1;go_wp2
 go_loopw [51] (fun i wr=> ∃j:Nat,i= .int .i64 j∧j≤r2l.length∧Aside0 (thingsOk q ⟨ws,y,t,o,cs,F,r2l⟩ (r2l.drop j)=some ok)∧Aside0 (Below w6.heap.size w6 wr)) (fun i _=>r2l.length - (intOf i).toNat)
 case atStart=>exact ⟨0,rfl,Nat.zero_le _,⟨by rw [List.drop_zero];exact H6.out⟩,⟨Below.refl _ _⟩⟩
 case round=>
  clear H6;obtain ⟨j,rfl,hj,HT,HB6⟩:=hrel;by_cases hlt:j<r2l.length
  ·have hd := List.drop_eq_getElem_cons hlt
   have hg:r2l[j]=rd r2l j:=by unfold rd;rw [Int.toNat_natCast,List.getD_eq_getElem?_getD,List.getElem?_eq_getElem hlt];rfl
   obtain ⟨ad,e0,hcell⟩:=Kd.at_int (Kd.C_below HCB.out HB6.out) j (by omega) (by omega)
   cases e0
   rw [Int.toNat_natCast] at hcell;have ht:=HT.out;rw [hd,hg] at ht;unfold thingsOk at ht;obtain ⟨o1,ho1,ht⟩:=Option.bind_eq_some_iff.mp ht;have HO1:=aK ho1;clear hd hg HT ho1;generalize rd r2l j=x at*
   cases o1 with
   |false=>
    rw [if_neg (by simp)] at ht;have h7:=H7.out;rw [←Option.some.inj ht,if_neg (by simp)] at h7;have HR:=aK (Option.some.inj h7);clear ht h7
    go_wp2_with fail
    go_at_call 69;refine (memory_thing.calls g x _).mono ?_;rintro e w7 ⟨rfl,hb⟩;have HB7:=aK (below_step HB6.out hb);clear hb
    go_wp2_with fail
    go_at_call 70;refine (thing_wordsOk.calls q g _ x false _ (MV_below (MO_MV hMO2.out) HB7.out) HO1.out).mono ?_;rintro e w8 ⟨rfl,hb⟩;have HB8:=aK (below_step HB7.out hb);clear hb HB7;go_wp2
    go_ret2
    rw [←HR.out];exact ⟨rfl,below_then HB.out (Nat.le_trans (Nat.le_refl _) HB.out.size) HB8.out⟩
   |true=>
    rw [if_pos rfl] at ht;have HT2:=aK ht;clear ht
    go_wp2_with fail
    go_at_call 69;refine (memory_thing.calls g x _).mono ?_;rintro e w7 ⟨rfl,hb⟩;have HB7:=aK (below_step HB6.out hb);clear hb
    go_wp2_with fail
    go_at_call 70;refine (thing_wordsOk.calls q g _ x true _ (MV_below (MO_MV hMO2.out) HB7.out) HO1.out).mono ?_;rintro e w8 ⟨rfl,hb⟩;have HB8:=aK (below_step HB7.out hb);clear hb HB7;go_wp2
    go_roundw
    case rel=>exact ⟨j+1,by rw [show wrap64 ((j:Int)+1)=((j+1:Nat):Int) by have:=HL5.out;unfold wrap64;omega],by omega,HT2,HB8⟩
    case measure=>rw [show wrap64 ((j:Int)+1)=((j+1:Nat):Int) by have:=HL5.out;unfold wrap64;omega];simp only [intOf,Int.toNat_natCast];omega
  ·have d0 : decide ((j : Int) < r2l.length) = false := decide_eq_false (by omega)
   have ht:=HT.out;rw [List.drop_eq_nil_of_le (by omega)] at ht;have h7:=H7.out;rw [←Option.some.inj ht,if_pos rfl] at h7;have HR:=aK (Option.some.inj h7);clear ht h7;go_wp2
   go_ret2
   rw [←HR.out];exact ⟨g,rfl,MO_below hMO2.out HB6.out,below_then HB.out HB.out.size HB6.out⟩
def rootOk (k:Nat) (m:Mm) (x:Int):Option Bool:=if x=0 then some true else memory_has.f k m x
def rootsOkF (k:Nat) (m:Mm):List Int→Option Bool
  |[]=>some true
  |x::r=>(rootOk k m x).bind fun b=>if b=true then rootsOkF k m r else some false
set_option maxHeartbeats 4000000 in
set_option maxRecDepth 100000 in
theorem impl_rootsOk1.calls (k gp g:Nat) (m:Mm) (x:Int) (b:Bool) (w:World) (hp:w.heap[gp]? =some (.cells #[.pointer (some ⟨g,0,none⟩)] 56 (0,0))) (hm:MV w g m) (h:rootOk k m x=some b):
  Calls Try.prog 77 #[.int .i64 x,.pointer (some ⟨gp,0,none⟩)] w fun e w'=>e= .returned (.bool b)∧Below w.heap.size w w':=by
 have q0:=(blk_cell hp 0).trans rfl;have HM:=aK hm;clear hp hm;unfold rootOk at h;by_cases c:x=0
 ·rw [if_pos c] at h
  have HR:=aK (Option.some.inj h);have d0:(x==0)=true:=beq_iff_eq.mpr c
  clear c h;go_enter Try.func77,Try.ntmps77;go_wp2;go_ret;exact ⟨by rw [←HR.out];rfl,by repeat (first|exact Below.refl _ _|apply below_drew1|apply pw_below_drewN)⟩
 ·rw [if_neg c] at h
  have H:=aK h;have d0:(x==0)=false:=beq_eq_false_iff_ne.mpr c
  clear c h;go_enter Try.func77,Try.ntmps77
  go_wp2_with (go_at_call 78;refine Classical.byContradiction (fun hng=>?_))
  refine hng ?_;clear hng;refine (memory_has.calls k g m x b _ HM.out H.out).mono ?_;rintro e w1 ⟨rfl,hd⟩;have HB:=aK hd.below;clear hd;go_wp2;go_ret;exact ⟨rfl,HB.out⟩
set_option maxHeartbeats 4000000 in
set_option maxRecDepth 100000 in
theorem impl_everyRoots.calls (q gp g:Nat) (m:Mm) (A:Option Addr) (c:Nat) (l:List Int) (b:Bool) (W:World) (hp:W.heap[gp]? =some (.cells #[.pointer (some ⟨g,0,none⟩)] 56 (0,0))) (hm:MV W g m) (hr:Kd.C (Kd.int .i64) W A l.length l) (hl:l.length≤281474976710656) (h:rootsOkF q m l=some b):
  Calls Try.prog 76 #[.slice A l.length c,.func (.func 77) #[] #[.pointer (some ⟨gp,0,none⟩)]] W fun e W'=>e= .returned (.bool b)∧Below W.heap.size W W':=by
 have HR:=aK hr;have HL:=aK hl;have HP:=aK hp;have HM:=aK hm;have H:=aK (show rootsOkF q m (l.drop 0)=some b by rw [List.drop_zero];exact h);clear hr hl hp hm h;go_enter Try.func76,Try.ntmps76;go_wp2
 go_loopw [9] (fun i wr=> ∃k:Nat,k≤l.length∧i= .int .i64 k∧Aside0 (rootsOkF q m (l.drop k)=some b)∧Aside0 (Below W.heap.size W wr)) (fun i _=>l.length - (intOf i).toNat)
 case atStart=>exact ⟨0,Nat.zero_le _,rfl,H,⟨Below.refl _ _⟩⟩
 case round=>
  clear H;obtain ⟨k,hk,rfl,HN,HB⟩:=hrel;by_cases hlt:k<l.length
  ·have hd := List.drop_eq_getElem_cons hlt
   have hg:l[k]=rd l k:=by unfold rd;rw [Int.toNat_natCast,List.getD_eq_getElem?_getD,List.getElem?_eq_getElem hlt];rfl
   obtain ⟨ad,e0,hcell⟩:=Kd.at_int (Kd.C_below HR.out HB.out) k (by omega) (by omega)
   cases e0
   rw [Int.toNat_natCast] at hcell;have HN2:=HN.out;rw [hd,hg] at HN2;unfold rootsOkF at HN2;obtain ⟨y,hy,HN2⟩:=Option.bind_eq_some_iff.mp HN2;have HX:=aK HN2;have HY:=aK hy;clear hd hg HN HN2 hy;generalize rd l k=x at*;have HP2:=aK (blk_below HP.out HB.out);have HM2:=aK (MV_below HM.out HB.out)
   cases y with
   |true=>
    have HZ:=aK (show rootsOkF q m (l.drop (k+1))=some b by have:=HX.out;rw [if_pos rfl] at this;exact this);clear HX
    go_wp2_with fail
    refine (impl_rootsOk1.calls q gp g m x true _ HP2.out HM2.out HY.out).mono ?_;rintro e w2 ⟨rfl,hb2⟩;have HB2:=aK (below_step HB.out hb2);clear hb2;go_wp2
    go_roundw
    case rel=>exact ⟨k+1,by omega,by rw [show wrap64 ((k:Int)+1)=((k+1:Nat):Int) by have:=HL.out;unfold wrap64;omega],HZ,HB2⟩
    case measure=>rw [show wrap64 ((k:Int)+1)=((k+1:Nat):Int) by have:=HL.out;unfold wrap64;omega];simp only [intOf,Int.toNat_natCast];omega
   |false=>
    have HZ:=aK (show false=b by have:=HX.out;rw [if_neg (by simp)] at this;exact Option.some.inj this);clear HX
    go_wp2_with fail
    refine (impl_rootsOk1.calls q gp g m x false _ HP2.out HM2.out HY.out).mono ?_;rintro e w2 ⟨rfl,hb2⟩;have HB2:=aK (below_step HB.out hb2);clear hb2;go_wp2;go_ret;exact ⟨by rw [←HZ.out];rfl,HB2.out⟩
  ·have d0 : decide ((k : Int) < l.length) = false := decide_eq_false (by omega)
   have HZ:=aK (show true=b by have:=HN.out;rw [List.drop_eq_nil_of_le (by omega)] at this;exact Option.some.inj this);go_wp2;go_ret;exact ⟨by rw [←HZ.out];rfl,HB.out⟩
set_option maxHeartbeats 4000000 in
set_option maxRecDepth 100000 in
theorem memory_rootsOk.calls (q g:Nat) (m:Mm) (A:Option Addr) (c:Nat) (l:List Int) (b:Bool) (w:World) (hm:MV w g m) (hr:Kd.C (Kd.int .i64) w A l.length l) (hl:l.length≤281474976710656) (h:rootsOkF q m l=some b):
  Calls Try.prog 50 #[.pointer (some ⟨g,0,none⟩),.slice A l.length c] w fun e w'=>e= .returned (.bool b)∧Below w.heap.size w w':=by
 have HR:=aK hr;have HL:=aK hl;have HM:=aK hm;have H:=aK h;have HB:=aK (Below.refl w.heap.size w);clear hr hl hm h;go_enter Try.func50,Try.ntmps50
 go_wp2_with ((with_reducible refine gate_dst (N:=2) rfl ?_);refine Classical.byContradiction (fun hng=>?_))
 refine hng ?_;clear hng;refine box_event ?hg (N:=2) ?hd (cs:= #[.pointer (some ⟨g,0,none⟩)]) (t:=56) ?hr ?_
 (case hd=>rfl)
 (case hg=>rfl)
 (case hr=>first|(go_simp;done)|(go_simp;rfl))
 intro gp hg w1 hbox hb;have BP:=aK hbox;replace HB:=aK (below_step HB.out hb);clear hb hbox hg
 go_wp2_with fail
 go_at_call 76;refine (impl_everyRoots.calls q gp g m A c l b _ BP.out (MV_below HM.out HB.out) (Kd.C_below HR.out HB.out) HL.out H.out).mono ?_;rintro e w2 ⟨rfl,hb⟩;replace HB:=aK (below_step HB.out hb);clear hb;go_wp2;go_ret;exact ⟨rfl,HB.out⟩
def gopen (k q : Nat) (l0 : List S53) (ws : List Int) (y t o : Int) (cs : List Bool) (roots : List Int) : Option (Option Mm) :=
  (mopen k q l0 ws y t o cs).bind fun r=>match r with
    |none=>some none
    |some m=>(rootsOkF q m roots).bind fun b=>some (if b=true then some m else none)
set_option maxHeartbeats 8000000 in
set_option maxRecDepth 100000 in
theorem gcOpen.calls (k q:Nat) (A0:Option Addr) (c0:Nat) (l0:List (S53)) (A1:Option Addr) (c1:Nat) (ws:List Int) (y t o:Int) (A4:Option Addr) (c4:Nat) (cs:List Bool) (AR:Option Addr) (cR:Nat) (roots:List Int) (r:Option Mm) (w:World)
  (hr0:Kd.C k53 w A0 l0.length l0) (hc0:l0.length≤c0) (hr1:Kd.C (Kd.int .i64) w A1 ws.length ws) (hc1:ws.length≤c1) (hr4:Kd.C Kd.bool w A4 cs.length cs) (hc4:cs.length≤c4) (hr5:Kd.C (Kd.int .i64) w AR roots.length roots) (hl5:roots.length≤281474976710656) (h:gopen k q l0 ws y t o cs roots=some r):
  Calls Try.prog 31 #[.slice A0 l0.length c0,.agg #[.slice A1 ws.length c1,.int .i64 y,.int .i64 t,.int .i64 o,.slice A4 cs.length c4],.slice AR roots.length cR] w (OpenPost w r):=by
 unfold gopen at h;obtain ⟨m,hm,h⟩:=Option.bind_eq_some_iff.mp h;have HM:=aK hm;have HR0:=aK hr0;have HC0:=aK hc0;have HR1:=aK hr1;have HC1:=aK hc1;have HR4:=aK hr4;have HC4:=aK hc4;have HR5:=aK hr5;have HL5:=aK hl5;have HB:=aK (below_alloc (Below.refl w.heap.size w) (.cells #[.slice A1 ws.length c1,.int .i64 y,.int .i64 t,.int .i64 o,.slice A4 cs.length c4] 29 (0,0)));have HH:=aK h;clear hr0 hc0 hr1 hc1 hr4 hc4 hr5 hl5 h hm;go_enter Try.func31,Try.ntmps31
 go_wp2_with fail
 go_at_call 39;refine (memOpen.calls k q A0 c0 l0 A1 c1 ws y t o A4 c4 cs m _ (Kd.C_below HR0.out HB.out) HC0.out (Kd.C_below HR1.out HB.out) HC1.out (Kd.C_below HR4.out HB.out) HC4.out HM.out).mono ?_
 cases m with
 |none=>
  rintro e w1 ⟨rfl,hb⟩;have HB1:=aK (below_step HB.out hb);obtain rfl:=Option.some.inj HH.out;clear hb HM HH;go_wp2;refine bodyPost_ret (results_list (rs:=[.tmp 6,.tmp 7]) rfl (by simp) (.tmp (.tmp .nil))) rfl ?_;exact ⟨rfl,HB1.out⟩
 | some m =>
  rintro e w1 ⟨g,rfl,hmo,hb⟩;have HMo:=aK (show MO w1 w.heap.size g m by obtain ⟨AW,cW,AC,cC,AF,cF,AB,cB,a0,a1,a2,a3,a4,a5,a6⟩:=hmo;exact ⟨AW,cW,AC,cC,AF,cF,AB,cB,a0,Nat.le_trans (below_size HB.out) a1,a2,Kd.R_lower a3 (below_size HB.out),Kd.R_lower a4 (below_size HB.out),a5,Kd.R_lower a6 (below_size HB.out)⟩);have HB1:=aK (below_step HB.out hb);obtain ⟨b,hb1,hh⟩:=Option.bind_eq_some_iff.mp HH.out;have H1:=aK hb1;have H2:=aK (Option.some.inj hh);clear hb HM HH hmo hb1 hh HB
  go_wp2_with (go_at_call 50;refine Classical.byContradiction (fun hng=>?_))
  refine hng ?_;clear hng;refine (memory_rootsOk.calls q g m AR cR roots b _ (MO_MV HMo.out) (Kd.C_below HR5.out HB1.out) HL5.out H1.out).mono ?_;rintro e w2 ⟨rfl,hb⟩;replace HMo:=aK (MO_below HMo.out hb);replace HB1:=aK (below_step HB1.out hb);clear hb
  cases b with
  |false=>
   have h2:=H2.out;rw [if_neg (by simp)] at h2;subst h2;go_wp2;refine bodyPost_ret (results_list (rs:=[.tmp 6,.tmp 7]) rfl (by simp) (.tmp (.tmp .nil))) rfl ?_;exact ⟨rfl,HB1.out⟩
  |true=>
   have h2:=H2.out;rw [if_pos rfl] at h2;subst h2;go_wp2;refine bodyPost_ret (results_list (rs:=[.tmp 6,.tmp 7]) rfl (by simp) (.tmp (.tmp .nil))) rfl ?_;exact ⟨g,rfl,HMo.out,HB1.out⟩
def IsS96 (w0 W:World) (g:Nat) (f0:List Int) (f1:Int):Prop:= ∃A0 c0,W.heap[g]? =some (.cells #[.slice A0 f0.length c0,.int .i64 f1] 96 (0,0))∧w0.heap.size≤g∧Kd.C (Kd.int .u8) w0 A0 f0.length f0
theorem IsS96.grown {w0 W:World} {g:Nat} {f0:List Int} {f1:Int} {W1:World} {row:Option Nat} (h:IsS96 w0 W g f0 f1) (hw:W.grownBy W1 row) (hne:some g≠row):IsS96 w0 W1 g f0 f1:=by
  obtain ⟨A0,c0,hb,hg,hr0⟩:=h;exact ⟨A0,c0,blk_grown hb hw hne,hg,hr0⟩
theorem IsS96.kept {w0 W:World} {g:Nat} {f0:List Int} {f1:Int} {W1:World} {S:Nat→Prop} (h:IsS96 w0 W g f0 f1) (hk:Kept W W1 S) (hne: ¬S g):IsS96 w0 W1 g f0 f1:=by
  obtain ⟨A0,c0,hb,hg,hr0⟩:=h;exact ⟨A0,c0,blk_kept hb hk hne,hg,hr0⟩
theorem IsS96.below {w0 W:World} {g:Nat} {f0:List Int} {f1:Int} {W1:World} (h:IsS96 w0 W g f0 f1) (hw:Below W.heap.size W W1):IsS96 w0 W1 g f0 f1:=h.grown (grown_of_below hw none) (by simp)
theorem IsS96.alloc {w0 W:World} {g:Nat} {f0:List Int} {f1:Int} (h:IsS96 w0 W g f0 f1) (o:Obj):IsS96 w0 (W.alloc o) g f0 f1:=h.below (below_alloc (Below.refl _ _) o)
theorem IsS96.drew {w0 W:World} {g:Nat} {f0:List Int} {f1:Int} (h:IsS96 w0 W g f0 f1):IsS96 w0 W.drew g f0 f1:=h
theorem IsS96.ge {w0 W:World} {g:Nat} {f0:List Int} {f1:Int} (h:IsS96 w0 W g f0 f1):w0.heap.size≤g:=by
  obtain ⟨A0,c0,hb,hg,hr0⟩:=h;exact hg
def spec_l6Open.f (l0:List Int):Option (List Int×Int):=if (l0.length:Int)>2000 then (if 2000≤(l0.length:Int) then (some (l0.take 2000,0)) else (none)) else (some (l0,0))
def spec_l6Rd_pick.j0:Nat→Int→Bool→List Int→Int→Option (Int×Int)
  |0,_,_,_,_=>none
  |k+1,x1,x24,x1000,x1001=>if x24=true then (some (0,x1001)) else (if (wrap64 (x1001 - 1))<(x1000.length:Int) then (if 0≤(wrap64 (x1001 - 1)) then (if x1=0 then (none) else (some (Int.tmod (wrap64 (rd x1000 (wrap64 (x1001 - 1)))) x1,x1001))) else (none)) else (if (x1000.length:Int)=0 then (none) else (if 0≤(Int.tmod (wrap64 (x1001 - 1)) (x1000.length:Int)) then (if (Int.tmod (wrap64 (x1001 - 1)) (x1000.length:Int))<(x1000.length:Int) then (if 0≤(Int.tmod (wrap64 ((wrap64 ((wrap64 (x1001 - 1))*7))+3)) (x1000.length:Int)) then (if (Int.tmod (wrap64 ((wrap64 ((wrap64 (x1001 - 1))*7))+3)) (x1000.length:Int))<(x1000.length:Int) then (if x1=0 then (none) else (some (Int.tmod (Go.bits .xor .i64 (wrap64 ((wrap64 ((wrap64 ((wrap64 ((wrap64 (rd x1000 (Int.tmod (wrap64 (x1001 - 1)) (x1000.length:Int))))*131))+(wrap64 ((wrap64 (rd x1000 (Int.tmod (wrap64 ((wrap64 ((wrap64 (x1001 - 1))*7))+3)) (x1000.length:Int))))*1117))))+(wrap64 ((wrap64 (x1001 - 1))*29))))+(wrap64 ((wrap64 (Int.tdiv (wrap64 (x1001 - 1)) (x1000.length:Int)))*53)))) (wrap64 (Int.tdiv (wrap64 ((wrap64 ((wrap64 ((wrap64 ((wrap64 (rd x1000 (Int.tmod (wrap64 (x1001 - 1)) (x1000.length:Int))))*131))+(wrap64 ((wrap64 (rd x1000 (Int.tmod (wrap64 ((wrap64 ((wrap64 (x1001 - 1))*7))+3)) (x1000.length:Int))))*1117))))+(wrap64 ((wrap64 (x1001 - 1))*29))))+(wrap64 ((wrap64 (Int.tdiv (wrap64 (x1001 - 1)) (x1000.length:Int)))*53)))) 64))) x1,x1001))) else (none)) else (none)) else (none)) else (none))))
def spec_l6Rd_pick.f (k:Nat) (s0_0:List Int) (s0_1:Int) (a1:Int):Option (Int×Int):=if a1<1 then (spec_l6Rd_pick.j0 k a1 true s0_0 (wrap64 (s0_1+1))) else (spec_l6Rd_pick.j0 k a1 ((s0_0.length:Int)==0) s0_0 (wrap64 (s0_1+1)))
end Go.Proofs.Ytbaklikaoleplaa.K
namespace Go.Proofs.Ytbaklikaoleplaa.Pure
open Go.RowKit Go.Proofs.Ytbaklikaoleplaa.K Go.Proofs.YtbaklikaoleplaaW.PrintWords Go.Proofs.YtbaklikaoleplaaW.PrintLast Go.Proofs.YtbaklikaoleplaaW.PrintMore
set_option linter.unusedVariables false
set_option linter.unusedSimpArgs false
theorem evp {α:Type} {c:Prop} [Decidable c] {f g:Nat→Option α} {r:α} (h:c) (k:Ev f r):Ev (fun n=>if c then f n else g n) r:=Ev.congr (fun _=>if_pos h) k
theorem evn {α:Type} {c:Prop} [Decidable c] {f g:Nat→Option α} {r:α} (h: ¬c) (k:Ev g r):Ev (fun n=>if c then f n else g n) r:=Ev.congr (fun _=>if_neg h) k
theorem wrap_inc {i n:Int} (h0:0≤i) (h:i<n) (hn:n≤4611686018427387904):wrap64 (i+1)=i+1:=by
  unfold wrap64;omega
theorem rd_cast (xs:List Int) (i:Nat):rd xs (i:Int)=xs.getD i 0:=by simp [rd]
theorem drop_getD {α:Type} (xs:List α) (i:Nat) (d:α) (h:i<xs.length):xs.drop i=xs.getD i d::xs.drop (i+1):=by
  rw [List.drop_eq_getElem_cons h];simp [List.getD_eq_getElem?_getD,h]
theorem wrap64_of {n:Int} (h: -9223372036854775808≤n) (h':n≤9223372036854775807):wrap64 n=n:=by unfold wrap64;omega
end Go.Proofs.Ytbaklikaoleplaa.Pure
namespace Go.Proofs.Ytbaklikaoleplaa.K
open Go.RowKit Go.Proofs.YtbaklikaoleplaaW.PrintWords Go.Proofs.YtbaklikaoleplaaW.PrintLast Go.Proofs.YtbaklikaoleplaaW.PrintMore
attribute [local go_sem] max2_int min2_int max_two min_two max_three min_three max_four min_four
set_option linter.unusedVariables false
set_option linter.unusedSimpArgs false
open Go.Proofs.Ytbaklikaoleplaa.Pure
def Rdr (M:Int) (w0 w:World) (g:Nat):Prop:=(∃(b:List Int) (p:Int),IsS96 w0 w g b p∧b.length≤2000∧(∀x∈b,0≤x∧x≤255)∧0≤p∧p≤M)∧Below w0.heap.size w0 w
section
variable {M L:Int} {w0 w w1:World} {g:Nat}
theorem Rdr.below (h:Rdr M w0 w g) (hb:Below w.heap.size w w1):Rdr M w0 w1 g:=by
  obtain ⟨⟨b,p,h1,h2,h3,h4,h5⟩,h6⟩:=h;exact ⟨⟨b,p,h1.below hb,h2,h3,h4,h5⟩,below_step h6 hb⟩
theorem Rdr.alloc (h:Rdr M w0 w g) (o:Obj):Rdr M w0 (w.alloc o) g:=h.below (below_alloc (Below.refl _ _) o)
theorem Rdr.drew (h:Rdr M w0 w g):Rdr M w0 w.drew g:=h.below (below_drew1 (Below.refl _ _))
theorem Rdr.grown (h:Rdr M w0 w g) {row:Option Nat} (hg:w.grownBy w1 row) (hne:some g≠row) (hr: ∀k,row=some k→w0.heap.size≤k):Rdr M w0 w1 g:=by
  obtain ⟨⟨b,q,h1,h2,h3,h4,h5⟩,h6⟩:=h;exact ⟨⟨b,q,h1.grown hg hne,h2,h3,h4,h5⟩,h6.grown hg h6.size hr⟩
theorem Rdr.ge (h:Rdr M w0 w g):w0.heap.size≤g:=by
  obtain ⟨⟨b,q,h1,_⟩,_⟩:=h;exact h1.ge
end
end Go.Proofs.Ytbaklikaoleplaa.K
namespace Go.Proofs.Ytbaklikaoleplaa.K
open Go.RowKit Go.Proofs.YtbaklikaoleplaaW.PrintWords Go.Proofs.YtbaklikaoleplaaW.PrintLast Go.Proofs.YtbaklikaoleplaaW.PrintMore
attribute [local go_sem] max2_int min2_int max_two min_two max_three min_three max_four min_four
set_option linter.unusedVariables false
set_option linter.unusedSimpArgs false
def memBox (w:World) (g:Nat) (a b c d e:Value):World:=((((w.setCell ⟨g,0,none⟩ a).setCell ⟨g,1,none⟩ b).setCell ⟨g,2,none⟩ c).setCell ⟨g,3,none⟩ d).setCell ⟨g,4,none⟩ e
theorem blk_box5 {w:World} {g:Nat} {t:TypeId} {c0 c1 c2 c3 c4 a b c d e:Value} (h:w.heap[g]? =some (.cells #[c0,c1,c2,c3,c4] t (0,0))):(memBox w g a b c d e).heap[g]? =some (.cells #[a,b,c,d,e] t (0,0)):=
  blk_put (blk_put (blk_put (blk_put (blk_put h 0 _ rfl) 1 _ rfl) 2 _ rfl) 3 _ rfl) 4 _ rfl
theorem box5_far {w:World} {g k:Nat} {a b c d e:Value} (hk:k≠g):(memBox w g a b c d e).heap[k]? =w.heap[k]? :=by
  unfold memBox;rw [Below.heap_setCell _ _ _ k hk,Below.heap_setCell _ _ _ k hk,Below.heap_setCell _ _ _ k hk,Below.heap_setCell _ _ _ k hk,Below.heap_setCell _ _ _ k hk]
theorem below_box5 {w0 w:World} {g:Nat} {a b c d e:Value} (h:Below w0.heap.size w0 w) (hg:w0.heap.size≤g):Below w0.heap.size w0 (memBox w g a b c d e):=
  below_set (below_set (below_set (below_set (below_set h hg) hg) hg) hg) hg
theorem alloc_two (w:World) (a b:Obj):((w.alloc a).alloc b).heap[w.heap.size+1]? =some b:=by
  have h:=blk_new (w.alloc a) b
  rwa [show (w.alloc a).heap.size=w.heap.size+1 by simp] at h
theorem R_box5n {α:Type} {K:Kd α} {q:TypeId} {w:World} {base g:Nat} {ok:Nat→Prop} {v:Value} {xs:List α} {a b c d e:Value} (h:K.R q w base ok v xs) (hg: ∀k,ok k→k≠g):K.R q (memBox w g a b c d e) base ok v xs:=
  Kd.R_step h (fun k hk _=>box5_far (hg k hk))
theorem R_box5t {α:Type} {K:Kd α} {q t:TypeId} {w:World} {base g:Nat} {ok:Nat→Prop} {v:Value} {xs:List α} {cs:Array Value} {a b c d e:Value} (h:K.R q w base ok v xs) (hz:w.heap[g]? =some (.cells cs t (0,0))) (ht: ∀z,z∈q::K.E→z≠t):K.R q (memBox w g a b c d e) base ok v xs:=
  Kd.R_mono (R_box5n (Kd.R_types h hz ht) (fun _ hk=>hk.2)) (fun _ hk=>hk.1)
structure Ch (S:Nat→Prop) (w w':World):Prop where
 os:w'.os=w.os
 tape:w'.tape=w.tape
 output:w'.output=w.output
 size:w.heap.size≤w'.heap.size
 block: ∀k,k<w.heap.size→¬S k→w'.heap[k]? =w.heap[k]?
section
variable {S S2:Nat→Prop} {w w0 w1 w2:World}
theorem Ch.refl (S:Nat→Prop) (w:World):Ch S w w:=⟨rfl,rfl,rfl,Nat.le_refl _,fun _ _ _=>rfl⟩
theorem Ch.trans (h:Ch S w w1) (k:Ch S2 w1 w2) (hs: ∀k,S2 k→S k∨w.heap.size≤k):Ch S w w2:=
  ⟨k.os.trans h.os,k.tape.trans h.tape,k.output.trans h.output,Nat.le_trans h.size k.size,fun i hi hn=>(k.block i (Nat.lt_of_lt_of_le hi h.size) (fun h2=>(hs i h2).elim hn (fun h3=>by omega))).trans (h.block i hi hn)⟩
theorem Ch.then_ (h:Ch S w w1) (k:Ch S w1 w2):Ch S w w2:=h.trans k (fun _ h=> .inl h)
theorem Ch.mono (h:Ch S w w1) (hs: ∀k,S k→S2 k):Ch S2 w w1:=⟨h.os,h.tape,h.output,h.size,fun i hi hn=>h.block i hi (fun h2=>hn (hs i h2))⟩
theorem Ch.below (h:Ch S w w1) (hb:Below w1.heap.size w1 w2):Ch S w w2:=
  h.trans (S2:=fun _=>False) ⟨hb.os,hb.tape,hb.output,hb.size,fun i hi _=>hb.block i hi⟩ (fun _ h=>h.elim)
theorem Ch.alloc (h:Ch S w w1) (o:Obj):Ch S w (w1.alloc o):=h.below (below_alloc (Below.refl _ _) o)
theorem Ch.drew (h:Ch S w w1):Ch S w w1.drew:=h.below (below_drew1 (Below.refl _ _))
theorem Ch.set (h:Ch S w w1) {p:Addr} (hp:S p.block∨w.heap.size≤p.block) (u:Value):Ch S w (w1.setCell p u):=
  h.trans (S2:=fun k=>k=p.block) ⟨rfl,rfl,rfl,by simp [World.setCell],fun k _ hn=>Below.heap_setCell _ _ _ _ hn⟩ (fun k hk=>by rw [hk];exact hp)
theorem Ch.box5 (h:Ch S w w1) {g:Nat} (hp:S g∨w.heap.size≤g) (a b c d e:Value):Ch S w (memBox w1 g a b c d e):=
  ((((h.set (p:=⟨g,0,none⟩) hp a).set (p:=⟨g,1,none⟩) hp b).set (p:=⟨g,2,none⟩) hp c).set (p:=⟨g,3,none⟩) hp d).set (p:=⟨g,4,none⟩) hp e
theorem Ch.grown (h:Ch S w w1) {row:Option Nat} (hg:w1.grownBy w2 row) (hr: ∀k,row=some k→S k∨w.heap.size≤k):Ch S w w2:=
  h.trans (S2:=fun k=>row=some k) ⟨hg.os,hg.tape,hg.output,hg.size,fun k hk hn=>hg.block k hk (fun e=>hn e.symm)⟩ hr
theorem Ch.kept (h:Ch S w w1):Kept w w1 S:=⟨h.size,h.block⟩
theorem Ch.toBelow (h:Ch S w w1) {B:Nat} (hB:B≤w.heap.size) (hS: ∀k,S k→B≤k):Below B w w1:=⟨h.os,h.tape,h.output,h.size,fun k hk=>h.block k (by omega) (fun h2=>by have:=hS k h2;omega)⟩
theorem Ch.blk (h:Ch S w w1) {g:Nat} {o:Obj} (hb:w.heap[g]? =some o) (hn: ¬S g):w1.heap[g]? =some o:=blk_kept hb h.kept hn
theorem Ch.R {α:Type} {d:Kd α} {e base:Nat} {ok:Nat→Prop} {v:Value} {xs:List α} (h:Ch S w w1) (hr:d.R e w base ok v xs) (hne: ∀k,ok k→¬S k):d.R e w1 base ok v xs:=Kd.R_kept hr h.kept hne
end
section
variable {M L:Int} {w0 w w1:World} {g:Nat} {S:Nat→Prop}
theorem Rdr.ch (h:Rdr M w0 w g) (hc:Ch S w w1) (hne: ¬S g) (hS: ∀k,S k→w0.heap.size≤k):Rdr M w0 w1 g:=by
  obtain ⟨⟨b,q,⟨A0,c0,hb,hg,hC⟩,h2,h3,h4,h5⟩,h6⟩:=h;exact ⟨⟨b,q,⟨A0,c0,hc.blk hb hne,hg,hC⟩,h2,h3,h4,h5⟩,h6.trans (hc.toBelow h6.size hS)⟩
end
def KeepO (w w':World):Prop:= ∀(k:Nat) (cells:Array Value) (t:Nat),(t=102∨t=56∨t=83∨t=29∨t=68)→w.heap[k]? =some (.cells cells t (0,0))→w'.heap[k]? =some (.cells cells t (0,0))
theorem KeepO.refl (w:World):KeepO w w:=fun _ _ _ _ h=>h
theorem KeepO.trans {w w1 w2:World} (h:KeepO w w1) (k:KeepO w1 w2):KeepO w w2:=fun a b c d e=>k a b c d (h a b c d e)
theorem KeepO.of_below {w w1:World} (h:Below w.heap.size w w1):KeepO w w1:=fun a _ _ _ e=>(h.block a (blk_lt e)).trans e
theorem KeepO.below {w w1 w2:World} (h:KeepO w w1) (hb:Below w1.heap.size w1 w2):KeepO w w2:=h.trans (KeepO.of_below hb)
theorem KeepO.thing {w w1:World} (h:KeepO w w1) {g:Nat} {c:Array Value} (hb:w.heap[g]? =some (.cells c 102 (0,0))):w1.heap[g]? =some (.cells c 102 (0,0)):=h g c _ (.inl rfl) hb
theorem KeepO.pm {w w1:World} (h:KeepO w w1) {g:Nat} {c:Array Value} (hb:w.heap[g]? =some (.cells c 56 (0,0))):w1.heap[g]? =some (.cells c 56 (0,0)):=h g c _ (.inr (.inl rfl)) hb
theorem KeepO.pg {w w1:World} (h:KeepO w w1) {g:Nat} {c:Array Value} (hb:w.heap[g]? =some (.cells c 83 (0,0))):w1.heap[g]? =some (.cells c 83 (0,0)):=h g c _ (.inr (.inr (.inl rfl))) hb
theorem KeepO.mem {w w1:World} (h:KeepO w w1) {g:Nat} {c:Array Value} (hb:w.heap[g]? =some (.cells c 29 (0,0))):w1.heap[g]? =some (.cells c 29 (0,0)):=h g c _ (.inr (.inr (.inr (.inl rfl)))) hb
section
variable {P:Program} {ops:Array Oper} {Q:Exit→Act→World→Prop}
theorem goesV_ {rest : List Oper} {oi : Oper} {a : Act} {w : World} (hg : oi.guard = none) {f : FuncId} {fn : Func} {x : Operand} {xs : Array Operand} {ts : Array TypeId} {caps : Array Value} (hf : P.funcs[f]? = some fn) (hname : (fn.name == "runtime.NumGoroutine") = false) (hb : fn.body.isSome = true) (args : Array Value)
  (hop:oi.op= .call {callee:= .value x,args:=xs,argTypes:=ts}) (hx:a.eval x= .func (.func f) #[] caps) (hargs:xs.map a.eval++caps=args)
  (h:Calls P f args w fun e w'=> ∃v,e= .returned v∧wpList P ops Q rest (a.put oi.dst v) w'):wpList P ops Q (oi::rest) a w:=by
 refine wpList_plain hg fun K hK=>?_
 have he:=enters_ hf hname hb args w
 have hrun:(execOp a.eval oi).run P w= .ok (.enter f args) w:=by
  unfold execOp;simp [hop,resolve,hx,Deferred.ofValue,invoke,hargs,he]
 unfold Oper.wp;rw [hrun,Oper.upon_enter];refine h.mono fun e w'' hh=>?_
 obtain ⟨v,rfl,hk⟩:=hh;exact hK _ _ hk
end
def thBox (w:World) (g:Nat) (a b:Value):World:=(w.setCell ⟨g,0,none⟩ a).setCell ⟨g,1,none⟩ b
theorem blk_thBox {w:World} {g:Nat} {t:TypeId} {c0 c1 a b:Value} (h:w.heap[g]? =some (.cells #[c0,c1] t (0,0))):(thBox w g a b).heap[g]? =some (.cells #[a,b] t (0,0)):=
  blk_put (blk_put h 0 _ rfl) 1 _ rfl
theorem Ch.thBox {S:Nat→Prop} {w w1:World} (h:Ch S w w1) {g:Nat} (hp:S g∨w.heap.size≤g) (a b:Value):Ch S w (thBox w1 g a b):=(h.set (p:=⟨g,0,none⟩) hp a).set (p:=⟨g,1,none⟩) hp b
structure Mv where
 tw:List Int
 y:Int
 t:Int
 o:Int
 tc:List Bool
 mv:List (Int×Int)
 full:Bool
def lookM (mv:List (Int×Int)) (a:Int):Option Int:=(mv.find? (fun p=>p.1==a)).map Prod.snd
def wfI (a:Int):Prop:=(Lit.int .i64 a).wf=true
def MapIs (D:DataW Unit) (mv:List (Int×Int)):Prop:=Maps.IsMap D∧∀a,wfI a→Maps.has D (.int .i64 a)=(lookM mv a).isSome∧D.atKey (.int .i64 a) (.lit (.int .i64 0))= .lit (.int .i64 ((lookM mv a).getD 0))
theorem MapIs.nil:MapIs (.map []) []:=⟨Maps.isMap_empty,fun _ _=>⟨rfl,rfl⟩⟩
theorem lookM_snoc {mv:List (Int×Int)} {a b:Int} (h:lookM mv a=none) (x:Int):lookM (mv++[(a,b)]) x=if x=a then some b else lookM mv x:=by
 unfold lookM at h ⊢;rw [List.find?_append];by_cases c:x=a
 ·subst c
  have h':mv.find? (fun p=>p.1==x)=none:=by simpa using h
  rw [h',if_pos rfl];simp
 ·rw [if_neg c]
  cases hf:mv.find? (fun p=>p.1==x) with
  |none=>
   have e:(a==x)=false:=beq_eq_false_iff_ne.mpr (fun e=>c e.symm)
   simp [List.find?_cons,e]
  |some q=>simp
theorem MapIs.put {D:DataW Unit} {mv:List (Int×Int)} (h:MapIs D mv) {a b:Int} (hn:lookM mv a=none):MapIs (D.put (.int .i64 a) (.lit (.int .i64 b))) (mv++[(a,b)]):=by
 refine ⟨h.1.put _ _,fun x hx=>?_⟩;rw [lookM_snoc hn];by_cases c:x=a
 ·subst c
  rw [if_pos rfl,Maps.has_put_same h.1 (by trivial),Maps.atKey_put_same h.1 (by trivial)];exact ⟨rfl,rfl⟩
 ·have hne : Lit.int .i64 x ≠ Lit.int .i64 a := fun e => c (by injection e)
  rw [if_neg c,Maps.has_put_other hne,Maps.atKey_put_other hne];exact h.2 x hx
theorem lawI:Maps.Keyed Try.prog 3:=Maps.int_keyed Try.underlying3
theorem zeroI (w:World):(zeroValue 3).run Try.prog w= .ok (.int .i64 0) w:=by kernel_rfl
def OwnsM (w:World) (B:Nat) (mv:List (Int×Int)):Prop:= ∃D:DataW Unit,w.ownsMap Try.prog 3 (plainElem Try.prog 3) B mv.length D∧MapIs D mv
theorem OwnsM.heap {w w1:World} {B:Nat} {mv:List (Int×Int)} (h:OwnsM w B mv) (e:w1.heap[B]? =w.heap[B]?):OwnsM w1 B mv:=by
  obtain ⟨D,⟨es,clock,hb,r⟩,hm⟩:=h;exact ⟨D,⟨es,clock,e.trans hb,r⟩,hm⟩
theorem OwnsM.lt {w:World} {B:Nat} {mv:List (Int×Int)} (h:OwnsM w B mv):B<w.heap.size:=by
  obtain ⟨D,h,_⟩:=h;exact h.lt
theorem OwnsM.nc {w:World} {B:Nat} {mv:List (Int×Int)} (h:OwnsM w B mv) {c:Array Value} {t:Nat}:w.heap[B]?≠some (.cells c t (0,0)):=by
 obtain ⟨D,⟨es,clock,hb,r⟩,hm⟩:=h;rw [hb];intro e
 cases e
set_option maxRecDepth 100000 in
theorem OwnsM.look {w:World} {B:Nat} {mv:List (Int×Int)} (h:OwnsM w B mv) {a:Int} (ha:wfI a) (MT:Nat) (ht:Try.prog.underlying MT=some (.map 3 3)):
  (Instr.lookup MT (.map (some B)) (.int .i64 a) true).run Try.prog w= .ok (.tuple #[.int .i64 ((lookM mv a).getD 0),.bool (lookM mv a).isSome]) w:=by
 obtain ⟨D,h,hm⟩:=h;obtain ⟨v,ps,hr,hv⟩:=h.look_ok lawI ht (zeroI w) (plainElem_int Try.underlying3 (by decide)) (Maps.keyOf_int_mk Try.underlying3 ha);obtain ⟨c,rfl,hc,_⟩:=plainElem_int_inv Try.underlying3 hv;have h1:=hm.2 a ha;rw [h1.1] at hr;have hc:=congrArg Prod.fst hc;rw [h1.2] at hc;injection hc with hc;injection hc with _ hc;rw [←hc] at hr;exact hr
set_option maxRecDepth 100000 in
theorem OwnsM.look1 {w:World} {B:Nat} {mv:List (Int×Int)} (h:OwnsM w B mv) {a:Int} (ha:wfI a) (MT:Nat) (ht:Try.prog.underlying MT=some (.map 3 3)):
  (Instr.lookup MT (.map (some B)) (.int .i64 a) false).run Try.prog w= .ok (.int .i64 ((lookM mv a).getD 0)) w:=by
 obtain ⟨D,h,hm⟩:=h;obtain ⟨c,hr,hc,_⟩:=h.lookup_int lawI ht Try.underlying3 (zeroI w) (Maps.keyOf_int_mk Try.underlying3 ha);rw [(hm.2 a ha).2] at hc;injection hc with hc;injection hc with _ hc;rw [←hc] at hr;exact hr
set_option maxRecDepth 100000 in
theorem OwnsM.put {w:World} {B:Nat} {mv:List (Int×Int)} (h:OwnsM w B mv) {a b:Int} (ha:wfI a) (hb:wfI b) (hn:lookM mv a=none) (hl:mv.length<2000000) (MT:Nat) (ht:Try.prog.underlying MT=some (.map 3 3)):
  ∃w1,(Instr.mapUpdate MT (.map (some B)) (.int .i64 a) (.int .i64 b)).run Try.prog w= .ok () w1∧OwnsM w1 B (mv++[(a,b)])∧Ch (fun k=>k=B) w w1:=by
 obtain ⟨D,h,hm⟩:=h;obtain ⟨w1,hr,ho,hg⟩:=h.store lawI ht (by unfold maxLen;omega) (Maps.keyOf_int_mk Try.underlying3 ha) (plainElem_int Try.underlying3 hb);have hg:=hg.grown;refine ⟨w1,hr,⟨_,by rw [List.length_append];exact ho,hm.put hn⟩,⟨hg.os,hg.tape,hg.output,hg.size,fun k hk hne=>hg.block k hk (fun e=>hne (by injection e))⟩⟩
set_option maxRecDepth 100000 in
theorem copy_run {W:World} {base:Nat} {ok:Nat→Prop} {g cap i n c c2:Nat} {xs ys:List Int} {ad:Addr} (HO:(Kd.int .i64).R 3 W base ok (.slice (some ⟨g,0,none⟩) xs.length cap) xs) (hr:Kd.C (Kd.int .i64) W (some ad) n ys) (hi:i+n≤xs.length) (hn:0<n)
  (t t' ty:TypeId) (ht:Try.prog.underlying t=some (.slice 3)):
  ∃w1,(Builtin.copy_ #[t,t'] ty #[.slice (some ⟨g,i,none⟩) (xs.length - i) c2,.slice (some ad) n c]).run Try.prog W= .ok (.int .i64 (n:Int)) w1∧(Kd.int .i64).R 3 w1 base ok (.slice (some ⟨g,0,none⟩) xs.length cap) (xs.take i++ys++xs.drop (i+n))∧Ch (fun k=>k=g) W w1:=by
 have hR:=Kd.reads_of_C (enc:=Value.int .i64) (d:=(0:Int)) (h1:=fun _=>rfl) hr;have hm:ys.length=n:=hR.1
 have hown:=Kd.own_of_R (enc:=Value.int .i64) (h1:=fun _=>rfl) HO;obtain ⟨ad',hA,hc⟩:=hR.2.2 hn;injection hA with hA;subst hA;rcases hown.2 with ⟨hv,_⟩|⟨g',cap',cur,hv,hb,hh,hnc,hcm,hcs,htake⟩
 ·exact absurd hv (by simp)
 injection hv with e1 e2 e3;injection e1 with e1;injection e1 with e1;subst e1 e3;have hcs1:cur.size=cap:=by omega
 have hkl:(encs (Value.int .i64) ys).length=n:=by rw [encs_length,hm]
 have hsrc: ∀j u,(encs (Value.int .i64) ys)[j]? =some u→W.cell? (ad.add j)=some u:=by
  intro j u hu
  have hj:j<ys.length:=by
   rcases Nat.lt_or_ge j ys.length with h|h
   ·exact h
   ·rw [List.getElem?_eq_none (by rw [encs_length]; exact h)] at hu
    cases hu
  rw [encs_get (d:=(0:Int)) _ j hj] at hu;rw [hc j (by omega),←hu]
 have hrun:=run_copy_cells (P:=Try.prog) W t t' ty 3 g i (xs.length - i) c2 ad n c (encs (Value.int .i64) ys) ht (by kernel_rfl) (by rw [hkl];show n=min n (xs.length - i);omega) hsrc
  (fun j hj=>by rw [cell_of_row W g _ cur 3 (0,0) hh];simp;omega) (fun j _=>blk_frozen hh _) (by intro u hu;simp only [encs,List.mem_map] at hu;obtain ⟨q,_,rfl⟩:=hu;rfl)
 obtain ⟨cur',h3,h4,h5⟩:=setCells_row (encs (Value.int .i64) ys) i W cur hh (by rw [hkl];omega);obtain ⟨s1,s2,s3,s4⟩:=setCells_same g (encs (Value.int .i64) ys) i W
 have hln:(xs.take i++ys++xs.drop (i+n)).length=xs.length:=by
  rw [List.length_append,List.length_append,List.length_take,List.length_drop,hm];omega
 have hR2:(Kd.int .i64).R 3 (W.setCells g i (encs (Value.int .i64) ys)) base ok (.slice (some ⟨g,0,none⟩) (xs.take i++ys++xs.drop (i+n)).length cap) (xs.take i++ys++xs.drop (i+n)):=by
  refine Kd.R_of_own (enc:=Value.int .i64) (h1:=fun _=>rfl) ?_ (by rw [hln];exact HO.1);rw [hln];refine ⟨by rw [encs_length,hln,Nat.mul_one],.inr ⟨g,cap,cur',rfl,hb,h3,hnc,hcm,by rw [h4,hcs],?_⟩⟩;have htk:cur.toList.take xs.length=encs (Value.int .i64) xs:=by rw [←htake,Nat.mul_one]
  have htk2:cur.toList.take i=encs (Value.int .i64) (xs.take i):=by
   have:cur.toList.take i=(cur.toList.take xs.length).take i:=by rw [List.take_take,Nat.min_eq_left (by omega)]
   rw [this,htk];simp [encs,List.map_take]
  have hdr:(cur.toList.drop (i+n)).take (xs.length - (i+n))=encs (Value.int .i64) (xs.drop (i+n)):=by
   have:encs (Value.int .i64) (xs.drop (i+n))=(encs (Value.int .i64) xs).drop (i+n):=by simp [encs,List.map_drop]
   rw [this,←htk,List.drop_take]
  rw [h5,hkl,Nat.mul_one,htk2,encs_append,encs_append,←hdr];have hl1:(encs (Value.int .i64) (xs.take i)++encs (Value.int .i64) ys).length=i+n:=by rw [List.length_append,encs_length,encs_length,List.length_take,hm];omega
  rw [List.take_append,hl1,List.take_of_length_le (by rw [hl1];omega)]
 rw [hln] at hR2;refine ⟨_,by rw [hrun,hkl];rfl,hR2,⟨s1,s2,s3,by rw [s4];exact Nat.le_refl _,fun k _ hk=>setCells_far _ _ k hk⟩⟩
section
variable {P:Program} {ops:Array Oper} {Q:Exit→Act→World→Prop}
theorem copyK_ {oi:Oper} {N:Option Tmp} {a:Act} {w w1:World} {K:Act→World→Prop} {d s:Operand} {t t':TypeId} {v u v':Value} (hw:Region.wanted oi (yielded ops a.tmps)=true) (hN:oi.dst=N)
  (hop:oi.op= .call {callee:= .builtin .copy,args:= #[d,s],argTypes:= #[t,t']}) (hd:a.eval d=v) (hs:a.eval s=u) (hr:(Builtin.copy_ #[t,t'] oi.type #[v,u]).run P w= .ok v' w1) (h:K (a.put N v') w1):
  if Region.wanted oi (yielded ops a.tmps)=true then Oper.wp P oi a w K Q else K (a.put N undef) w:=by
 rw [if_pos hw];subst hN;unfold Oper.wp execOp;simp only [hop,resolve,invoke,builtin,Sem.run_bind,Sem.run_pure,Result.andThen_ok,List.map_toArray,List.map_cons,List.map_nil,hd,hs,hr]
 exact h
theorem mapK_ {oi:Oper} {a:Act} {w w1:World} {K:Act→World→Prop} {m x y:Operand} {t:TypeId} {v u z:Value} (hw:Region.wanted oi (yielded ops a.tmps)=true) (hN:oi.dst=none)
  (hop:oi.op= .mapUpdate t m x y) (hm:a.eval m=v) (hx:a.eval x=u) (hy:a.eval y=z) (hr:(Instr.mapUpdate t v u z).run P w= .ok () w1) (h:K a w1):
  if Region.wanted oi (yielded ops a.tmps)=true then Oper.wp P oi a w K Q else K (a.put none undef) w:=by
 refine skip_ hw hN ?_ h;unfold execOp;simp [hop,hm,hx,hy,hr,Result.andThen]
end
end Go.Proofs.Ytbaklikaoleplaa.K
