import Derived.Test.YtbaklikaoleplaaPh24
import Derived.Test.YtbaklikaoleplaaPh25
import Derived.Maps.OwnSet
import Derived.Laws.IdiomCopy
set_option maxHeartbeats 32000000
set_option maxRecDepth 100000
namespace Go.Proofs.Ytbaklikaoleplaa.K
open Go.RowKit Go.Proofs.YtbaklikaoleplaaW.PrintWords Go.Proofs.YtbaklikaoleplaaW.PrintLast Go.Proofs.YtbaklikaoleplaaW.PrintMore
attribute [local go_sem] gD gB gY gW fR fQ gC gA
set_option linter.unusedVariables false
set_option linter.unusedSimpArgs false
def bBa (m:Mm) (at_ v x:Int):Option Bool:=if at_>m.young then (if v>m.young then some true else (if 0≤wrap64 (Int.tdiv (wrap64 (x - m.young)) 4)∧wrap64 (Int.tdiv (wrap64 (x - m.young)) 4)<m.cards.length then some (kK false m.cards (wrap64 (Int.tdiv (wrap64 (x - m.young)) 4))) else none)) else some true
def zX (q:Nat) (m:Mm) (at_ k:Int):Option Bool:=(kZ m at_).bind fun a=>if 0≤a+k∧a+k<m.words.length then (nV m at_ k).bind fun b=>if b=true then (if rd m.words (a+k)=0 then some true else (qK q m (rd m.words (a+k))).bind fun h=>if h=true then bBa m at_ (rd m.words (a+k)) (a+k) else some false) else qR (rd m.words (a+k)) else none
def wordsOk.l (q:Nat) (m:Mm) (at_ n:Int):Nat→Int→Option Bool
  |0,_=>none
  |j+1,k=>if k<n then (zX q m at_ k).bind fun ok=>if ok=true then wordsOk.l q m at_ n j (k+1) else some false else some true
def tR (q:Nat) (m:Mm) (at_:Int):Option Bool:=(nW m at_).bind fun n=>if n≤1099511627776 then wordsOk.l q m at_ n (n.toNat+1) 0 else none
theorem xT (q g : Nat) (m : Mm) (at_ : Int) (r : Bool) (w : World) (hm : MV w g m) (h : tR q m at_ = some r) :
  Calls Try.prog 70 #[bHc g at_] w fun e w'=>e= .returned (.bool r)∧Below w.heap.size w w':=by
 unfold tR at h;obtain ⟨n,hn,h⟩:=Option.bind_eq_some_iff.mp h
 split at h
 case isFalse=>simp at h
 case isTrue hn2=>
 have HN:=aK hn;have HM:=aK hm;have HA:=aK h;have HN2:=aK hn2;clear hm hn h hn2;unfold bHc;go_enter Try.func70,Try.ntmps70
 go_wp2_with fail
 go_at_call 84;refine (tZ g m at_ n _ (dH HM.out (bJ (bH _ _) _)) HN.out).mono ?_;rintro e w1 ⟨rfl,hb⟩;have HB1:=aK (bK (bJ (bH _ _) _) hb:Below w.heap.size w w1);have HX1:=aK (bCs hb);clear hb;go_wp2
 go_loopw [8] (fun i wr=> ∃(j:Nat) (k:Int),i= .int .i64 k∧Aside0 (wordsOk.l q m at_ n j k=some r)∧Aside0 (0≤k)∧Aside0 (wr.heap[w.heap.size]? =some (.cells #[.pointer (some ⟨g,0,none⟩),.int .i64 at_] 102 (0,0)))∧Aside0 (Below w.heap.size w wr)) (fun i _=>(n - intOf i).toNat)
 case atStart=>exact ⟨n.toNat+1,0,rfl,HA,⟨vW _⟩,HX1,HB1⟩
 case round =>
  clear HA HX1 HB1;obtain ⟨j,k,rfl,HA,HK,HX,HB⟩:=hrel
  cases j with
  |zero=>exact absurd HA.out (by simp [wordsOk.l])
  | succ j1 =>
   have H:=HA.out;clear HA;unfold wordsOk.l at H;by_cases c0:k<n
   case neg=>
    rw [if_neg c0] at H;have d0:decide (k<n)=false:=bM c0
    have HR:=aK (bE H);clear H c0;go_wp2;go_ret;exact ⟨by rw [←HR.out];rfl,HB.out⟩
   case pos =>
    rw [if_pos c0] at H;have d0:decide (k<n)=true:=bD c0
    obtain ⟨ok,hk,H⟩:=Option.bind_eq_some_iff.mp H;unfold zX at hk;obtain ⟨a,ha,hk⟩:=Option.bind_eq_some_iff.mp hk
    split at hk
    case isFalse=>simp at hk
    case isTrue hx=>
    obtain ⟨b,hb,hk⟩:=Option.bind_eq_some_iff.mp hk;have lf:=bBj ha;have HFi:=aK ha;have HLe:=aK hb;obtain ⟨x,hx0⟩: ∃x,x=a+k:=⟨_,rfl⟩;have q1:IntKind.i64.wrap (a+k)=x:=by rw [hx0];exact dD _ ⟨by omega,by omega⟩
    rw [←hx0] at hk hx;obtain ⟨v,hv⟩: ∃v,v=rd m.words x:=⟨_,rfl⟩;rw [←hv] at hk;have HV:=aK hv;have p1:=bO hx.1;have p2:=bO hx.2;have HXw:=aK (show x<(m.words.length:Int)∧0≤x from ⟨hx.2,hx.1⟩);have HLf:=aK lf;have HC0:=aK c0;obtain ⟨k1,hk1⟩: ∃k1,k1=k+1:=⟨_,rfl⟩;have q2:IntKind.i64.wrap (k+1)=k1:=by rw [hk1];exact dD _ ⟨by have:=HK.out;omega,by have:=HN2.out;omega⟩
    have HK1:=aK hk1;rw [←hk1] at H;have HH:=aK H;have HQ:=aK hk;clear ha hb hx0 hx hv lf c0 hk1 H hk
    cases b with
    | false =>
     have hq:=HQ.out;rw [if_neg (by simp)] at hq;have HQ2:=aK hq;clear hq HQ
     cases ok with
     |false=>
      have HZ:=aK (show false=r by have:=HH.out;rw [if_neg (by simp)] at this;exact bE this);clear HH;have b0:=(bA HX.out 0).trans rfl;have b1:=(bA HX.out 1).trans rfl
      go_wp2_with fail
      go_at_call 86;refine (kA g m at_ a _ (dH HM.out HB.out) HFi.out).mono ?_;rintro e w2 ⟨rfl,hb⟩;clear b0 b1;have HBn:=aK (bK HB.out hb);have HXn:=aK ((hb.block _ (dN HX.out)).trans HX.out);clear hb HB HX;have HB:=HBn;have HX:=HXn;clear HBn HXn;have b0:=(bA HX.out 0).trans rfl;have b1:=(bA HX.out 1).trans rfl;obtain ⟨AW,cW,AC,cC,AF,cF,AB,cB,h0,hW,hC,_⟩:=dH HM.out HB.out;obtain ⟨ad,e0,hcell⟩:=dL hW x (by have:=HXw.out;omega) (by have:=HXw.out;omega)
      cases e0
      rw [←HV.out] at hcell;have g0:=(bA h0 0).trans rfl;have G0:=aK h0;have HCc:=aK hC;clear h0 hW hC
      go_wp2_with fail
      go_at_call 85;refine (kP g m at_ k false _ (dH HM.out HB.out) HLe.out).mono ?_;rintro e w3 ⟨rfl,hb⟩;clear b0 b1 hcell g0;have G0n:=aK ((hb.block _ (dN G0.out)).trans G0.out);have HCn:=aK (cG HCc.out hb);clear G0 HCc;have G0:=G0n;have HCc:=HCn;clear G0n HCn;have HBn:=aK (bK HB.out hb);have HXn:=aK ((hb.block _ (dN HX.out)).trans HX.out);clear hb HB HX;have HB:=HBn;have HX:=HXn;clear HBn HXn
      go_wp2_with (go_at_call 101;refine (zV v false _ HQ2.out).mono ?_;rintro e w4 ⟨rfl,hd⟩;have hb:=hd.below;have HBn:=aK (bK HB.out hb);have HXn:=aK ((hb.block _ (dN HX.out)).trans HX.out);clear hd hb HB HX;have HB:=HBn;have HX:=HXn;clear HBn HXn)
      go_ret;exact ⟨by rw [←HZ.out];rfl,HB.out⟩
     |true=>
      have HZ:=aK (show wordsOk.l q m at_ n j1 k1=some r by have:=HH.out;rw [if_pos rfl] at this;exact this);clear HH;have b0:=(bA HX.out 0).trans rfl;have b1:=(bA HX.out 1).trans rfl
      go_wp2_with fail
      go_at_call 86;refine (kA g m at_ a _ (dH HM.out HB.out) HFi.out).mono ?_;rintro e w2 ⟨rfl,hb⟩;clear b0 b1;have HBn:=aK (bK HB.out hb);have HXn:=aK ((hb.block _ (dN HX.out)).trans HX.out);clear hb HB HX;have HB:=HBn;have HX:=HXn;clear HBn HXn;have b0:=(bA HX.out 0).trans rfl;have b1:=(bA HX.out 1).trans rfl;obtain ⟨AW,cW,AC,cC,AF,cF,AB,cB,h0,hW,hC,_⟩:=dH HM.out HB.out;obtain ⟨ad,e0,hcell⟩:=dL hW x (by have:=HXw.out;omega) (by have:=HXw.out;omega)
      cases e0
      rw [←HV.out] at hcell;have g0:=(bA h0 0).trans rfl;have G0:=aK h0;have HCc:=aK hC;clear h0 hW hC
      go_wp2_with fail
      go_at_call 85;refine (kP g m at_ k false _ (dH HM.out HB.out) HLe.out).mono ?_;rintro e w3 ⟨rfl,hb⟩;clear b0 b1 hcell g0;have G0n:=aK ((hb.block _ (dN G0.out)).trans G0.out);have HCn:=aK (cG HCc.out hb);clear G0 HCc;have G0:=G0n;have HCc:=HCn;clear G0n HCn;have HBn:=aK (bK HB.out hb);have HXn:=aK ((hb.block _ (dN HX.out)).trans HX.out);clear hb HB HX;have HB:=HBn;have HX:=HXn;clear HBn HXn
      go_wp2_with (go_at_call 101;refine (zV v true _ HQ2.out).mono ?_;rintro e w4 ⟨rfl,hd⟩;have hb:=hd.below;have HBn:=aK (bK HB.out hb);have HXn:=aK ((hb.block _ (dN HX.out)).trans HX.out);clear hd hb HB HX;have HB:=HBn;have HX:=HXn;clear HBn HXn)
      go_roundw
      case rel=>exact ⟨j1,k1,rfl,HZ,⟨by have:=HK1.out;have:=HK.out;omega⟩,HX,HB⟩
      case measure=>have:=HK1.out;have:=HC0.out;have:=HK.out;show (n - k1).toNat<(n - k).toNat;omega
    | true =>
     have hq:=HQ.out;rw [if_pos rfl] at hq;by_cases c1:v=0
     ·rw [if_pos c1] at hq
      have e1:(v !=0)=false:=by rw [c1];rfl
      have HQ2:=aK (bE hq);clear hq HQ c1;obtain rfl:=HQ2.out;have HZ:=aK (show wordsOk.l q m at_ n j1 k1=some r by have:=HH.out;rw [if_pos rfl] at this;exact this);clear HH;have b0:=(bA HX.out 0).trans rfl;have b1:=(bA HX.out 1).trans rfl
      go_wp2_with fail
      go_at_call 86;refine (kA g m at_ a _ (dH HM.out HB.out) HFi.out).mono ?_;rintro e w2 ⟨rfl,hb⟩;clear b0 b1;have HBn:=aK (bK HB.out hb);have HXn:=aK ((hb.block _ (dN HX.out)).trans HX.out);clear hb HB HX;have HB:=HBn;have HX:=HXn;clear HBn HXn;have b0:=(bA HX.out 0).trans rfl;have b1:=(bA HX.out 1).trans rfl;obtain ⟨AW,cW,AC,cC,AF,cF,AB,cB,h0,hW,hC,_⟩:=dH HM.out HB.out;obtain ⟨ad,e0,hcell⟩:=dL hW x (by have:=HXw.out;omega) (by have:=HXw.out;omega)
      cases e0
      rw [←HV.out] at hcell;have g0:=(bA h0 0).trans rfl;have G0:=aK h0;have HCc:=aK hC;clear h0 hW hC
      go_wp2_with fail
      go_at_call 85;refine (kP g m at_ k true _ (dH HM.out HB.out) HLe.out).mono ?_;rintro e w3 ⟨rfl,hb⟩;clear b0 b1 hcell g0;have G0n:=aK ((hb.block _ (dN G0.out)).trans G0.out);have HCn:=aK (cG HCc.out hb);clear G0 HCc;have G0:=G0n;have HCc:=HCn;clear G0n HCn;have HBn:=aK (bK HB.out hb);have HXn:=aK ((hb.block _ (dN HX.out)).trans HX.out);clear hb HB HX;have HB:=HBn;have HX:=HXn;clear HBn HXn;go_wp2
      go_roundw
      case rel=>exact ⟨j1,k1,rfl,HZ,⟨by have:=HK1.out;have:=HK.out;omega⟩,HX,HB⟩
      case measure=>have:=HK1.out;have:=HC0.out;have:=HK.out;show (n - k1).toNat<(n - k).toNat;omega
     rw [if_neg c1] at hq;have e1:(v !=0)=true:=bne_iff_ne.mpr c1
     obtain ⟨h,hh,hq⟩:=Option.bind_eq_some_iff.mp hq;have HHa:=aK hh;clear hh c1 HQ
     cases h with
     |false=>
      rw [if_neg (by simp)] at hq;have HQ2:=aK (bE hq);clear hq;obtain rfl:=HQ2.out;have HZ:=aK (show false=r by have:=HH.out;rw [if_neg (by simp)] at this;exact bE this);clear HH;have b0:=(bA HX.out 0).trans rfl;have b1:=(bA HX.out 1).trans rfl
      go_wp2_with fail
      go_at_call 86;refine (kA g m at_ a _ (dH HM.out HB.out) HFi.out).mono ?_;rintro e w2 ⟨rfl,hb⟩;clear b0 b1;have HBn:=aK (bK HB.out hb);have HXn:=aK ((hb.block _ (dN HX.out)).trans HX.out);clear hb HB HX;have HB:=HBn;have HX:=HXn;clear HBn HXn;have b0:=(bA HX.out 0).trans rfl;have b1:=(bA HX.out 1).trans rfl;obtain ⟨AW,cW,AC,cC,AF,cF,AB,cB,h0,hW,hC,_⟩:=dH HM.out HB.out;obtain ⟨ad,e0,hcell⟩:=dL hW x (by have:=HXw.out;omega) (by have:=HXw.out;omega)
      cases e0
      rw [←HV.out] at hcell;have g0:=(bA h0 0).trans rfl;have G0:=aK h0;have HCc:=aK hC;clear h0 hW hC
      go_wp2_with fail
      go_at_call 85;refine (kP g m at_ k true _ (dH HM.out HB.out) HLe.out).mono ?_;rintro e w3 ⟨rfl,hb⟩;clear b0 b1 hcell g0;have G0n:=aK ((hb.block _ (dN G0.out)).trans G0.out);have HCn:=aK (cG HCc.out hb);clear G0 HCc;have G0:=G0n;have HCc:=HCn;clear G0n HCn;have HBn:=aK (bK HB.out hb);have HXn:=aK ((hb.block _ (dN HX.out)).trans HX.out);clear hb HB HX;have HB:=HBn;have HX:=HXn;clear HBn HXn;have b0:=(bA HX.out 0).trans rfl;have b1:=(bA HX.out 1).trans rfl
      go_wp2_with (go_at_call 78;refine (pN q g m v false _ (dH HM.out HB.out) HHa.out).mono ?_;rintro e w5 ⟨rfl,hd⟩;have hb:=hd.below;have HBn:=aK (bK HB.out hb);have HXn:=aK ((hb.block _ (dN HX.out)).trans HX.out);have G0n:=aK ((hb.block _ (dN G0.out)).trans G0.out);have HCn:=aK (cG HCc.out hb);clear hd hb HB HX G0 HCc b0 b1;have HB:=HBn;have HX:=HXn;have G0:=G0n;have HCc:=HCn;clear HBn HXn G0n HCn)
      go_ret;exact ⟨by rw [←HZ.out];rfl,HB.out⟩
     | true =>
      rw [if_pos rfl] at hq;unfold bBa at hq;by_cases c2:at_>m.young
      ·rw [if_pos c2] at hq
       have O1:=aK (bD c2);clear c2;by_cases c3:v>m.young
       ·rw [if_pos c3] at hq
        have O2:=aK (bD c3);have HQ2:=aK (bE hq);clear hq c3;obtain rfl:=HQ2.out;have HZ:=aK (show wordsOk.l q m at_ n j1 k1=some r by have:=HH.out;rw [if_pos rfl] at this;exact this);clear HH;have b0:=(bA HX.out 0).trans rfl;have b1:=(bA HX.out 1).trans rfl
        go_wp2_with fail
        go_at_call 86;refine (kA g m at_ a _ (dH HM.out HB.out) HFi.out).mono ?_;rintro e w2 ⟨rfl,hb⟩;clear b0 b1;have HBn:=aK (bK HB.out hb);have HXn:=aK ((hb.block _ (dN HX.out)).trans HX.out);clear hb HB HX;have HB:=HBn;have HX:=HXn;clear HBn HXn;have b0:=(bA HX.out 0).trans rfl;have b1:=(bA HX.out 1).trans rfl;obtain ⟨AW,cW,AC,cC,AF,cF,AB,cB,h0,hW,hC,_⟩:=dH HM.out HB.out;obtain ⟨ad,e0,hcell⟩:=dL hW x (by have:=HXw.out;omega) (by have:=HXw.out;omega)
        cases e0
        rw [←HV.out] at hcell;have g0:=(bA h0 0).trans rfl;have G0:=aK h0;have HCc:=aK hC;clear h0 hW hC
        go_wp2_with fail
        go_at_call 85;refine (kP g m at_ k true _ (dH HM.out HB.out) HLe.out).mono ?_;rintro e w3 ⟨rfl,hb⟩;clear b0 b1 hcell g0;have G0n:=aK ((hb.block _ (dN G0.out)).trans G0.out);have HCn:=aK (cG HCc.out hb);clear G0 HCc;have G0:=G0n;have HCc:=HCn;clear G0n HCn;have HBn:=aK (bK HB.out hb);have HXn:=aK ((hb.block _ (dN HX.out)).trans HX.out);clear hb HB HX;have HB:=HBn;have HX:=HXn;clear HBn HXn;have b0:=(bA HX.out 0).trans rfl;have b1:=(bA HX.out 1).trans rfl
        go_wp2_with (go_at_call 78;refine (pN q g m v true _ (dH HM.out HB.out) HHa.out).mono ?_;rintro e w5 ⟨rfl,hd⟩;have hb:=hd.below;have HBn:=aK (bK HB.out hb);have HXn:=aK ((hb.block _ (dN HX.out)).trans HX.out);have G0n:=aK ((hb.block _ (dN G0.out)).trans G0.out);have HCn:=aK (cG HCc.out hb);clear hd hb HB HX G0 HCc b0 b1;have HB:=HBn;have HX:=HXn;have G0:=G0n;have HCc:=HCn;clear HBn HXn G0n HCn;have b0:=(bA HX.out 0).trans rfl;have b1:=(bA HX.out 1).trans rfl;have g0:=(bA G0.out 0).trans rfl;have g1:=(bA G0.out 1).trans rfl;have g2:=(bA G0.out 2).trans rfl;have g3:=(bA G0.out 3).trans rfl;have g4:=(bA G0.out 4).trans rfl;have HM1:=aK (dH HM.out HB.out);try clear HCc)
        refine sT 36 (S:=fun w'=>Aside0 (Below w.heap.size w w')∧Aside0 (MV w' g (m))∧Aside0 (w'.heap[w.heap.size]? =some (.cells #[.pointer (some ⟨g,0,none⟩),.int .i64 at_] 102 (0,0)))∧w'.cell? (⟨w.heap.size,0,none⟩)=some (.pointer (some ⟨g,0,none⟩))∧w'.cell? (⟨w.heap.size,1,none⟩)=some (.int .i64 at_)∧w'.cell? (⟨g,0,none⟩)=some (.slice (some ad) m.words.length cW)∧w'.cell? (⟨g,1,none⟩)=some (.int .i64 m.young)∧w'.cell? (⟨g,2,none⟩)=some (.int .i64 m.top)∧w'.cell? (⟨g,3,none⟩)=some (.int .i64 m.old)∧w'.cell? (⟨g,4,none⟩)=some (.slice AC m.cards.length cC)) (ds:=[]) ⟨⟨bG HB.out⟩,⟨dH HM1.out (bG (bH _ _))⟩,⟨bY HX.out⟩,(by go_simp),(by go_simp),(by go_simp),(by go_simp),(by go_simp),(by go_simp),(by go_simp)⟩ (fun hHeld=>?_);refine cJ 0 ?_;refine cJ 5 ?_;refine tS 1 41 (lA 36 35) rfl rfl (by kernel_rfl) hHeld bKw ?_;refine cJ 2 ?_;refine cJ 3 ?_;refine tS 4 44 (lA 36 63) rfl rfl (by kernel_rfl) hHeld bKw ?_;refine tS 6 46 (lA 36 127) rfl rfl (by kernel_rfl) hHeld bKw ?_;refine oS 7 47 (lA 36 255) rfl rfl (fun K hK=>?_);refine gO Try.func81 #[.agg #[.slice (some ad) m.words.length cW,.int .i64 m.young,.int .i64 m.top,.int .i64 m.old,.slice AC m.cards.length cC],.int .i64 at_] ?_;(with_reducible refine (mY (some ad) m.words.length cW m.young m.top m.old AC m.cards.length cC at_ true _ O1.out).mono ?_);rintro e w9 ⟨rfl,hb3⟩;refine ⟨_,rfl,?_⟩;refine hK.out _ _ ⟨⟨bK hHeld.1.out hb3⟩,⟨dH hHeld.2.1.out hb3⟩,⟨(hb3.block _ (dN hHeld.2.2.1.out)).trans hHeld.2.2.1.out⟩,(b7_7 hb3 hHeld.2.2.2)⟩ (fun hHeld=>?_);clear hK K;refine nS 47 ?_;refine cJ 8 ?_;refine cJ 9 ?_;refine cJ 14 ?_;refine tS 10 50 (lA 36 18431) rfl rfl (by kernel_rfl) hHeld bKw ?_;refine cJ 11 ?_;refine cJ 12 ?_;refine tS 13 53 (lA 36 32767) rfl rfl (by kernel_rfl) hHeld bKw ?_;refine oS 15 55 (lA 36 65535) rfl rfl (fun K hK=>?_);refine gO Try.func81 #[.agg #[.slice (some ad) m.words.length cW,.int .i64 m.young,.int .i64 m.top,.int .i64 m.old,.slice AC m.cards.length cC],.int .i64 v] ?_;(with_reducible refine (mY (some ad) m.words.length cW m.young m.top m.old AC m.cards.length cC v true _ O2.out).mono ?_);rintro e w9 ⟨rfl,hb3⟩;refine ⟨_,rfl,?_⟩;refine hK.out _ _ ⟨⟨bK hHeld.1.out hb3⟩,⟨dH hHeld.2.1.out hb3⟩,⟨(hb3.block _ (dN hHeld.2.2.1.out)).trans hHeld.2.2.1.out⟩,(b7_7 hb3 hHeld.2.2.2)⟩ (fun hHeld=>?_);clear hK K;refine nS 55 ?_;refine cJ 16 ?_;refine cJ 17 ?_;refine cJ 18 ?_;refine fW 19 ?_;refine fW 20 ?_;refine fW 21 ?_;refine fW 22 ?_;refine fW 23 ?_;refine fW 24 ?_;refine fW 25 ?_;refine fW 26 ?_;refine fW 27 ?_;refine fW 28 ?_;refine fW 29 ?_;refine fW 30 ?_;refine fW 31 ?_;refine fW 32 ?_;refine fW 33 ?_;refine fW 34 ?_;refine cJ 35 ?_;refine gT (by kernel_rfl) ?_;have HBn:=hHeld.1;have HXn:=hHeld.2.2.1;clear hHeld HB HX;have HB:=HBn;have HX:=HXn;clear HBn HXn;go_wp2
        go_roundw
        case rel=>exact ⟨j1,k1,rfl,HZ,⟨by have:=HK1.out;have:=HK.out;omega⟩,HX,HB⟩
        case measure=>have:=HK1.out;have:=HC0.out;have:=HK.out;show (n - k1).toNat<(n - k).toNat;omega
       ·rw [if_neg c3] at hq
        have O2:=aK (bM c3);clear c3;obtain ⟨cj,hcj⟩: ∃cj,cj=wrap64 (x - m.young):=⟨_,rfl⟩;obtain ⟨ci,hci⟩: ∃ci,ci=wrap64 (Int.tdiv cj 4):=⟨_,rfl⟩;rw [←hcj,←hci] at hq;have O3:=aK (show IntKind.i64.wrap (x - m.young)=cj by rw [hcj,mN]);have O4:=aK (show wrap64 (Int.tdiv cj 4)=ci from hci.symm);clear hcj hci
        split at hq
        case isFalse=>simp at hq
        case isTrue ht=>
        have t1:=bO ht.1;have t2:=bO ht.2;obtain ⟨cv,hcv⟩: ∃cv,cv=kK false m.cards ci:=⟨_,rfl⟩;rw [←hcv] at hq;have O5:=aK hcv.symm;have HQ2:=aK (bE hq);clear hq ht hcv;obtain rfl:=HQ2.out
        cases cv with
        |false=>
         have HZ:=aK (show false=r by have:=HH.out;rw [if_neg (by simp)] at this;exact bE this);clear HH;have b0:=(bA HX.out 0).trans rfl;have b1:=(bA HX.out 1).trans rfl
         go_wp2_with fail
         go_at_call 86;refine (kA g m at_ a _ (dH HM.out HB.out) HFi.out).mono ?_;rintro e w2 ⟨rfl,hb⟩;clear b0 b1;have HBn:=aK (bK HB.out hb);have HXn:=aK ((hb.block _ (dN HX.out)).trans HX.out);clear hb HB HX;have HB:=HBn;have HX:=HXn;clear HBn HXn;have b0:=(bA HX.out 0).trans rfl;have b1:=(bA HX.out 1).trans rfl;obtain ⟨AW,cW,AC,cC,AF,cF,AB,cB,h0,hW,hC,_⟩:=dH HM.out HB.out;obtain ⟨ad,e0,hcell⟩:=dL hW x (by have:=HXw.out;omega) (by have:=HXw.out;omega)
         cases e0
         rw [←HV.out] at hcell;have g0:=(bA h0 0).trans rfl;have G0:=aK h0;have HCc:=aK hC;clear h0 hW hC
         go_wp2_with fail
         go_at_call 85;refine (kP g m at_ k true _ (dH HM.out HB.out) HLe.out).mono ?_;rintro e w3 ⟨rfl,hb⟩;clear b0 b1 hcell g0;have G0n:=aK ((hb.block _ (dN G0.out)).trans G0.out);have HCn:=aK (cG HCc.out hb);clear G0 HCc;have G0:=G0n;have HCc:=HCn;clear G0n HCn;have HBn:=aK (bK HB.out hb);have HXn:=aK ((hb.block _ (dN HX.out)).trans HX.out);clear hb HB HX;have HB:=HBn;have HX:=HXn;clear HBn HXn;have b0:=(bA HX.out 0).trans rfl;have b1:=(bA HX.out 1).trans rfl
         go_wp2_with (go_at_call 78;refine (pN q g m v true _ (dH HM.out HB.out) HHa.out).mono ?_;rintro e w5 ⟨rfl,hd⟩;have hb:=hd.below;have HBn:=aK (bK HB.out hb);have HXn:=aK ((hb.block _ (dN HX.out)).trans HX.out);have G0n:=aK ((hb.block _ (dN G0.out)).trans G0.out);have HCn:=aK (cG HCc.out hb);clear hd hb HB HX G0 HCc b0 b1;have HB:=HBn;have HX:=HXn;have G0:=G0n;have HCc:=HCn;clear HBn HXn G0n HCn;have b0:=(bA HX.out 0).trans rfl;have b1:=(bA HX.out 1).trans rfl;have g0:=(bA G0.out 0).trans rfl;have g1:=(bA G0.out 1).trans rfl;have g2:=(bA G0.out 2).trans rfl;have g3:=(bA G0.out 3).trans rfl;have g4:=(bA G0.out 4).trans rfl;have HM1:=aK (dH HM.out HB.out);obtain ⟨ad4,e4,hc4⟩:=kN HCc.out ci (of_eq_true t1) (of_eq_true t2);cases e4;rw [O5.out] at hc4;try clear HCc)
         refine sT 36 (S:=fun w'=>Aside0 (Below w.heap.size w w')∧Aside0 (MV w' g (m))∧Aside0 (w'.heap[w.heap.size]? =some (.cells #[.pointer (some ⟨g,0,none⟩),.int .i64 at_] 102 (0,0)))∧w'.cell? (⟨w.heap.size,0,none⟩)=some (.pointer (some ⟨g,0,none⟩))∧w'.cell? (⟨w.heap.size,1,none⟩)=some (.int .i64 at_)∧w'.cell? (⟨g,0,none⟩)=some (.slice (some ad) m.words.length cW)∧w'.cell? (⟨g,1,none⟩)=some (.int .i64 m.young)∧w'.cell? (⟨g,2,none⟩)=some (.int .i64 m.top)∧w'.cell? (⟨g,3,none⟩)=some (.int .i64 m.old)∧w'.cell? (⟨g,4,none⟩)=some (.slice (some ad4) m.cards.length cC)∧w'.cell? (ad4.add ci.toNat)=some (.bool false)) (ds:=[]) ⟨⟨bG HB.out⟩,⟨dH HM1.out (bG (bH _ _))⟩,⟨bY HX.out⟩,(by go_simp),(by go_simp),(by go_simp),(by go_simp),(by go_simp),(by go_simp),(by go_simp),(by go_simp)⟩ (fun hHeld=>?_);refine cJ 0 ?_;refine cJ 5 ?_;refine tS 1 41 (lA 36 35) rfl rfl (by kernel_rfl) hHeld bAf ?_;refine cJ 2 ?_;refine cJ 3 ?_;refine tS 4 44 (lA 36 63) rfl rfl (by kernel_rfl) hHeld bAf ?_;refine tS 6 46 (lA 36 127) rfl rfl (by kernel_rfl) hHeld bAf ?_;refine oS 7 47 (lA 36 255) rfl rfl (fun K hK=>?_);refine gO Try.func81 #[.agg #[.slice (some ad) m.words.length cW,.int .i64 m.young,.int .i64 m.top,.int .i64 m.old,.slice (some ad4) m.cards.length cC],.int .i64 at_] ?_;(with_reducible refine (mY (some ad) m.words.length cW m.young m.top m.old (some ad4) m.cards.length cC at_ true _ O1.out).mono ?_);rintro e w9 ⟨rfl,hb3⟩;refine ⟨_,rfl,?_⟩;refine hK.out _ _ ⟨⟨bK hHeld.1.out hb3⟩,⟨dH hHeld.2.1.out hb3⟩,⟨(hb3.block _ (dN hHeld.2.2.1.out)).trans hHeld.2.2.1.out⟩,(bU hb3 hHeld.2.2.2.1),(bU hb3 hHeld.2.2.2.2.1),(bU hb3 hHeld.2.2.2.2.2.1),(bU hb3 hHeld.2.2.2.2.2.2.1),(bU hb3 hHeld.2.2.2.2.2.2.2.1),(bU hb3 hHeld.2.2.2.2.2.2.2.2.1),(bU hb3 hHeld.2.2.2.2.2.2.2.2.2.1),(bU hb3 hHeld.2.2.2.2.2.2.2.2.2.2)⟩ (fun hHeld=>?_);clear hK K;refine nS 47 ?_;refine cJ 8 ?_;refine cJ 9 ?_;refine cJ 14 ?_;refine tS 10 50 (lA 36 18431) rfl rfl (by kernel_rfl) hHeld bAf ?_;refine cJ 11 ?_;refine cJ 12 ?_;refine tS 13 53 (lA 36 32767) rfl rfl (by kernel_rfl) hHeld bAf ?_;refine oS 15 55 (lA 36 65535) rfl rfl (fun K hK=>?_);refine gO Try.func81 #[.agg #[.slice (some ad) m.words.length cW,.int .i64 m.young,.int .i64 m.top,.int .i64 m.old,.slice (some ad4) m.cards.length cC],.int .i64 v] ?_;(with_reducible refine (mY (some ad) m.words.length cW m.young m.top m.old (some ad4) m.cards.length cC v false _ O2.out).mono ?_);rintro e w9 ⟨rfl,hb3⟩;refine ⟨_,rfl,?_⟩;refine hK.out _ _ ⟨⟨bK hHeld.1.out hb3⟩,⟨dH hHeld.2.1.out hb3⟩,⟨(hb3.block _ (dN hHeld.2.2.1.out)).trans hHeld.2.2.1.out⟩,(bU hb3 hHeld.2.2.2.1),(bU hb3 hHeld.2.2.2.2.1),(bU hb3 hHeld.2.2.2.2.2.1),(bU hb3 hHeld.2.2.2.2.2.2.1),(bU hb3 hHeld.2.2.2.2.2.2.2.1),(bU hb3 hHeld.2.2.2.2.2.2.2.2.1),(bU hb3 hHeld.2.2.2.2.2.2.2.2.2.1),(bU hb3 hHeld.2.2.2.2.2.2.2.2.2.2)⟩ (fun hHeld=>?_);clear hK K;refine nS 55 ?_;refine cJ 16 ?_;refine cJ 17 ?_;refine cJ 18 ?_;refine cJ 19 ?_;refine cJ 25 ?_;refine cJ 30 ?_;refine tS 20 60 (lA 36 1109393407) rfl rfl (by kernel_rfl) hHeld bAf ?_;refine cJ 21 ?_;refine cJ 22 ?_;refine cJ 23 ?_;refine tS 24 64 (lA 36 1140850687) rfl rfl (by kernel_rfl) hHeld bAf ?_;refine tS 26 66 (lA 36 1207959551) rfl rfl (by kernel_rfl) hHeld bAf ?_;refine cJ 27 ?_;refine cJ 28 ?_;refine tS 29 69 (lA 36 2147483647) rfl rfl (by kernel_rfl) hHeld bAf ?_;refine oS 31 71 (lA 36 4294967295) rfl rfl (fun K hK=>?_);refine gO Try.func57 #[.agg #[.slice (some ad) m.words.length cW,.int .i64 m.young,.int .i64 m.top,.int .i64 m.old,.slice (some ad4) m.cards.length cC],.int .i64 x] ?_;(with_reducible refine (zJ (some ad) m.words.length cW m.young m.top m.old (some ad4) m.cards.length cC x cj ci _ O3.out O4.out).mono ?_);rintro e w9 ⟨rfl,hb3⟩;refine ⟨_,rfl,?_⟩
         refine hK.out _ _ ⟨⟨bK hHeld.1.out hb3⟩,⟨dH hHeld.2.1.out hb3⟩,⟨(hb3.block _ (dN hHeld.2.2.1.out)).trans hHeld.2.2.1.out⟩,(bU hb3 hHeld.2.2.2.1),(bU hb3 hHeld.2.2.2.2.1),(bU hb3 hHeld.2.2.2.2.2.1),(bU hb3 hHeld.2.2.2.2.2.2.1),(bU hb3 hHeld.2.2.2.2.2.2.2.1),(bU hb3 hHeld.2.2.2.2.2.2.2.2.1),(bU hb3 hHeld.2.2.2.2.2.2.2.2.2.1),(bU hb3 hHeld.2.2.2.2.2.2.2.2.2.2)⟩ (fun hHeld=>?_);clear hK K;refine nS 71 ?_;refine cJ 32 ?_;refine tS 33 73 (lA 36 17179869183) rfl rfl (by kernel_rfl) hHeld bAf ?_;refine cJ 34 ?_;refine cJ 35 ?_;refine gT (by kernel_rfl) ?_;have HBn:=hHeld.1;have HXn:=hHeld.2.2.1;clear hHeld HB HX;have HB:=HBn;have HX:=HXn;clear HBn HXn;go_wp2;go_ret;exact ⟨by rw [←HZ.out];rfl,HB.out⟩
        |true=>
         have HZ:=aK (show wordsOk.l q m at_ n j1 k1=some r by have:=HH.out;rw [if_pos rfl] at this;exact this);clear HH;have b0:=(bA HX.out 0).trans rfl;have b1:=(bA HX.out 1).trans rfl
         go_wp2_with fail
         go_at_call 86;refine (kA g m at_ a _ (dH HM.out HB.out) HFi.out).mono ?_;rintro e w2 ⟨rfl,hb⟩;clear b0 b1;have HBn:=aK (bK HB.out hb);have HXn:=aK ((hb.block _ (dN HX.out)).trans HX.out);clear hb HB HX;have HB:=HBn;have HX:=HXn;clear HBn HXn;have b0:=(bA HX.out 0).trans rfl;have b1:=(bA HX.out 1).trans rfl;obtain ⟨AW,cW,AC,cC,AF,cF,AB,cB,h0,hW,hC,_⟩:=dH HM.out HB.out;obtain ⟨ad,e0,hcell⟩:=dL hW x (by have:=HXw.out;omega) (by have:=HXw.out;omega)
         cases e0
         rw [←HV.out] at hcell;have g0:=(bA h0 0).trans rfl;have G0:=aK h0;have HCc:=aK hC;clear h0 hW hC
         go_wp2_with fail
         go_at_call 85;refine (kP g m at_ k true _ (dH HM.out HB.out) HLe.out).mono ?_;rintro e w3 ⟨rfl,hb⟩;clear b0 b1 hcell g0;have G0n:=aK ((hb.block _ (dN G0.out)).trans G0.out);have HCn:=aK (cG HCc.out hb);clear G0 HCc;have G0:=G0n;have HCc:=HCn;clear G0n HCn;have HBn:=aK (bK HB.out hb);have HXn:=aK ((hb.block _ (dN HX.out)).trans HX.out);clear hb HB HX;have HB:=HBn;have HX:=HXn;clear HBn HXn;have b0:=(bA HX.out 0).trans rfl;have b1:=(bA HX.out 1).trans rfl
         go_wp2_with (go_at_call 78;refine (pN q g m v true _ (dH HM.out HB.out) HHa.out).mono ?_;rintro e w5 ⟨rfl,hd⟩;have hb:=hd.below;have HBn:=aK (bK HB.out hb);have HXn:=aK ((hb.block _ (dN HX.out)).trans HX.out);have G0n:=aK ((hb.block _ (dN G0.out)).trans G0.out);have HCn:=aK (cG HCc.out hb);clear hd hb HB HX G0 HCc b0 b1;have HB:=HBn;have HX:=HXn;have G0:=G0n;have HCc:=HCn;clear HBn HXn G0n HCn;have b0:=(bA HX.out 0).trans rfl;have b1:=(bA HX.out 1).trans rfl;have g0:=(bA G0.out 0).trans rfl;have g1:=(bA G0.out 1).trans rfl;have g2:=(bA G0.out 2).trans rfl;have g3:=(bA G0.out 3).trans rfl;have g4:=(bA G0.out 4).trans rfl;have HM1:=aK (dH HM.out HB.out);obtain ⟨ad4,e4,hc4⟩:=kN HCc.out ci (of_eq_true t1) (of_eq_true t2);cases e4;rw [O5.out] at hc4;try clear HCc)
         refine sT 36 (S:=fun w'=>Aside0 (Below w.heap.size w w')∧Aside0 (MV w' g (m))∧Aside0 (w'.heap[w.heap.size]? =some (.cells #[.pointer (some ⟨g,0,none⟩),.int .i64 at_] 102 (0,0)))∧w'.cell? (⟨w.heap.size,0,none⟩)=some (.pointer (some ⟨g,0,none⟩))∧w'.cell? (⟨w.heap.size,1,none⟩)=some (.int .i64 at_)∧w'.cell? (⟨g,0,none⟩)=some (.slice (some ad) m.words.length cW)∧w'.cell? (⟨g,1,none⟩)=some (.int .i64 m.young)∧w'.cell? (⟨g,2,none⟩)=some (.int .i64 m.top)∧w'.cell? (⟨g,3,none⟩)=some (.int .i64 m.old)∧w'.cell? (⟨g,4,none⟩)=some (.slice (some ad4) m.cards.length cC)∧w'.cell? (ad4.add ci.toNat)=some (.bool true)) (ds:=[]) ⟨⟨bG HB.out⟩,⟨dH HM1.out (bG (bH _ _))⟩,⟨bY HX.out⟩,(by go_simp),(by go_simp),(by go_simp),(by go_simp),(by go_simp),(by go_simp),(by go_simp),(by go_simp)⟩ (fun hHeld=>?_);refine cJ 0 ?_;refine cJ 5 ?_;refine tS 1 41 (lA 36 35) rfl rfl (by kernel_rfl) hHeld bAf ?_;refine cJ 2 ?_;refine cJ 3 ?_;refine tS 4 44 (lA 36 63) rfl rfl (by kernel_rfl) hHeld bAf ?_;refine tS 6 46 (lA 36 127) rfl rfl (by kernel_rfl) hHeld bAf ?_;refine oS 7 47 (lA 36 255) rfl rfl (fun K hK=>?_);refine gO Try.func81 #[.agg #[.slice (some ad) m.words.length cW,.int .i64 m.young,.int .i64 m.top,.int .i64 m.old,.slice (some ad4) m.cards.length cC],.int .i64 at_] ?_;(with_reducible refine (mY (some ad) m.words.length cW m.young m.top m.old (some ad4) m.cards.length cC at_ true _ O1.out).mono ?_);rintro e w9 ⟨rfl,hb3⟩;refine ⟨_,rfl,?_⟩;refine hK.out _ _ ⟨⟨bK hHeld.1.out hb3⟩,⟨dH hHeld.2.1.out hb3⟩,⟨(hb3.block _ (dN hHeld.2.2.1.out)).trans hHeld.2.2.1.out⟩,(bU hb3 hHeld.2.2.2.1),(bU hb3 hHeld.2.2.2.2.1),(bU hb3 hHeld.2.2.2.2.2.1),(bU hb3 hHeld.2.2.2.2.2.2.1),(bU hb3 hHeld.2.2.2.2.2.2.2.1),(bU hb3 hHeld.2.2.2.2.2.2.2.2.1),(bU hb3 hHeld.2.2.2.2.2.2.2.2.2.1),(bU hb3 hHeld.2.2.2.2.2.2.2.2.2.2)⟩ (fun hHeld=>?_);clear hK K;refine nS 47 ?_;refine cJ 8 ?_;refine cJ 9 ?_;refine cJ 14 ?_;refine tS 10 50 (lA 36 18431) rfl rfl (by kernel_rfl) hHeld bAf ?_;refine cJ 11 ?_;refine cJ 12 ?_;refine tS 13 53 (lA 36 32767) rfl rfl (by kernel_rfl) hHeld bAf ?_;refine oS 15 55 (lA 36 65535) rfl rfl (fun K hK=>?_);refine gO Try.func81 #[.agg #[.slice (some ad) m.words.length cW,.int .i64 m.young,.int .i64 m.top,.int .i64 m.old,.slice (some ad4) m.cards.length cC],.int .i64 v] ?_;(with_reducible refine (mY (some ad) m.words.length cW m.young m.top m.old (some ad4) m.cards.length cC v false _ O2.out).mono ?_);rintro e w9 ⟨rfl,hb3⟩;refine ⟨_,rfl,?_⟩;refine hK.out _ _ ⟨⟨bK hHeld.1.out hb3⟩,⟨dH hHeld.2.1.out hb3⟩,⟨(hb3.block _ (dN hHeld.2.2.1.out)).trans hHeld.2.2.1.out⟩,(bU hb3 hHeld.2.2.2.1),(bU hb3 hHeld.2.2.2.2.1),(bU hb3 hHeld.2.2.2.2.2.1),(bU hb3 hHeld.2.2.2.2.2.2.1),(bU hb3 hHeld.2.2.2.2.2.2.2.1),(bU hb3 hHeld.2.2.2.2.2.2.2.2.1),(bU hb3 hHeld.2.2.2.2.2.2.2.2.2.1),(bU hb3 hHeld.2.2.2.2.2.2.2.2.2.2)⟩ (fun hHeld=>?_);clear hK K;refine nS 55 ?_;refine cJ 16 ?_;refine cJ 17 ?_;refine cJ 18 ?_;refine cJ 19 ?_;refine cJ 25 ?_;refine cJ 30 ?_;refine tS 20 60 (lA 36 1109393407) rfl rfl (by kernel_rfl) hHeld bAf ?_;refine cJ 21 ?_;refine cJ 22 ?_;refine cJ 23 ?_;refine tS 24 64 (lA 36 1140850687) rfl rfl (by kernel_rfl) hHeld bAf ?_;refine tS 26 66 (lA 36 1207959551) rfl rfl (by kernel_rfl) hHeld bAf ?_;refine cJ 27 ?_;refine cJ 28 ?_;refine tS 29 69 (lA 36 2147483647) rfl rfl (by kernel_rfl) hHeld bAf ?_;refine oS 31 71 (lA 36 4294967295) rfl rfl (fun K hK=>?_);refine gO Try.func57 #[.agg #[.slice (some ad) m.words.length cW,.int .i64 m.young,.int .i64 m.top,.int .i64 m.old,.slice (some ad4) m.cards.length cC],.int .i64 x] ?_;(with_reducible refine (zJ (some ad) m.words.length cW m.young m.top m.old (some ad4) m.cards.length cC x cj ci _ O3.out O4.out).mono ?_);rintro e w9 ⟨rfl,hb3⟩;refine ⟨_,rfl,?_⟩
         refine hK.out _ _ ⟨⟨bK hHeld.1.out hb3⟩,⟨dH hHeld.2.1.out hb3⟩,⟨(hb3.block _ (dN hHeld.2.2.1.out)).trans hHeld.2.2.1.out⟩,(bU hb3 hHeld.2.2.2.1),(bU hb3 hHeld.2.2.2.2.1),(bU hb3 hHeld.2.2.2.2.2.1),(bU hb3 hHeld.2.2.2.2.2.2.1),(bU hb3 hHeld.2.2.2.2.2.2.2.1),(bU hb3 hHeld.2.2.2.2.2.2.2.2.1),(bU hb3 hHeld.2.2.2.2.2.2.2.2.2.1),(bU hb3 hHeld.2.2.2.2.2.2.2.2.2.2)⟩ (fun hHeld=>?_);clear hK K;refine nS 71 ?_;refine cJ 32 ?_;refine tS 33 73 (lA 36 17179869183) rfl rfl (by kernel_rfl) hHeld bAf ?_;refine cJ 34 ?_;refine cJ 35 ?_;refine gT (by kernel_rfl) ?_;have HBn:=hHeld.1;have HXn:=hHeld.2.2.1;clear hHeld HB HX;have HB:=HBn;have HX:=HXn;clear HBn HXn;go_wp2
         go_roundw
         case rel=>exact ⟨j1,k1,rfl,HZ,⟨by have:=HK1.out;have:=HK.out;omega⟩,HX,HB⟩
         case measure=>have:=HK1.out;have:=HC0.out;have:=HK.out;show (n - k1).toNat<(n - k).toNat;omega
      ·rw [if_neg c2] at hq
       have O1:=aK (bM c2);have HQ2:=aK (bE hq);clear hq c2;obtain rfl:=HQ2.out;have HZ:=aK (show wordsOk.l q m at_ n j1 k1=some r by have:=HH.out;rw [if_pos rfl] at this;exact this);clear HH;have b0:=(bA HX.out 0).trans rfl;have b1:=(bA HX.out 1).trans rfl
       go_wp2_with fail
       go_at_call 86;refine (kA g m at_ a _ (dH HM.out HB.out) HFi.out).mono ?_;rintro e w2 ⟨rfl,hb⟩;clear b0 b1;have HBn:=aK (bK HB.out hb);have HXn:=aK ((hb.block _ (dN HX.out)).trans HX.out);clear hb HB HX;have HB:=HBn;have HX:=HXn;clear HBn HXn;have b0:=(bA HX.out 0).trans rfl;have b1:=(bA HX.out 1).trans rfl;obtain ⟨AW,cW,AC,cC,AF,cF,AB,cB,h0,hW,hC,_⟩:=dH HM.out HB.out;obtain ⟨ad,e0,hcell⟩:=dL hW x (by have:=HXw.out;omega) (by have:=HXw.out;omega)
       cases e0
       rw [←HV.out] at hcell;have g0:=(bA h0 0).trans rfl;have G0:=aK h0;have HCc:=aK hC;clear h0 hW hC
       go_wp2_with fail
       go_at_call 85;refine (kP g m at_ k true _ (dH HM.out HB.out) HLe.out).mono ?_;rintro e w3 ⟨rfl,hb⟩;clear b0 b1 hcell g0;have G0n:=aK ((hb.block _ (dN G0.out)).trans G0.out);have HCn:=aK (cG HCc.out hb);clear G0 HCc;have G0:=G0n;have HCc:=HCn;clear G0n HCn;have HBn:=aK (bK HB.out hb);have HXn:=aK ((hb.block _ (dN HX.out)).trans HX.out);clear hb HB HX;have HB:=HBn;have HX:=HXn;clear HBn HXn;have b0:=(bA HX.out 0).trans rfl;have b1:=(bA HX.out 1).trans rfl
       go_wp2_with (go_at_call 78;refine (pN q g m v true _ (dH HM.out HB.out) HHa.out).mono ?_;rintro e w5 ⟨rfl,hd⟩;have hb:=hd.below;have HBn:=aK (bK HB.out hb);have HXn:=aK ((hb.block _ (dN HX.out)).trans HX.out);have G0n:=aK ((hb.block _ (dN G0.out)).trans G0.out);have HCn:=aK (cG HCc.out hb);clear hd hb HB HX G0 HCc b0 b1;have HB:=HBn;have HX:=HXn;have G0:=G0n;have HCc:=HCn;clear HBn HXn G0n HCn;have b0:=(bA HX.out 0).trans rfl;have b1:=(bA HX.out 1).trans rfl;have g0:=(bA G0.out 0).trans rfl;have g1:=(bA G0.out 1).trans rfl;have g2:=(bA G0.out 2).trans rfl;have g3:=(bA G0.out 3).trans rfl;have g4:=(bA G0.out 4).trans rfl;have HM1:=aK (dH HM.out HB.out);try clear HCc)
       refine sT 36 (S:=fun w'=>Aside0 (Below w.heap.size w w')∧Aside0 (MV w' g (m))∧Aside0 (w'.heap[w.heap.size]? =some (.cells #[.pointer (some ⟨g,0,none⟩),.int .i64 at_] 102 (0,0)))∧w'.cell? (⟨w.heap.size,0,none⟩)=some (.pointer (some ⟨g,0,none⟩))∧w'.cell? (⟨w.heap.size,1,none⟩)=some (.int .i64 at_)∧w'.cell? (⟨g,0,none⟩)=some (.slice (some ad) m.words.length cW)∧w'.cell? (⟨g,1,none⟩)=some (.int .i64 m.young)∧w'.cell? (⟨g,2,none⟩)=some (.int .i64 m.top)∧w'.cell? (⟨g,3,none⟩)=some (.int .i64 m.old)∧w'.cell? (⟨g,4,none⟩)=some (.slice AC m.cards.length cC)) (ds:=[]) ⟨⟨bG HB.out⟩,⟨dH HM1.out (bG (bH _ _))⟩,⟨bY HX.out⟩,(by go_simp),(by go_simp),(by go_simp),(by go_simp),(by go_simp),(by go_simp),(by go_simp)⟩ (fun hHeld=>?_);refine cJ 0 ?_;refine cJ 5 ?_;refine tS 1 41 (lA 36 35) rfl rfl (by kernel_rfl) hHeld bKw ?_;refine cJ 2 ?_;refine cJ 3 ?_;refine tS 4 44 (lA 36 63) rfl rfl (by kernel_rfl) hHeld bKw ?_;refine tS 6 46 (lA 36 127) rfl rfl (by kernel_rfl) hHeld bKw ?_;refine oS 7 47 (lA 36 255) rfl rfl (fun K hK=>?_);refine gO Try.func81 #[.agg #[.slice (some ad) m.words.length cW,.int .i64 m.young,.int .i64 m.top,.int .i64 m.old,.slice AC m.cards.length cC],.int .i64 at_] ?_;(with_reducible refine (mY (some ad) m.words.length cW m.young m.top m.old AC m.cards.length cC at_ false _ O1.out).mono ?_);rintro e w9 ⟨rfl,hb3⟩;refine ⟨_,rfl,?_⟩;refine hK.out _ _ ⟨⟨bK hHeld.1.out hb3⟩,⟨dH hHeld.2.1.out hb3⟩,⟨(hb3.block _ (dN hHeld.2.2.1.out)).trans hHeld.2.2.1.out⟩,(b7_7 hb3 hHeld.2.2.2)⟩ (fun hHeld=>?_);clear hK K;refine nS 47 ?_;refine cJ 8 ?_;refine fW 9 ?_;refine fW 10 ?_;refine fW 11 ?_;refine fW 12 ?_;refine fW 13 ?_;refine fW 14 ?_;refine fW 15 ?_;refine fW 16 ?_;refine cJ 17 ?_;refine cJ 18 ?_;refine fW 19 ?_;refine fW 20 ?_;refine fW 21 ?_;refine fW 22 ?_;refine fW 23 ?_;refine fW 24 ?_;refine fW 25 ?_;refine fW 26 ?_;refine fW 27 ?_;refine fW 28 ?_;refine fW 29 ?_;refine fW 30 ?_;refine fW 31 ?_;refine fW 32 ?_;refine fW 33 ?_;refine fW 34 ?_;refine cJ 35 ?_;refine gT (by kernel_rfl) ?_;have HBn:=hHeld.1;have HXn:=hHeld.2.2.1;clear hHeld HB HX;have HB:=HBn;have HX:=HXn;clear HBn HXn;go_wp2
       go_roundw
       case rel=>exact ⟨j1,k1,rfl,HZ,⟨by have:=HK1.out;have:=HK.out;omega⟩,HX,HB⟩
       case measure=>have:=HK1.out;have:=HC0.out;have:=HK.out;show (n - k1).toNat<(n - k).toNat;omega
def rA (q:Nat) (m:Mm):List Int→Option Bool
  |[]=>some true
  |a::r=>(tR q m a).bind fun ok=>if ok=true then rA q m r else some false
def bAm (k q : Nat) (l0 : List S53) (ws : List Int) (y t o : Int) (cs : List Bool) : Option (Option Mm) :=
  (sO k l0).bind fun c=>if c=true then ((kX ws y t o cs).bind fun p=>if p=true then ((sN k l0).bind fun F=>
    if F.all (fun r=>decide (r.length≤4294967296))=true∧ws.length≤1048576∧cs.length≤1048576 then ((bDh ws F t q 0 []).bind fun r1=>if r1.1=true then (if r1.2.length≤1048576 then ((bDh ws F o q y r1.2).bind fun r2=>if r2.1=true then (if r2.2.length≤1048576 then ((rA q ⟨ws,y,t,o,cs,F,r2.2⟩ r2.2).bind fun ok=>if ok=true then some (some ⟨ws,y,t,o,cs,F,r2.2⟩) else some none) else none) else some none) else none) else some none) else none) else some none) else some none
def bMq (w:World) (r:Option Mm) (e:Ending) (w':World):Prop:=
  match r with
  |none=>e= .returned (.tuple #[.pointer none,.bool false])∧Below w.heap.size w w'
  |some m=> ∃g,e= .returned (.tuple #[.pointer (some ⟨g,0,none⟩),.bool true])∧MO w' w.heap.size g m∧Below w.heap.size w w'
theorem bPv {F:List (List Int)} (h:F.all (fun r=>decide (r.length≤4294967296))=true):bFp F:=by
 intro c h0 h1;have h2:c.toNat<F.length:=by omega
 have h3:=nY.mp h (F[c.toNat]) (jZ h2);have h4:bIc F c=F[c.toNat]:=by unfold bIc;rw [bP,bT h2];rfl
 rw [h4];exact bB h3
theorem bNe {ws:List Int} {y t o:Int} {cs:List Bool} (h:kX ws y t o cs=some true):0≤y∧y≤40∧0≤t∧t≤y∧y≤o∧o≤ws.length:=by
 unfold kX at h
 split at h
 case isFalse=>simp at h
 case isTrue=>
 have h:=bE h;simp only [dY] at h;obtain ⟨⟨⟨⟨⟨⟨h0,h1⟩,h2⟩,h3⟩,h4⟩,h5⟩,h6⟩:=h;unfold rM at h0 h2 h3;have h0:=bB h0;have h2:=bB h2;have h3:=bB h3;exact ⟨h0.1,h0.2,h2.1,h2.2,h3.1,h3.2⟩
theorem bAn {w:World} {b g:Nat} {m:Mm} (h:MO w b g m):w.cell? ⟨g,1,none⟩=some (.int .i64 m.young)∧w.cell? ⟨g,2,none⟩=some (.int .i64 m.top)∧w.cell? ⟨g,3,none⟩=some (.int .i64 m.old):=by
  obtain ⟨_,_,_,_,_,_,_,_,h0,_⟩:=h;exact ⟨(bA h0 1).trans rfl,(bA h0 2).trans rfl,(bA h0 3).trans rfl⟩
theorem MO_new {w3 w4:World} {b:Nat} {AU AV AF:Option Addr} {cU cV cF:Nat} {l0:List Int} {l4:List Bool} {F:List (List Int)} {a1 a2 a3:Int} (hb:b≤w3.heap.size) (hw:Below w3.heap.size w3 w4)
  (h1:Kd.R (Kd.int .i64) 3 w3 b (fun k=>some k≠(Value.slice AV l4.length cV).ownBlock) (.slice AU l0.length cU) l0)
  (h2:Kd.R Kd.bool 4 w3 b (fun k=>some k≠(Value.slice AU l0.length cU).ownBlock) (.slice AV l4.length cV) l4)
  (h3:Kd.S (Kd.slice 3 (Kd.int .i64)) 23 w4 w3.heap.size (fun _=>True) (.slice AF F.length cF) F):
  MO (w4.alloc (.cells #[.slice AU l0.length cU,.int .i64 a1,.int .i64 a2,.int .i64 a3,.slice AV l4.length cV,.slice AF F.length cF,.slice none 0 0] 68 (0,0))) b w4.heap.size ⟨l0,a1,a2,a3,l4,F,[]⟩:=by
 have hs:=hw.size;have u1:=pM h1;have u2:=pM h2;have nn: ∀k:Nat,some k≠(Value.slice none 0 0).ownBlock:=fun k=>by simp [Value.ownBlock]
 have al:=bJ (bH w4.heap.size w4) (.cells #[.slice AU l0.length cU,.int .i64 a1,.int .i64 a2,.int .i64 a3,.slice AV l4.length cV,.slice AF F.length cF,.slice none 0 0] 68 (0,0));refine ⟨AU,cU,AV,cV,AF,cF,none,0,kU _ _,by show b≤w4.heap.size;omega,(cD (Kd.S_R h3)).2.1,?_,?_,?_,?_⟩
 ·exact bZ (cI (bZ (fZ h1) hw) (fun k hk=>⟨⟨by have:=hk.2.2.1;omega,hk.1⟩,nn k⟩)) al
 ·exact bZ (cI (bZ (fZ h2) hw) (fun k hk=>⟨⟨by have:=hk.2.2.1;omega,hk.1⟩,nn k⟩)) al
 ·exact Kd.F_below (Kd.F_mono (Kd.R_F (fZ (Kd.S_R h3))) (fun k hk=>⟨⟨⟨by have:=hk.2.2.1;omega,fun e=>by have:=u1 k e.symm;have:=hk.2.1;omega⟩,fun e=>by have:=u2 k e.symm;have:=hk.2.1;omega⟩,nn k⟩)) al
 ·exact mI _ _ _ _ _
theorem bDi (k q:Nat) (A0:Option Addr) (c0:Nat) (l0:List S53) (AW:Option Addr) (cW:Nat) (ws:List Int) (y t o:Int) (AC:Option Addr) (cC:Nat) (cs:List Bool) (r:Option Mm) (w:World)
  (hr0:Kd.C tU w A0 l0.length l0) (hc0:l0.length≤c0) (hrW:Kd.C (Kd.int .i64) w AW ws.length ws) (hcW:ws.length≤cW) (hrC:Kd.C Kd.bool w AC cs.length cs) (hcC:cs.length≤cC) (h:bAm k q l0 ws y t o cs=some r):
  Calls Try.prog 39 #[.slice A0 l0.length c0,.agg #[.slice AW ws.length cW,.int .i64 y,.int .i64 t,.int .i64 o,.slice AC cs.length cC]] w (bMq w r):=by
 have HR0:=aK hr0;have HC0:=aK hc0;have HRW:=aK hrW;have HCW:=aK hcW;have HRC:=aK hrC;have HCC:=aK hcC;clear hr0 hc0 hrW hcW hrC hcC;unfold bAm at h;obtain ⟨c,hc,h⟩:=Option.bind_eq_some_iff.mp h;have H1:=aK hc;clear hc;have HB0:=aK (bJ (bH w.heap.size w) (.cells #[.slice AW ws.length cW,.int .i64 y,.int .i64 t,.int .i64 o,.slice AC cs.length cC] 29 (0,0)));have HX0:=aK (kU w (.cells #[.slice AW ws.length cW,.int .i64 y,.int .i64 t,.int .i64 o,.slice AC cs.length cC] 29 (0,0)))
 cases c with
 |false=>
  rw [if_neg (by simp)] at h;have HR:=aK (bE h);clear h;go_enter Try.func39,Try.ntmps39
  go_wp2_with (go_at_call 65;refine (sJ k A0 c0 l0 false _ (cG HR0.out HB0.out) HC0.out H1.out).mono ?_;rintro e w1 ⟨rfl,hb⟩;have HB:=aK (bK HB0.out hb);have HX:=aK ((hb.block _ (dN HX0.out)).trans HX0.out);clear hb HB0 HX0;have x0:=(bA HX.out 0).trans rfl;have x1:=(bA HX.out 1).trans rfl;have x2:=(bA HX.out 2).trans rfl;have x3:=(bA HX.out 3).trans rfl;have x4:=(bA HX.out 4).trans rfl)
  go_ret2
  rw [←HR.out];exact ⟨rfl,HB.out⟩
 |true=>
 rw [if_pos rfl] at h;obtain ⟨p,hp,h⟩:=Option.bind_eq_some_iff.mp h;have H2:=aK hp;clear hp
 cases p with
 |false=>
  rw [if_neg (by simp)] at h;have HR:=aK (bE h);clear h;go_enter Try.func39,Try.ntmps39
  go_wp2_with first|(go_at_call 65;refine (sJ k A0 c0 l0 true _ (cG HR0.out HB0.out) HC0.out H1.out).mono ?_;rintro e w1 ⟨rfl,hb⟩;have HB:=aK (bK HB0.out hb);have HX:=aK ((hb.block _ (dN HX0.out)).trans HX0.out);clear hb HB0 HX0;have x0:=(bA HX.out 0).trans rfl;have x1:=(bA HX.out 1).trans rfl;have x2:=(bA HX.out 2).trans rfl;have x3:=(bA HX.out 3).trans rfl;have x4:=(bA HX.out 4).trans rfl)|(go_at_call 66;refine (yZ AW cW ws y t o AC cC cs false _ (cG HRW.out HB.out) HCW.out H2.out).mono ?_;rintro e w2 ⟨rfl,hb⟩;have HBn:=aK (bK HB.out hb);have HXn:=aK ((hb.block _ (dN HX.out)).trans HX.out);clear hb HB HX x0 x1 x2 x3 x4;have HB:=HBn;have HX:=HXn;clear HBn HXn;have x0:=(bA HX.out 0).trans rfl;have x1:=(bA HX.out 1).trans rfl;have x2:=(bA HX.out 2).trans rfl;have x3:=(bA HX.out 3).trans rfl;have x4:=(bA HX.out 4).trans rfl)
  go_ret2
  rw [←HR.out];exact ⟨rfl,HB.out⟩
 |true=>
 rw [if_pos rfl] at h;obtain ⟨F,hF,h⟩:=Option.bind_eq_some_iff.mp h;have H3:=aK hF;clear hF
 split at h
 case isFalse=>simp at h
 case isTrue hl=>
 have HL1:=aK (bPv hl.1);have HL2:=aK hl.2.1;have HL3:=aK hl.2.2;clear hl;have HP:=aK (bNe H2.out);obtain ⟨r1,hr1,h⟩:=Option.bind_eq_some_iff.mp h;have H4:=aK hr1;clear hr1;have H:=aK h;clear h;go_enter Try.func39,Try.ntmps39
 go_wp2_with first|(go_at_call 65;refine (sJ k A0 c0 l0 true _ (cG HR0.out HB0.out) HC0.out H1.out).mono ?_;rintro e w1 ⟨rfl,hb⟩;have HB:=aK (bK HB0.out hb);have HX:=aK ((hb.block _ (dN HX0.out)).trans HX0.out);clear hb HB0 HX0;have x0:=(bA HX.out 0).trans rfl;have x1:=(bA HX.out 1).trans rfl;have x2:=(bA HX.out 2).trans rfl;have x3:=(bA HX.out 3).trans rfl;have x4:=(bA HX.out 4).trans rfl)|(go_at_call 66;refine (yZ AW cW ws y t o AC cC cs true _ (cG HRW.out HB.out) HCW.out H2.out).mono ?_;rintro e w2 ⟨rfl,hb⟩;have HBn:=aK (bK HB.out hb);have HXn:=aK ((hb.block _ (dN HX.out)).trans HX.out);clear hb HB HX x0 x1 x2 x3 x4;have HB:=HBn;have HX:=HXn;clear HBn HXn;have x0:=(bA HX.out 0).trans rfl;have x1:=(bA HX.out 1).trans rfl;have x2:=(bA HX.out 2).trans rfl;have x3:=(bA HX.out 3).trans rfl;have x4:=(bA HX.out 4).trans rfl)|fail
 go_at_call 52;refine (sS AW cW ws y t o AC cC cs _ (cG HRW.out HB.out) HCW.out (cG HRC.out HB.out) HCC.out (by have:=HL2.out;omega) (by have:=HL3.out;omega)).mono ?_;rintro e w3 ⟨u,v,rfl,hu,hv,hb⟩;have HS2:=aK (bW HB.out);have HBn:=aK (bK HB.out hb);have HU:=aK (dE hu HS2.out);have HV:=aK (dE hv HS2.out);obtain ⟨AU,cU,rfl⟩:=cL hu;obtain ⟨AV,cV,rfl⟩:=cL hv;clear hu hv hb HB HX HS2 x0 x1 x2 x3 x4;have HB:=HBn;clear HBn
 go_wp2_with fail
 go_at_call 67;refine (bCa k A0 c0 l0 F _ (cG HR0.out HB.out) HC0.out H3.out).mono ?_;rintro e w4 ⟨vf,rfl,hf,hb⟩;obtain ⟨AF,cF,rfl⟩:=vV hf;have HM0:=aK (MO_new (a1:=y) (a2:=t) (a3:=o) (bW HB.out) hb HU.out HV.out hf);have HBn:=aK (bJ (bK HB.out hb) (.cells #[.slice AU ws.length cU,.int .i64 y,.int .i64 t,.int .i64 o,.slice AV cs.length cV,.slice AF F.length cF,.slice none 0 0] 68 (0,0)));clear hf hb HB HU HV;have HB:=HBn;clear HBn;obtain ⟨g,hg⟩: ∃g,g=w4.heap.size:=⟨_,rfl⟩;have HG:=aK hg;go_wp2;rw [←hg] at HM0 ⊢;clear hg;generalize w4.alloc (.cells #[.slice AU ws.length cU,.int .i64 y,.int .i64 t,.int .i64 o,.slice AV cs.length cV,.slice AF F.length cF,.slice none 0 0] 68 (0,0))=W5 at HB HM0 ⊢;obtain ⟨k1,k2,k3⟩:=bAn HM0.out;dsimp only at k1 k2 k3;obtain ⟨r1b,r1l⟩:=r1;have hh:=H.out
 cases r1b with
 |false=>
  rw [if_neg (by simp)] at hh;have HR:=aK (bE hh);clear hh H;refine sT 23 (S:=fun w'=>Aside0 (Below w.heap.size w w')∧w'.cell? ⟨g,1,none⟩=some (.int .i64 y)∧w'.cell? ⟨g,2,none⟩=some (.int .i64 t)∧w'.cell? ⟨g,3,none⟩=some (.int .i64 o)) (ds:=[]) ⟨⟨bG HB.out⟩,(by go_simp),(by go_simp),(by go_simp)⟩ (fun hHeld=>?_);refine cJ 0 ?_;refine cJ 1 ?_;refine cJ 2 ?_;refine cJ 3 ?_;refine cJ 4 ?_;refine tS 5 28 (lA 23 63) rfl rfl (by kernel_rfl) hHeld sM ?_;refine oS 6 29 (lA 23 127) rfl rfl (fun K hK=>?_);refine gO Try.func68 #[.pointer (some ⟨g,0,none⟩),.int .i64 0,.int .i64 t] ?_;(with_reducible refine (qJ w.heap.size g _ 0 t q (false,r1l) _ (vJ HM0.out (bG (bH _ _))) hHeld.1.out.size (by decide) (by have:=HP.out;show t≤(ws.length:Int);omega) HL2.out (hU _) HL1.out H4.out).mono ?_);rintro e w5 ⟨rfl,ho1,hb1⟩;have hMO1:=aK ho1;have hB1:=aK hb1;obtain ⟨c1_,c2_,c3_⟩:=bAn ho1;dsimp only at c1_ c2_ c3_;refine ⟨_,rfl,?_⟩;refine hK.out _ _ ⟨⟨hHeld.1.out.trans hB1.out⟩,c1_,c2_,c3_⟩ (fun hHeld=>?_);clear hK K;refine nS 29 ?_;refine cJ 7 ?_;refine cJ 8 ?_;refine fW 9 ?_;refine fW 10 ?_;refine fW 11 ?_;refine fW 12 ?_;refine fW 13 ?_;refine fW 14 ?_;refine fW 15 ?_;refine fW 16 ?_;refine fW 17 ?_;refine fW 18 ?_;refine fW 19 ?_;refine fW 20 ?_;refine fW 21 ?_;refine cJ 22 ?_;refine gT (by kernel_rfl) ?_;go_wp2
  go_ret2
  rw [←HR.out];exact ⟨rfl,hHeld.1.out⟩
 |true=>
 rw [if_pos rfl] at hh
 split at hh
 case isFalse=>simp at hh
 case isTrue hl=>
 have HL4:=aK hl;clear hl;obtain ⟨r2,hr2,hh⟩:=Option.bind_eq_some_iff.mp hh;have H5:=aK hr2;clear hr2 H;obtain ⟨r2b,r2l⟩:=r2
 cases r2b with
 |false=>
  rw [if_neg (by simp)] at hh;have HR:=aK (bE hh);clear hh;refine sT 23 (S:=fun w'=>Aside0 (Below w.heap.size w w')∧w'.cell? ⟨g,1,none⟩=some (.int .i64 y)∧w'.cell? ⟨g,2,none⟩=some (.int .i64 t)∧w'.cell? ⟨g,3,none⟩=some (.int .i64 o)) (ds:=[]) ⟨⟨bG HB.out⟩,(by go_simp),(by go_simp),(by go_simp)⟩ (fun hHeld=>?_);refine cJ 0 ?_;refine cJ 1 ?_;refine cJ 2 ?_;refine cJ 3 ?_;refine cJ 4 ?_;refine tS 5 28 (lA 23 63) rfl rfl (by kernel_rfl) hHeld sM ?_;refine oS 6 29 (lA 23 127) rfl rfl (fun K hK=>?_);refine gO Try.func68 #[.pointer (some ⟨g,0,none⟩),.int .i64 0,.int .i64 t] ?_;(with_reducible refine (qJ w.heap.size g _ 0 t q (true,r1l) _ (vJ HM0.out (bG (bH _ _))) hHeld.1.out.size (by decide) (by have:=HP.out;show t≤(ws.length:Int);omega) HL2.out (hU _) HL1.out H4.out).mono ?_);rintro e w5 ⟨rfl,ho1,hb1⟩;have hMO1:=aK ho1;have hB1:=aK hb1;obtain ⟨c1_,c2_,c3_⟩:=bAn ho1;dsimp only at c1_ c2_ c3_;refine ⟨_,rfl,?_⟩;refine hK.out _ _ ⟨⟨hHeld.1.out.trans hB1.out⟩,c1_,c2_,c3_⟩ (fun hHeld=>?_);clear hK K;refine nS 29 ?_;refine cJ 7 ?_;refine cJ 8 ?_;refine cJ 9 ?_;refine cJ 10 ?_;refine cJ 11 ?_;refine cJ 12 ?_;refine cJ 13 ?_;refine cJ 15 ?_;refine cJ 16 ?_;refine cJ 17 ?_;refine cJ 18 ?_;refine tS 14 37 (lA 23 524287) rfl rfl (by kernel_rfl) hHeld sM ?_;refine tS 19 42 (lA 23 1048575) rfl rfl (by kernel_rfl) hHeld sM ?_;refine oS 20 43 (lA 23 2097151) rfl rfl (fun K hK=>?_);refine gO Try.func68 #[.pointer (some ⟨g,0,none⟩),.int .i64 y,.int .i64 o] ?_;(with_reducible refine (qJ w.heap.size g _ y o q (false,r2l) _ hMO1.out hHeld.1.out.size HP.out.1 (by have:=HP.out;show o≤(ws.length:Int);omega) HL2.out HL4.out HL1.out H5.out).mono ?_);rintro e w6 ⟨rfl,ho2,hb2⟩;have hMO2:=aK ho2;have hB2:=aK hb2;obtain ⟨d1_,d2_,d3_⟩:=bAn ho2;dsimp only at d1_ d2_ d3_;refine ⟨_,rfl,?_⟩;refine hK.out _ _ ⟨⟨hHeld.1.out.trans hB2.out⟩,d1_,d2_,d3_⟩ (fun hHeld=>?_);clear hK K;refine nS 43 ?_;refine cJ 21 ?_;refine cJ 22 ?_;refine gT (by kernel_rfl) ?_;go_wp2
  go_ret2
  rw [←HR.out];exact ⟨rfl,hHeld.1.out⟩
 |true=>
 rw [if_pos rfl] at hh
 split at hh
 case isFalse=>simp at hh
 case isTrue hl=>
 have HL5:=aK hl;clear hl;obtain ⟨ok,hok,hh⟩:=Option.bind_eq_some_iff.mp hh;have H6:=aK hok;have H7:=aK hh;clear hok hh;refine sT 23 (S:=fun w'=>Aside0 (Below w.heap.size w w')∧w'.cell? ⟨g,1,none⟩=some (.int .i64 y)∧w'.cell? ⟨g,2,none⟩=some (.int .i64 t)∧w'.cell? ⟨g,3,none⟩=some (.int .i64 o)) (ds:=[]) ⟨⟨bG HB.out⟩,(by go_simp),(by go_simp),(by go_simp)⟩ (fun hHeld=>?_);refine cJ 0 ?_;refine cJ 1 ?_;refine cJ 2 ?_;refine cJ 3 ?_;refine cJ 4 ?_;refine tS 5 28 (lA 23 63) rfl rfl (by kernel_rfl) hHeld sM ?_;refine oS 6 29 (lA 23 127) rfl rfl (fun K hK=>?_);refine gO Try.func68 #[.pointer (some ⟨g,0,none⟩),.int .i64 0,.int .i64 t] ?_;(with_reducible refine (qJ w.heap.size g _ 0 t q (true,r1l) _ (vJ HM0.out (bG (bH _ _))) hHeld.1.out.size (by decide) (by have:=HP.out;show t≤(ws.length:Int);omega) HL2.out (hU _) HL1.out H4.out).mono ?_);rintro e w5 ⟨rfl,ho1,hb1⟩;have hMO1:=aK ho1;have hB1:=aK hb1;obtain ⟨c1_,c2_,c3_⟩:=bAn ho1;dsimp only at c1_ c2_ c3_;refine ⟨_,rfl,?_⟩;refine hK.out _ _ ⟨⟨hHeld.1.out.trans hB1.out⟩,c1_,c2_,c3_⟩ (fun hHeld=>?_);clear hK K;refine nS 29 ?_;refine cJ 7 ?_;refine cJ 8 ?_;refine cJ 9 ?_;refine cJ 10 ?_;refine cJ 11 ?_;refine cJ 12 ?_;refine cJ 13 ?_;refine cJ 15 ?_;refine cJ 16 ?_;refine cJ 17 ?_;refine cJ 18 ?_;refine tS 14 37 (lA 23 524287) rfl rfl (by kernel_rfl) hHeld sM ?_;refine tS 19 42 (lA 23 1048575) rfl rfl (by kernel_rfl) hHeld sM ?_;refine oS 20 43 (lA 23 2097151) rfl rfl (fun K hK=>?_);refine gO Try.func68 #[.pointer (some ⟨g,0,none⟩),.int .i64 y,.int .i64 o] ?_;(with_reducible refine (qJ w.heap.size g _ y o q (true,r2l) _ hMO1.out hHeld.1.out.size HP.out.1 (by have:=HP.out;show o≤(ws.length:Int);omega) HL2.out HL4.out HL1.out H5.out).mono ?_);rintro e w6 ⟨rfl,ho2,hb2⟩;have hMO2:=aK ho2;have hB2:=aK hb2;obtain ⟨d1_,d2_,d3_⟩:=bAn ho2;dsimp only at d1_ d2_ d3_;refine ⟨_,rfl,?_⟩;refine hK.out _ _ ⟨⟨hHeld.1.out.trans hB2.out⟩,d1_,d2_,d3_⟩ (fun hHeld=>?_);clear hK K;refine nS 43 ?_;refine cJ 21 ?_;refine cJ 22 ?_;refine gT (by kernel_rfl) ?_;have HB:=hHeld.1;clear hHeld;obtain ⟨AW6,cW6,AC6,cC6,AF6,cF6,AB,cB,g0,hg1,_,_,_,_,rB⟩:=hMO2.out;have k6:=(bA g0 6).trans rfl;have HCB:=aK (cD rB).2.2;clear g0 rB hg1;go_wp2
 go_loopw [51] (fun i wr=> ∃j:Nat,i= .int .i64 j∧j≤r2l.length∧Aside0 (rA q ⟨ws,y,t,o,cs,F,r2l⟩ (r2l.drop j)=some ok)∧Aside0 (Below w6.heap.size w6 wr)) (fun i _=>r2l.length - (intOf i).toNat)
 case atStart=>exact ⟨0,rfl,hU _,⟨by rw [mH];exact H6.out⟩,⟨bH _ _⟩⟩
 case round=>
  clear H6;obtain ⟨j,rfl,hj,HT,HB6⟩:=hrel;by_cases hlt:j<r2l.length
  ·have hd := fO hlt
   have hg:r2l[j]=rd r2l j:=by unfold rd;rw [dF,bP,bT hlt];rfl
   obtain ⟨ad,e0,hcell⟩:=dL (cG HCB.out HB6.out) j (by omega) (by omega)
   cases e0
   rw [dF] at hcell;have ht:=HT.out;rw [hd,hg] at ht;unfold rA at ht;obtain ⟨o1,ho1,ht⟩:=Option.bind_eq_some_iff.mp ht;have HO1:=aK ho1;clear hd hg HT ho1;generalize rd r2l j=x at*
   cases o1 with
   |false=>
    rw [if_neg (by simp)] at ht;have h7:=H7.out;rw [←bE ht,if_neg (by simp)] at h7;have HR:=aK (bE h7);clear ht h7
    go_wp2_with fail
    go_at_call 69;refine (rN g x _).mono ?_;rintro e w7 ⟨rfl,hb⟩;have HB7:=aK (bK HB6.out hb);clear hb
    go_wp2_with fail
    go_at_call 70;refine (xT q g _ x false _ (dH (bIa hMO2.out) HB7.out) HO1.out).mono ?_;rintro e w8 ⟨rfl,hb⟩;have HB8:=aK (bK HB7.out hb);clear hb HB7;go_wp2
    go_ret2
    rw [←HR.out];exact ⟨rfl,rQ HB.out (dO (bV _) HB.out.size) HB8.out⟩
   |true=>
    rw [if_pos rfl] at ht;have HT2:=aK ht;clear ht
    go_wp2_with fail
    go_at_call 69;refine (rN g x _).mono ?_;rintro e w7 ⟨rfl,hb⟩;have HB7:=aK (bK HB6.out hb);clear hb
    go_wp2_with fail
    go_at_call 70;refine (xT q g _ x true _ (dH (bIa hMO2.out) HB7.out) HO1.out).mono ?_;rintro e w8 ⟨rfl,hb⟩;have HB8:=aK (bK HB7.out hb);clear hb HB7;go_wp2
    go_roundw
    case rel=>exact ⟨j+1,by rw [show wrap64 ((j:Int)+1)=((j+1:Nat):Int) by have:=HL5.out;unfold wrap64;omega],by omega,HT2,HB8⟩
    case measure=>rw [show wrap64 ((j:Int)+1)=((j+1:Nat):Int) by have:=HL5.out;unfold wrap64;omega];simp only [intOf,dF];omega
  ·have d0 : decide ((j : Int) < r2l.length) = false := bM (by omega)
   have ht:=HT.out;rw [hZ (by omega)] at ht;have h7:=H7.out;rw [←bE ht,if_pos rfl] at h7;have HR:=aK (bE h7);clear ht h7;go_wp2
   go_ret2
   rw [←HR.out];exact ⟨g,rfl,vJ hMO2.out HB6.out,rQ HB.out HB.out.size HB6.out⟩
def bHg (k:Nat) (m:Mm) (x:Int):Option Bool:=if x=0 then some true else qK k m x
def sY (k:Nat) (m:Mm):List Int→Option Bool
  |[]=>some true
  |x::r=>(bHg k m x).bind fun b=>if b=true then sY k m r else some false
theorem xW (k gp g:Nat) (m:Mm) (x:Int) (b:Bool) (w:World) (hp:w.heap[gp]? =some (.cells #[.pointer (some ⟨g,0,none⟩)] 56 (0,0))) (hm:MV w g m) (h:bHg k m x=some b):
  Calls Try.prog 77 #[.int .i64 x,.pointer (some ⟨gp,0,none⟩)] w fun e w'=>e= .returned (.bool b)∧Below w.heap.size w w':=by
 have q0:=(bA hp 0).trans rfl;have HM:=aK hm;clear hp hm;unfold bHg at h;by_cases c:x=0
 ·rw [if_pos c] at h
  have HR:=aK (bE h);have d0:(x==0)=true:=zH.mpr c
  clear c h;go_enter Try.func77,Try.ntmps77;go_wp2;go_ret;exact ⟨by rw [←HR.out];rfl,by repeat (first|exact bH _ _|apply bG|apply bI)⟩
 ·rw [if_neg c] at h
  have H:=aK h;have d0:(x==0)=false:=xP.mpr c
  clear c h;go_enter Try.func77,Try.ntmps77
  go_wp2_with (go_at_call 78;refine bF (fun hng=>?_))
  refine hng ?_;clear hng;refine (pN k g m x b _ HM.out H.out).mono ?_;rintro e w1 ⟨rfl,hd⟩;have HB:=aK hd.below;clear hd;go_wp2;go_ret;exact ⟨rfl,HB.out⟩
theorem bBe (q gp g:Nat) (m:Mm) (A:Option Addr) (c:Nat) (l:List Int) (b:Bool) (W:World) (hp:W.heap[gp]? =some (.cells #[.pointer (some ⟨g,0,none⟩)] 56 (0,0))) (hm:MV W g m) (hr:Kd.C (Kd.int .i64) W A l.length l) (hl:l.length≤281474976710656) (h:sY q m l=some b):
  Calls Try.prog 76 #[.slice A l.length c,.func (.func 77) #[] #[.pointer (some ⟨gp,0,none⟩)]] W fun e W'=>e= .returned (.bool b)∧Below W.heap.size W W':=by
 have HR:=aK hr;have HL:=aK hl;have HP:=aK hp;have HM:=aK hm;have H:=aK (show sY q m (l.drop 0)=some b by rw [mH];exact h);clear hr hl hp hm h;go_enter Try.func76,Try.ntmps76;go_wp2
 go_loopw [9] (fun i wr=> ∃k:Nat,k≤l.length∧i= .int .i64 k∧Aside0 (sY q m (l.drop k)=some b)∧Aside0 (Below W.heap.size W wr)) (fun i _=>l.length - (intOf i).toNat)
 case atStart=>exact ⟨0,hU _,rfl,H,⟨bH _ _⟩⟩
 case round=>
  clear H;obtain ⟨k,hk,rfl,HN,HB⟩:=hrel;by_cases hlt:k<l.length
  ·have hd := fO hlt
   have hg:l[k]=rd l k:=by unfold rd;rw [dF,bP,bT hlt];rfl
   obtain ⟨ad,e0,hcell⟩:=dL (cG HR.out HB.out) k (by omega) (by omega)
   cases e0
   rw [dF] at hcell;have HN2:=HN.out;rw [hd,hg] at HN2;unfold sY at HN2;obtain ⟨y,hy,HN2⟩:=Option.bind_eq_some_iff.mp HN2;have HX:=aK HN2;have HY:=aK hy;clear hd hg HN HN2 hy;generalize rd l k=x at*;have HP2:=aK (bS HP.out HB.out);have HM2:=aK (dH HM.out HB.out)
   cases y with
   |true=>
    have HZ:=aK (show sY q m (l.drop (k+1))=some b by have:=HX.out;rw [if_pos rfl] at this;exact this);clear HX
    go_wp2_with fail
    refine (xW q gp g m x true _ HP2.out HM2.out HY.out).mono ?_;rintro e w2 ⟨rfl,hb2⟩;have HB2:=aK (bK HB.out hb2);clear hb2;go_wp2
    go_roundw
    case rel=>exact ⟨k+1,by omega,by rw [show wrap64 ((k:Int)+1)=((k+1:Nat):Int) by have:=HL.out;unfold wrap64;omega],HZ,HB2⟩
    case measure=>rw [show wrap64 ((k:Int)+1)=((k+1:Nat):Int) by have:=HL.out;unfold wrap64;omega];simp only [intOf,dF];omega
   |false=>
    have HZ:=aK (show false=b by have:=HX.out;rw [if_neg (by simp)] at this;exact bE this);clear HX
    go_wp2_with fail
    refine (xW q gp g m x false _ HP2.out HM2.out HY.out).mono ?_;rintro e w2 ⟨rfl,hb2⟩;have HB2:=aK (bK HB.out hb2);clear hb2;go_wp2;go_ret;exact ⟨by rw [←HZ.out];rfl,HB2.out⟩
  ·have d0 : decide ((k : Int) < l.length) = false := bM (by omega)
   have HZ:=aK (show true=b by have:=HN.out;rw [hZ (by omega)] at this;exact bE this);go_wp2;go_ret;exact ⟨by rw [←HZ.out];rfl,HB.out⟩
theorem bBv (q g:Nat) (m:Mm) (A:Option Addr) (c:Nat) (l:List Int) (b:Bool) (w:World) (hm:MV w g m) (hr:Kd.C (Kd.int .i64) w A l.length l) (hl:l.length≤281474976710656) (h:sY q m l=some b):
  Calls Try.prog 50 #[.pointer (some ⟨g,0,none⟩),.slice A l.length c] w fun e w'=>e= .returned (.bool b)∧Below w.heap.size w w':=by
 have HR:=aK hr;have HL:=aK hl;have HM:=aK hm;have H:=aK h;have HB:=aK (bH w.heap.size w);clear hr hl hm h;go_enter Try.func50,Try.ntmps50
 go_wp2_with ((with_reducible refine dK (N:=2) rfl ?_);refine bF (fun hng=>?_))
 refine hng ?_;clear hng;refine dM ?hg (N:=2) ?hd (cs:= #[.pointer (some ⟨g,0,none⟩)]) (t:=56) ?hr ?_
 (case hd=>rfl)
 (case hg=>rfl)
 (case hr=>first|(go_simp;done)|(go_simp;rfl))
 intro gp hg w1 hbox hb;have BP:=aK hbox;replace HB:=aK (bK HB.out hb);clear hb hbox hg
 go_wp2_with fail
 go_at_call 76;refine (bBe q gp g m A c l b _ BP.out (dH HM.out HB.out) (cG HR.out HB.out) HL.out H.out).mono ?_;rintro e w2 ⟨rfl,hb⟩;replace HB:=aK (bK HB.out hb);clear hb;go_wp2;go_ret;exact ⟨rfl,HB.out⟩
def bJj (k q : Nat) (l0 : List S53) (ws : List Int) (y t o : Int) (cs : List Bool) (roots : List Int) : Option (Option Mm) :=
  (bAm k q l0 ws y t o cs).bind fun r=>match r with
    |none=>some none
    |some m=>(sY q m roots).bind fun b=>some (if b=true then some m else none)
theorem bKg (k q:Nat) (A0:Option Addr) (c0:Nat) (l0:List (S53)) (A1:Option Addr) (c1:Nat) (ws:List Int) (y t o:Int) (A4:Option Addr) (c4:Nat) (cs:List Bool) (AR:Option Addr) (cR:Nat) (roots:List Int) (r:Option Mm) (w:World)
  (hr0:Kd.C tU w A0 l0.length l0) (hc0:l0.length≤c0) (hr1:Kd.C (Kd.int .i64) w A1 ws.length ws) (hc1:ws.length≤c1) (hr4:Kd.C Kd.bool w A4 cs.length cs) (hc4:cs.length≤c4) (hr5:Kd.C (Kd.int .i64) w AR roots.length roots) (hl5:roots.length≤281474976710656) (h:bJj k q l0 ws y t o cs roots=some r):
  Calls Try.prog 31 #[.slice A0 l0.length c0,.agg #[.slice A1 ws.length c1,.int .i64 y,.int .i64 t,.int .i64 o,.slice A4 cs.length c4],.slice AR roots.length cR] w (bMq w r):=by
 unfold bJj at h;obtain ⟨m,hm,h⟩:=Option.bind_eq_some_iff.mp h;have HM:=aK hm;have HR0:=aK hr0;have HC0:=aK hc0;have HR1:=aK hr1;have HC1:=aK hc1;have HR4:=aK hr4;have HC4:=aK hc4;have HR5:=aK hr5;have HL5:=aK hl5;have HB:=aK (bJ (bH w.heap.size w) (.cells #[.slice A1 ws.length c1,.int .i64 y,.int .i64 t,.int .i64 o,.slice A4 cs.length c4] 29 (0,0)));have HH:=aK h;clear hr0 hc0 hr1 hc1 hr4 hc4 hr5 hl5 h hm;go_enter Try.func31,Try.ntmps31
 go_wp2_with fail
 go_at_call 39;refine (bDi k q A0 c0 l0 A1 c1 ws y t o A4 c4 cs m _ (cG HR0.out HB.out) HC0.out (cG HR1.out HB.out) HC1.out (cG HR4.out HB.out) HC4.out HM.out).mono ?_
 cases m with
 |none=>
  rintro e w1 ⟨rfl,hb⟩;have HB1:=aK (bK HB.out hb);obtain rfl:=bE HH.out;clear hb HM HH;go_wp2;refine fM (kG (rs:=[.tmp 6,.tmp 7]) rfl (by simp) (.tmp (.tmp .nil))) rfl ?_;exact ⟨rfl,HB1.out⟩
 | some m =>
  rintro e w1 ⟨g,rfl,hmo,hb⟩;have HMo:=aK (show MO w1 w.heap.size g m by obtain ⟨AW,cW,AC,cC,AF,cF,AB,cB,a0,a1,a2,a3,a4,a5,a6⟩:=hmo;exact ⟨AW,cW,AC,cC,AF,cF,AB,cB,a0,dO (bW HB.out) a1,a2,dE a3 (bW HB.out),dE a4 (bW HB.out),a5,dE a6 (bW HB.out)⟩);have HB1:=aK (bK HB.out hb);obtain ⟨b,hb1,hh⟩:=Option.bind_eq_some_iff.mp HH.out;have H1:=aK hb1;have H2:=aK (bE hh);clear hb HM HH hmo hb1 hh HB
  go_wp2_with (go_at_call 50;refine bF (fun hng=>?_))
  refine hng ?_;clear hng;refine (bBv q g m AR cR roots b _ (bIa HMo.out) (cG HR5.out HB1.out) HL5.out H1.out).mono ?_;rintro e w2 ⟨rfl,hb⟩;replace HMo:=aK (vJ HMo.out hb);replace HB1:=aK (bK HB1.out hb);clear hb
  cases b with
  |false=>
   have h2:=H2.out;rw [if_neg (by simp)] at h2;subst h2;go_wp2;refine fM (kG (rs:=[.tmp 6,.tmp 7]) rfl (by simp) (.tmp (.tmp .nil))) rfl ?_;exact ⟨rfl,HB1.out⟩
  |true=>
   have h2:=H2.out;rw [if_pos rfl] at h2;subst h2;go_wp2;refine fM (kG (rs:=[.tmp 6,.tmp 7]) rfl (by simp) (.tmp (.tmp .nil))) rfl ?_;exact ⟨g,rfl,HMo.out,HB1.out⟩
def IsS96 (w0 W:World) (g:Nat) (f0:List Int) (f1:Int):Prop:= ∃A0 c0,W.heap[g]? =some (.cells #[.slice A0 f0.length c0,.int .i64 f1] 96 (0,0))∧w0.heap.size≤g∧Kd.C (Kd.int .u8) w0 A0 f0.length f0
theorem IsS96.grown {w0 W:World} {g:Nat} {f0:List Int} {f1:Int} {W1:World} {row:Option Nat} (h:IsS96 w0 W g f0 f1) (hw:W.grownBy W1 row) (hne:some g≠row):IsS96 w0 W1 g f0 f1:=by
  obtain ⟨A0,c0,hb,hg,hr0⟩:=h;exact ⟨A0,c0,nE hb hw hne,hg,hr0⟩
theorem IsS96.kept {w0 W:World} {g:Nat} {f0:List Int} {f1:Int} {W1:World} {S:Nat→Prop} (h:IsS96 w0 W g f0 f1) (hk:Kept W W1 S) (hne: ¬S g):IsS96 w0 W1 g f0 f1:=by
  obtain ⟨A0,c0,hb,hg,hr0⟩:=h;exact ⟨A0,c0,bHx hb hk hne,hg,hr0⟩
theorem IsS96.below {w0 W:World} {g:Nat} {f0:List Int} {f1:Int} {W1:World} (h:IsS96 w0 W g f0 f1) (hw:Below W.heap.size W W1):IsS96 w0 W1 g f0 f1:=h.grown (bCb hw none) (by simp)
theorem IsS96.alloc {w0 W:World} {g:Nat} {f0:List Int} {f1:Int} (h:IsS96 w0 W g f0 f1) (o:Obj):IsS96 w0 (W.alloc o) g f0 f1:=h.below (bJ (bH _ _) o)
theorem IsS96.drewN {w0 W:World} {g:Nat} {f0:List Int} {f1:Int} (h:IsS96 w0 W g f0 f1) (m:Nat):IsS96 w0 (W.drewN m) g f0 f1:=h
theorem IsS96.apart {w0 W:World} {g:Nat} {f0:List Int} {f1:Int} {α:Type} {d:Kd α} {e:Nat} {base:Nat} {ok:Nat→Prop} {v:Value} {xs:List α} (h:IsS96 w0 W g f0 f1) (ho:d.R e W base ok v xs) (ht: ∀q,q∈e::d.E→q≠96):d.R e W base (fun k=>ok k∧k≠g) v xs:=by
  obtain ⟨A0,c0,hb,hg,hr0⟩:=h;exact nJ ho hb ht
theorem IsS96.lt {w0 W:World} {g:Nat} {f0:List Int} {f1:Int} (h:IsS96 w0 W g f0 f1):g<W.heap.size:=by
  obtain ⟨A0,c0,hb,hg,hr0⟩:=h;exact dN hb
theorem IsS96.ge {w0 W:World} {g:Nat} {f0:List Int} {f1:Int} (h:IsS96 w0 W g f0 f1):w0.heap.size≤g:=by
  obtain ⟨A0,c0,hb,hg,hr0⟩:=h;exact hg
theorem IsS96.far {w0 W:World} {g:Nat} {f0:List Int} {f1:Int} {p:Addr} (h:IsS96 w0 W g f0 f1) (hne:g≠p.block) (u:Value):IsS96 w0 (W.setCell p u) g f0 f1:=by
  obtain ⟨A0,c0,hb,hg,hr0⟩:=h;exact ⟨A0,c0,jG hb hne u,hg,hr0⟩
theorem bCr {W:World} {g:Nat} {A0:Option Addr} {c0:Nat} {f0:List Int} {f1:Int} (h:W.heap[g]? =some (.cells #[.slice A0 f0.length c0,.int .i64 f1] 96 (0,0))):W.cell? ⟨g,0,none⟩=some (.slice A0 f0.length c0):=(bA h 0).trans rfl
theorem bCq {W:World} {g:Nat} {A0:Option Addr} {c0:Nat} {f0:List Int} {f1:Int} (h:W.heap[g]? =some (.cells #[.slice A0 f0.length c0,.int .i64 f1] 96 (0,0))):W.cell? ⟨g,1,none⟩=some (.int .i64 f1):=(bA h 1).trans rfl
theorem IsS96.set_1 {w0 W:World} {g:Nat} {f0:List Int} {f1:Int} (h:IsS96 w0 W g f0 f1) (x:Int):IsS96 w0 (W.setCell ⟨g,1,none⟩ (.int .i64 x)) g f0 x:=by
  obtain ⟨A0,c0,hb,hg,hr0⟩:=h;exact ⟨A0,c0,by simpa using bKn hb 1 (.int .i64 x),hg,hr0⟩
def zY (l0:List Int):Option (List Int×Int):=if (l0.length:Int)>2000 then (if 2000≤(l0.length:Int) then (some (l0.take 2000,0)) else (none)) else (some (l0,0))
theorem bEk (A0:Option Addr) (c0:Nat) (l0:List Int) (r1:List Int) (r2:Int) (w0 w:World) (hB:Below w0.heap.size w0 w) (hr0:Kd.C (Kd.int .u8) w0 A0 l0.length l0) (hc0:l0.length≤c0) (h:zY l0=some (r1,r2)):
  Calls Try.prog 38 #[.slice A0 l0.length c0] w fun e w'=> ∃g_:Nat,e= .returned (.pointer (some ⟨g_,0,none⟩))∧IsS96 w0 w' g_ r1 r2∧Below w0.heap.size w0 w'∧Below w.heap.size w w':=by
 have hu96:=Try.underlying96;have HR0:=aK hr0;have HC0:=aK hc0;clear hr0 hc0;have HBW:=aK (bH w.heap.size w);have HW0:=aK hB.size;have HB:=aK hB;clear hB;have H:(if (l0.length:Int)>2000 then (if 2000≤(l0.length:Int) then (some (l0.take 2000,0)) else (none)) else (some (l0,0)))=some (r1,r2):=h
 clear h;by_cases c2:(l0.length:Int)>2000
 ·rw [if_pos c2] at H
  have c2b0:decide (2000<(l0.length:Int))=true:=bD c2
  have c2b1:decide (2000<l0.length)=true:=bD (by omega)
  clear c2;by_cases c3:2000≤(l0.length:Int)
  ·rw [if_pos c3] at H
   have c3b0:=bO c3;have c3b1:decide (2000≤(l0.length:Int))=true:=bD c3
   clear c3;simp only [fB,Prod.mk.injEq] at H;obtain ⟨rfl,rfl⟩:=H;obtain ⟨i04,hi04,_,hsz4,_⟩:=info_parts info5;obtain ⟨hcut4,hA4,hC4⟩:=bIj (P:=Try.prog) (Value.int .u8) 0 43 5 .i64 Try.underlying43 hi04 hsz4 A0 c0 l0 2000 (by omega) (bB jX) HC0.out;have HR338:=aK (Kd.C_of_reads (h1:=fun _=>rfl) (hA4 _ (Kd.reads_of_C HR0.out)));have HC338:=aK hC4;clear hA4 hC4 hi04 hsz4;go_enter Try.func38,Try.ntmps38
   go_wp2_with (first|((with_reducible refine dK (N:=10) rfl ?_);refine dM ?hg (N:=10) ?hd (cs:= #[.slice A0 (l0.take 2000).length c0,.int .i64 0]) (t:=96) ?hr ?_;(case hd=>rfl);(case hg=>rfl);(case hr=>first|(go_simp;done)|(go_simp;rfl));intro gb339 hg w5 hbox hb;have BK339:=aK (hbox);have GW339:=aK ((by rw [hg];exact (bW zz49):w.heap.size≤gb339));have GE339:=aK ((dO HW0.out (by rw [hg];exact (bW zz49):w.heap.size≤gb339):w0.heap.size≤gb339));replace HBW:=aK (bK HBW.out hb);replace HB:=aK (bK nQ hb);clear hb hbox hg))
   go_ret;exact ⟨_,rfl,(show IsS96 w0 _ gb339 (l0.take 2000) 0 from ⟨_,_,by (with_reducible repeat (first|refine bX ?_ _|refine bY ?_|refine bQ ?_ _));exact BK339.out,GE339.out,HR338.out⟩),by repeat (first|(with_reducible first|exact HB.out|apply bJ|apply bI|apply bG|refine cE ?_ GE339.out)|exact HB.out),by repeat (first|(with_reducible first|exact HBW.out|apply bJ|apply bI|apply bG|refine cE ?_ GW339.out)|exact HBW.out)⟩
  ·rw [if_neg c3] at H
   exact absurd H (by simp)
 ·rw [if_neg c2] at H
  have c2b0:decide (2000<(l0.length:Int))=false:=bM c2
  have c2b1:decide (2000<l0.length)=false:=bM (by omega)
  clear c2;simp only [fB,Prod.mk.injEq] at H;obtain ⟨rfl,rfl⟩:=H;go_enter Try.func38,Try.ntmps38
  go_wp2_with (first|((with_reducible refine dK (N:=10) rfl ?_);refine dM ?hg (N:=10) ?hd (cs:= #[.slice A0 l0.length c0,.int .i64 0]) (t:=96) ?hr ?_;(case hd=>rfl);(case hg=>rfl);(case hr=>first|(go_simp;done)|(go_simp;rfl));intro gb340 hg w6 hbox hb;have BK340:=aK (hbox);have GW340:=aK ((by rw [hg];exact (bW zz49):w.heap.size≤gb340));have GE340:=aK ((dO HW0.out (by rw [hg];exact (bW zz49):w.heap.size≤gb340):w0.heap.size≤gb340));replace HBW:=aK (bK HBW.out hb);replace HB:=aK (bK nQ hb);clear hb hbox hg))
  go_ret;exact ⟨_,rfl,(show IsS96 w0 _ gb340 l0 0 from ⟨_,_,by (with_reducible repeat (first|refine bX ?_ _|refine bY ?_|refine bQ ?_ _));exact BK340.out,GE340.out,HR0.out⟩),by repeat (first|(with_reducible first|exact HB.out|apply bJ|apply bI|apply bG|refine cE ?_ GE340.out)|exact HB.out),by repeat (first|(with_reducible first|exact HBW.out|apply bJ|apply bI|apply bG|refine cE ?_ GW340.out)|exact HBW.out)⟩
def fU:Nat→Int→Bool→List Int→Int→Option (Int×Int)
  |0,_,_,_,_=>none
  |k+1,x1,x24,x1000,x1001=>if x24=true then (some (0,x1001)) else (if (wrap64 (x1001 - 1))<(x1000.length:Int) then (if 0≤(wrap64 (x1001 - 1)) then (if x1=0 then (none) else (some (Int.tmod (wrap64 (rd x1000 (wrap64 (x1001 - 1)))) x1,x1001))) else (none)) else (if (x1000.length:Int)=0 then (none) else (if 0≤(Int.tmod (wrap64 (x1001 - 1)) (x1000.length:Int)) then (if (Int.tmod (wrap64 (x1001 - 1)) (x1000.length:Int))<(x1000.length:Int) then (if 0≤(Int.tmod (wrap64 ((wrap64 ((wrap64 (x1001 - 1))*7))+3)) (x1000.length:Int)) then (if (Int.tmod (wrap64 ((wrap64 ((wrap64 (x1001 - 1))*7))+3)) (x1000.length:Int))<(x1000.length:Int) then (if x1=0 then (none) else (some (Int.tmod (Go.bits .xor .i64 (wrap64 ((wrap64 ((wrap64 ((wrap64 ((wrap64 (rd x1000 (Int.tmod (wrap64 (x1001 - 1)) (x1000.length:Int))))*131))+(wrap64 ((wrap64 (rd x1000 (Int.tmod (wrap64 ((wrap64 ((wrap64 (x1001 - 1))*7))+3)) (x1000.length:Int))))*1117))))+(wrap64 ((wrap64 (x1001 - 1))*29))))+(wrap64 ((wrap64 (Int.tdiv (wrap64 (x1001 - 1)) (x1000.length:Int)))*53)))) (wrap64 (Int.tdiv (wrap64 ((wrap64 ((wrap64 ((wrap64 ((wrap64 (rd x1000 (Int.tmod (wrap64 (x1001 - 1)) (x1000.length:Int))))*131))+(wrap64 ((wrap64 (rd x1000 (Int.tmod (wrap64 ((wrap64 ((wrap64 (x1001 - 1))*7))+3)) (x1000.length:Int))))*1117))))+(wrap64 ((wrap64 (x1001 - 1))*29))))+(wrap64 ((wrap64 (Int.tdiv (wrap64 (x1001 - 1)) (x1000.length:Int)))*53)))) 64))) x1,x1001))) else (none)) else (none)) else (none)) else (none))))
def jM (k:Nat) (s0_0:List Int) (s0_1:Int) (a1:Int):Option (Int×Int):=if a1<1 then (fU k a1 true s0_0 (wrap64 (s0_1+1))) else (fU k a1 ((s0_0.length:Int)==0) s0_0 (wrap64 (s0_1+1)))
theorem kW (k : Nat) (g : Nat) (s0_0 : List Int) (s0_1 : Int) (a1 : Int) (r1 : Int) (r2 : Int) (w0 w : World) (hI : IsS96 w0 w g s0_0 s0_1) (hB : Below w0.heap.size w0 w) (h : jM k s0_0 s0_1 a1 = some (r1, r2)) :
  Calls Try.prog 63 #[.pointer (some ⟨g,0,none⟩),.int .i64 a1] w fun e w'=>e= .returned (.int .i64 r1)∧IsS96 w0 w' g s0_0 r2∧Below w0.heap.size w0 w'∧gZ w w' g none:=by
 have HI0:=aK hI;have HK:=aK (gZ.refl w g none);have HL:=aK hB.size;clear hI;have HW0:=aK hB.size;have HB:=aK hB;clear hB;have H:(if a1<1 then (fU k a1 true s0_0 (wrap64 (s0_1+1))) else (fU k a1 ((s0_0.length:Int)==0) s0_0 (wrap64 (s0_1+1))))=some (r1,r2):=h
 clear h;have HC3:=aK H;clear H;obtain ⟨ASz4_0,cSz4_0,HGz4,hgz4,HSz4_0⟩:=HI0.out;have hcz4_0:=bCr HGz4;have hcz4_1:=bCq HGz4;have hfz4_1:=bL HGz4 1;clear HGz4 hgz4;go_enter Try.func63,Try.ntmps63
 go_upto_region 2 with (fail)
 repeat (go_quiet (fail);go_upto_region 2 with (fail))
 go_cut [24] (fun v24 wc=> ∃(kq:Nat) (x24_2:Bool),v24= .bool x24_2∧Aside0 (fU kq a1 x24_2 s0_0 (wrap64 (s0_1+1))=some (r1,r2))∧Aside0 (kq≤k)∧Aside0 (IsS96 w0 wc g s0_0 (wrap64 (s0_1+1)))∧Aside0 (gZ w wc g none)∧Aside0 (Below w0.heap.size w0 wc))
 case first=>
  have H:=HC3.out;clear HC3;by_cases c5:a1<1
  ·rw [if_pos c5] at H
   have c5b0:decide (a1<1)=true:=bD c5
   clear c5
   (first|rw [c5b0]|(simp only [mN,qN];rw [c5b0])|skip)
   have H':=aK H;clear H;go_wp2;repeat (go_quiet (fail);try go_wp2)
   go_meet
   case rel=>exact ⟨_,(true),nR,H',⟨by first|omega|exact bV _⟩,⟨by repeat (first|(with_reducible first|exact HI0.out|apply IsS96.alloc|apply IsS96.drewN|apply IsS96.drew|apply IsS96.set_1)|exact HI0.out)⟩,⟨by repeat (first|(with_reducible first|exact HK.out|apply gZ.set_|apply nI|apply nD|apply kM)|exact HK.out)⟩,⟨by repeat (first|(with_reducible first|exact HB.out|apply bJ|apply bI|apply bG|refine cE ?_ (IsS96.ge HI0.out))|exact HB.out)⟩⟩
  ·rw [if_neg c5] at H
   have c5b0:decide (a1<1)=false:=bM c5
   clear c5
   (first|rw [c5b0]|(simp only [mN,qN];rw [c5b0])|skip)
   have H':=aK H;clear H;obtain ⟨ASz6_0,cSz6_0,HGz6,hgz6,HSz6_0⟩:=HI0.out;have hcz6_0:=bCr HGz6;have hcz6_1:=bCq HGz6;have hfz6_1:=bL HGz6 1;clear HGz6 hgz6;go_wp2;repeat (go_quiet (fail);try go_wp2)
   go_meet
   case rel=>exact ⟨_,(((s0_0.length:Int)==0)),nR,H',⟨by first|omega|exact bV _⟩,⟨by repeat (first|(with_reducible first|exact HI0.out|apply IsS96.alloc|apply IsS96.drewN|apply IsS96.drew|apply IsS96.set_1)|exact HI0.out)⟩,⟨by repeat (first|(with_reducible first|exact HK.out|apply gZ.set_|apply nI|apply nD|apply kM)|exact HK.out)⟩,⟨by repeat (first|(with_reducible first|exact HB.out|apply bJ|apply bI|apply bG|refine cE ?_ (IsS96.ge HI0.out))|exact HB.out)⟩⟩
 case rest =>
  clear HC3;(try clear p2);(try clear c5);(try clear c5b0);(try clear c6);(try clear p6);(try clear hcz4_0);(try clear hcz4_1);(try clear hcz6_0);(try clear hcz6_1);(try clear hfz4_1);(try clear hfz6_1);obtain ⟨kq,x24_2,rfl,HA,HJ2,HI0,HK,HB⟩:=hcut
  cases kq with
  |zero=>exact absurd HA.out (by simp [fU])
  | succ kj2 =>
   have H:=HA.out;clear HA;simp only [fU] at H;by_cases c7:x24_2=true
   ·subst c7
    rw [if_pos rfl] at H;simp only [fB,Prod.mk.injEq] at H;obtain ⟨rfl,rfl⟩:=H;go_wp2;repeat (go_quiet (fail);try go_wp2)
    go_ret;exact ⟨by first|rfl|(simp [dS,dR]<;>rfl)|(simp [*,dS,dR]<;>rfl),by repeat (first|(with_reducible first|exact HI0.out|apply IsS96.alloc|apply IsS96.drewN|apply IsS96.drew|apply IsS96.set_1)|exact HI0.out),by repeat (first|(with_reducible first|exact HB.out|apply bJ|apply bI|apply bG|refine cE ?_ (IsS96.ge HI0.out))|exact HB.out),by repeat (first|(with_reducible first|exact HK.out|apply gZ.set_|apply nI|apply nD|apply kM)|exact HK.out)⟩
   ·replace c7 := Bool.eq_false_iff.mpr c7
    subst c7;rw [if_neg (show¬(false=true) by decide)] at H;by_cases c8:(wrap64 ((wrap64 (s0_1+1)) - 1))<(s0_0.length:Int)
    ·rw [if_pos c8] at H
     have c8b0:decide ((wrap64 ((wrap64 (s0_1+1)) - 1))<(s0_0.length:Int))=true:=bD c8
     clear c8;obtain ⟨ji9,hji9⟩: ∃j_:Int,(wrap64 ((wrap64 (s0_1+1)) - 1))=j_:=⟨_,rfl⟩;replace H:(if 0≤(ji9) then (if a1=0 then (none) else (some (Int.tmod (wrap64 (rd s0_0 (ji9))) a1,(wrap64 (s0_1+1))))) else (none))=some (r1,r2):=by first|(rw [hji9] at H;exact H)|(simp only [hji9] at H ⊢;exact H)
     (try rw [hji9] at c8b0)
     have hji9w:(IntKind.i64.wrap ((wrap64 (s0_1+1)) - 1))=ji9:=(mN _).trans hji9
     by_cases c10:0≤(ji9)
     ·rw [if_pos c10] at H
      have c10b0:decide (0≤(ji9))=true:=bD c10
      clear c10;by_cases c11:a1=0
      ·rw [if_pos c11] at H
       exact absurd H (by simp)
      ·rw [if_neg c11] at H
       have c11b0:(a1==0)=false:=xP.mpr c11
       have c11b1:(a1 !=0)=true:=bne_iff_ne.mpr c11
       simp only [fB,Prod.mk.injEq] at H;obtain ⟨rfl,rfl⟩:=H;obtain ⟨ASz12_0,cSz12_0,HGz12,hgz12,HSz12_0⟩:=HI0.out;have hcz12_0:=bCr HGz12;have hcz12_1:=bCq HGz12;have hfz12_1:=bL HGz12 1;clear HGz12 hgz12;have p341:0≤((ji9):Int):=bB jX
       have q341:(ji9)<(s0_0.length:Int):=bB jX
       obtain ⟨ad341,e341,hx341_0⟩:=dL HSz12_0 (ji9) p341 q341
       cases e341
       replace hx341_0:=bU HB.out hx341_0;replace p341:=bO p341;replace q341:=bO q341;go_wp2;repeat (go_quiet (fail);try go_wp2)
       go_ret;exact ⟨by first|rfl|(simp [dS,dR]<;>rfl)|(simp only [←hji9];first|rfl|(simp [dS,dR]<;>rfl))|(simp [*,dS,dR]<;>rfl),by repeat (first|(with_reducible first|exact HI0.out|apply IsS96.alloc|apply IsS96.drewN|apply IsS96.drew|apply IsS96.set_1)|exact HI0.out),by repeat (first|(with_reducible first|exact HB.out|apply bJ|apply bI|apply bG|refine cE ?_ (IsS96.ge HI0.out))|exact HB.out),by repeat (first|(with_reducible first|exact HK.out|apply gZ.set_|apply nI|apply nD|apply kM)|exact HK.out)⟩
     ·rw [if_neg c10] at H
      exact absurd H (by simp)
    ·rw [if_neg c8] at H
     have c8b0:decide ((wrap64 ((wrap64 (s0_1+1)) - 1))<(s0_0.length:Int))=false:=bM c8
     clear c8;by_cases c13:(s0_0.length:Int)=0
     ·rw [if_pos c13] at H
      exact absurd H (by simp)
     ·rw [if_neg c13] at H
      have c13b0:((s0_0.length:Int)==0)=false:=xP.mpr c13
      have c13b1:((s0_0.length:Int) !=0)=true:=bne_iff_ne.mpr c13
      have c13b2: ¬(s0_0=[]):=fun h_=>c13 (by rw [h_];rfl)
      obtain ⟨ji14,hji14⟩: ∃j_:Int,(Int.tmod (wrap64 ((wrap64 (s0_1+1)) - 1)) (s0_0.length:Int))=j_:=⟨_,rfl⟩;replace H:(if 0≤(ji14) then (if (ji14)<(s0_0.length:Int) then (if 0≤(Int.tmod (wrap64 ((wrap64 ((wrap64 ((wrap64 (s0_1+1)) - 1))*7))+3)) (s0_0.length:Int)) then (if (Int.tmod (wrap64 ((wrap64 ((wrap64 ((wrap64 (s0_1+1)) - 1))*7))+3)) (s0_0.length:Int))<(s0_0.length:Int) then (if a1=0 then (none) else (some (Int.tmod (Go.bits .xor .i64 (wrap64 ((wrap64 ((wrap64 ((wrap64 ((wrap64 (rd s0_0 (ji14)))*131))+(wrap64 ((wrap64 (rd s0_0 (Int.tmod (wrap64 ((wrap64 ((wrap64 ((wrap64 (s0_1+1)) - 1))*7))+3)) (s0_0.length:Int))))*1117))))+(wrap64 ((wrap64 ((wrap64 (s0_1+1)) - 1))*29))))+(wrap64 ((wrap64 (Int.tdiv (wrap64 ((wrap64 (s0_1+1)) - 1)) (s0_0.length:Int)))*53)))) (wrap64 (Int.tdiv (wrap64 ((wrap64 ((wrap64 ((wrap64 ((wrap64 (rd s0_0 (ji14)))*131))+(wrap64 ((wrap64 (rd s0_0 (Int.tmod (wrap64 ((wrap64 ((wrap64 ((wrap64 (s0_1+1)) - 1))*7))+3)) (s0_0.length:Int))))*1117))))+(wrap64 ((wrap64 ((wrap64 (s0_1+1)) - 1))*29))))+(wrap64 ((wrap64 (Int.tdiv (wrap64 ((wrap64 (s0_1+1)) - 1)) (s0_0.length:Int)))*53)))) 64))) a1,(wrap64 (s0_1+1))))) else (none)) else (none)) else (none)) else (none))=some (r1,r2):=by first|(rw [hji14] at H;exact H)|(simp only [hji14] at H ⊢;exact H)
      by_cases c15:0≤(ji14)
      ·rw [if_pos c15] at H
       have c15b0:decide (0≤(ji14))=true:=bD c15
       clear c15;by_cases c16:(ji14)<(s0_0.length:Int)
       ·rw [if_pos c16] at H
        have c16b0:decide ((ji14)<(s0_0.length:Int))=true:=bD c16
        clear c16;obtain ⟨ji17,hji17⟩: ∃j_:Int,(Int.tmod (wrap64 ((wrap64 ((wrap64 ((wrap64 (s0_1+1)) - 1))*7))+3)) (s0_0.length:Int))=j_:=⟨_,rfl⟩;replace H:(if 0≤(ji17) then (if (ji17)<(s0_0.length:Int) then (if a1=0 then (none) else (some (Int.tmod (Go.bits .xor .i64 (wrap64 ((wrap64 ((wrap64 ((wrap64 ((wrap64 (rd s0_0 (ji14)))*131))+(wrap64 ((wrap64 (rd s0_0 (ji17)))*1117))))+(wrap64 ((wrap64 ((wrap64 (s0_1+1)) - 1))*29))))+(wrap64 ((wrap64 (Int.tdiv (wrap64 ((wrap64 (s0_1+1)) - 1)) (s0_0.length:Int)))*53)))) (wrap64 (Int.tdiv (wrap64 ((wrap64 ((wrap64 ((wrap64 ((wrap64 (rd s0_0 (ji14)))*131))+(wrap64 ((wrap64 (rd s0_0 (ji17)))*1117))))+(wrap64 ((wrap64 ((wrap64 (s0_1+1)) - 1))*29))))+(wrap64 ((wrap64 (Int.tdiv (wrap64 ((wrap64 (s0_1+1)) - 1)) (s0_0.length:Int)))*53)))) 64))) a1,(wrap64 (s0_1+1))))) else (none)) else (none))=some (r1,r2):=by first|(rw [hji17] at H;exact H)|(simp only [hji17] at H ⊢;exact H)
        by_cases c18:0≤(ji17)
        ·rw [if_pos c18] at H
         have c18b0:decide (0≤(ji17))=true:=bD c18
         clear c18;by_cases c19:(ji17)<(s0_0.length:Int)
         ·rw [if_pos c19] at H
          have c19b0:decide ((ji17)<(s0_0.length:Int))=true:=bD c19
          clear c19;by_cases c20:a1=0
          ·rw [if_pos c20] at H
           exact absurd H (by simp)
          ·rw [if_neg c20] at H
           have c20b0:(a1==0)=false:=xP.mpr c20
           have c20b1:(a1 !=0)=true:=bne_iff_ne.mpr c20
           simp only [fB,Prod.mk.injEq] at H;obtain ⟨rfl,rfl⟩:=H;obtain ⟨ASz21_0,cSz21_0,HGz21,hgz21,HSz21_0⟩:=HI0.out;have hcz21_0:=bCr HGz21;have hcz21_1:=bCq HGz21;have hfz21_1:=bL HGz21 1;clear HGz21 hgz21;have p342:0≤((ji14):Int):=bB jX
           have q342:(ji14)<(s0_0.length:Int):=bB jX
           obtain ⟨ad342,e342,hx342_0⟩:=dL HSz21_0 (ji14) p342 q342
           cases e342
           replace hx342_0:=bU HB.out hx342_0;replace p342:=bO p342;replace q342:=bO q342;have p343:0≤((ji17):Int):=bB jX
           have q343:(ji17)<(s0_0.length:Int):=bB jX
           obtain ⟨ad343,e343,hx343_0⟩:=dL HSz21_0 (ji17) p343 q343;obtain rfl:ad342=ad343:=(by injection e343);replace hx343_0:=bU HB.out hx343_0;replace p343:=bO p343;replace q343:=bO q343;go_wp2;repeat (go_quiet (fail);try go_wp2)
           go_ret;exact ⟨by first|rfl|(simp [dS,dR]<;>rfl)|(simp only [←hji14,←hji17];first|rfl|(simp [dS,dR]<;>rfl))|(simp [*,dS,dR]<;>rfl),by repeat (first|(with_reducible first|exact HI0.out|apply IsS96.alloc|apply IsS96.drewN|apply IsS96.drew|apply IsS96.set_1)|exact HI0.out),by repeat (first|(with_reducible first|exact HB.out|apply bJ|apply bI|apply bG|refine cE ?_ (IsS96.ge HI0.out))|exact HB.out),by repeat (first|(with_reducible first|exact HK.out|apply gZ.set_|apply nI|apply nD|apply kM)|exact HK.out)⟩
         ·rw [if_neg c19] at H
          exact absurd H (by simp)
        ·rw [if_neg c18] at H
         exact absurd H (by simp)
       ·rw [if_neg c16] at H
        exact absurd H (by simp)
      ·rw [if_neg c15] at H
       exact absurd H (by simp)
end Go.Proofs.Ytbaklikaoleplaa.K
namespace Go.Proofs.Ytbaklikaoleplaa.Pure
open Go.RowKit Go.Proofs.Ytbaklikaoleplaa.K Go.Proofs.YtbaklikaoleplaaW.PrintWords Go.Proofs.YtbaklikaoleplaaW.PrintLast Go.Proofs.YtbaklikaoleplaaW.PrintMore
set_option linter.unusedVariables false
set_option linter.unusedSimpArgs false
theorem pQ {i n:Int} (h0:0≤i) (h:i<n) (hn:n≤4611686018427387904):wrap64 (i+1)=i+1:=by
  unfold wrap64;omega
theorem zR (xs:List Int) (i:Nat):rd xs (i:Int)=xs.getD i 0:=by simp [rd]
theorem bPy {α:Type} (xs:List α) (i:Nat) (d:α) (h:i<xs.length):xs.drop i=xs.getD i d::xs.drop (i+1):=by
  rw [fO h];simp [bP,h]
theorem dZ {n:Int} (h: -9223372036854775808≤n) (h':n≤9223372036854775807):wrap64 n=n:=by unfold wrap64;omega
theorem xor_nn (a b:Int) (ha:0≤a) (hb:0≤b) (ha2:a<4611686018427387904) (hb2:b<4611686018427387904):0≤Go.bits .xor .i64 a b:=by
 obtain ⟨x,rfl⟩: ∃x:Nat,a=x:=⟨a.toNat,by omega⟩;obtain ⟨y,rfl⟩: ∃y:Nat,b=y:=⟨b.toNat,by omega⟩;have hx:x ^^^ y<2 ^ 62:=Nat.xor_lt_two_pow (by omega) (by omega)
 have h1:(BitVec.ofInt 64 (x:Int)).toNat=x:=by rw [BitVec.ofInt_natCast,BitVec.toNat_ofNat];exact Nat.mod_eq_of_lt (by omega)
 have h2:(BitVec.ofInt 64 (y:Int)).toNat=y:=by rw [BitVec.ofInt_natCast,BitVec.toNat_ofNat];exact Nat.mod_eq_of_lt (by omega)
 show 0≤IntKind.i64.wrap ((BitVec.ofInt 64 (x:Int) ^^^ BitVec.ofInt 64 (y:Int)).toNat:Int)
 rw [BitVec.toNat_xor,h1,h2,mN,dZ (by omega) (by omega)];omega
theorem bJw {b:List Int} (hb: ∀x∈b,0≤x∧x≤255) (i:Int):0≤rd b i∧rd b i≤255:=by
 unfold rd;rw [bP];by_cases h:i.toNat<b.length
 ·rw [bT h];exact hb _ (jZ h)
 ·rw [jW (by omega)];simp
theorem bGq (x n:Int) (hx:0≤x) (hn:1≤n):0≤Int.tmod x n∧Int.tmod x n<n:=⟨Int.tmod_nonneg _ hx,Int.tmod_lt_of_pos _ (by omega)⟩
theorem bCm {b:List Int} (hb: ∀x∈b,0≤x∧x≤255) (hl:b.length≤2000) {p n:Int} (hp:0≤p) (hp2:p≤1000000) (hn:1≤n) (hn2:n≤1000000):
  ∃v,0≤v∧v<n∧∀k,1≤k→jM k b p n=some (v,p+1):=by
 have key: ∃v,0≤v∧v<n∧fU (0+1) n ((b.length:Int)==0) b (p+1)=some (v,p+1)∧∀m,fU (m+1) n ((b.length:Int)==0) b (p+1)=fU (0+1) n ((b.length:Int)==0) b (p+1):=by
  by_cases h0:(b.length:Int)=0
  ·refine ⟨0, by omega, by omega, ?_, fun m => ?_⟩
   ·rw [fU,if_pos (zH.mpr h0)]
   ·rw [fU,fU]
  have e0:((b.length:Int)==0)=false:=xP.mpr h0
  have ep:wrap64 (p+1 - 1)=p:=by rw [dZ (by omega) (by omega)];omega
  by_cases h1:p<(b.length:Int)
  ·obtain ⟨r0, r1⟩ := bJw hb p
   obtain ⟨t0,t1⟩:=bGq (rd b p) n r0 hn;refine ⟨Int.tmod (rd b p) n,t0,t1,?_,fun m=>?_⟩
   ·rw [fU,e0,if_neg (by simp),ep,if_pos h1,if_pos hp,if_neg (by omega),dZ (n:=rd b p) (by omega) (by omega)]
   ·rw [fU,fU]
  obtain ⟨q0,q1⟩:=bGq p b.length hp (by omega);have w7:wrap64 (p*7)=p*7:=dZ (by omega) (by omega)
  have w73:wrap64 (p*7+3)=p*7+3:=dZ (by omega) (by omega)
  obtain ⟨s0,s1⟩:=bGq (p*7+3) b.length (by omega) (by omega);obtain ⟨a0,a1⟩:=bJw hb (Int.tmod p b.length);obtain ⟨c0,c1⟩:=bJw hb (Int.tmod (p*7+3) b.length);have d0:0≤Int.tdiv p b.length:=Int.tdiv_nonneg hp (by omega)
  have d1:Int.tdiv p b.length≤p:=by rw [jB hp];exact Int.ediv_le_self _ hp
  obtain ⟨A,hA⟩: ∃A,A=rd b (Int.tmod p b.length):=⟨_,rfl⟩;obtain ⟨C,hC⟩: ∃C,C=rd b (Int.tmod (p*7+3) b.length):=⟨_,rfl⟩;obtain ⟨D,hD⟩: ∃D,D=Int.tdiv p b.length:=⟨_,rfl⟩;rw [←hA] at a0 a1;rw [←hC] at c0 c1;rw [←hD] at d0 d1;obtain ⟨X,hX⟩: ∃X,X=A*131+C*1117+p*29+D*53:=⟨_,rfl⟩;have x0:0≤X:=by omega
  have x1:X≤1000000000:=by omega
  have y0:0≤Int.tdiv X 64:=Int.tdiv_nonneg x0 (by omega)
  have y1:Int.tdiv X 64≤X:=by rw [jB x0];exact Int.ediv_le_self _ x0
  obtain ⟨t0,t1⟩:=bGq (Go.bits .xor .i64 X (Int.tdiv X 64)) n (xor_nn _ _ x0 y0 (by omega) (by omega)) hn;have wA:wrap64 A=A:=dZ (by omega) (by omega)
  have wC:wrap64 C=C:=dZ (by omega) (by omega)
  have wA1:wrap64 (A*131)=A*131:=dZ (by omega) (by omega)
  have wC1:wrap64 (C*1117)=C*1117:=dZ (by omega) (by omega)
  have wp:wrap64 (p*29)=p*29:=dZ (by omega) (by omega)
  have wD:wrap64 D=D:=dZ (by omega) (by omega)
  have wD1:wrap64 (D*53)=D*53:=dZ (by omega) (by omega)
  have w1:wrap64 (A*131+C*1117)=A*131+C*1117:=dZ (by omega) (by omega)
  have w2:wrap64 (A*131+C*1117+p*29)=A*131+C*1117+p*29:=dZ (by omega) (by omega)
  have w3:wrap64 (A*131+C*1117+p*29+D*53)=X:=by rw [←hX];exact dZ (by omega) (by omega)
  have w4:wrap64 (Int.tdiv X 64)=Int.tdiv X 64:=dZ (by omega) (by omega)
  refine ⟨_,t0,t1,?_,fun m=>?_⟩
  ·rw [fU,e0,if_neg (by simp),ep,if_neg h1,if_neg h0,if_pos q0,if_pos q1,w7,w73,if_pos s0,if_pos s1,if_neg (by omega),←hA,←hC,←hD,wA,wC,wA1,wC1,wp,wD,wD1,w1,w2,w3,w4]
  ·rw [fU,fU]
 obtain ⟨v,v0,v1,h1,h2⟩:=key;refine ⟨v,v0,v1,fun k hk=>?_⟩;obtain ⟨m,rfl⟩: ∃m,k=m+1:=⟨k - 1,by omega⟩;unfold jM;rw [if_neg (by omega),dZ (n:=p+1) (by omega) (by omega),h2,h1]
theorem bPr {l:List Int} (hl: ∀x∈l,(Lit.int .u8 x).wf=true): ∃b,zY l=some (b,0)∧b.length≤2000∧∀x∈b,0≤x∧x≤255:=by
 have hb: ∀x∈l,0≤x∧x≤255:=fun x hx=>by
  have h:=hl x hx;have h1:IntKind.u8.min=0:=by decide
  have h2:IntKind.u8.max=255:=by decide
  simp [Lit.wf] at h
  omega
 unfold zY;by_cases h:(l.length:Int)>2000
 ·exact ⟨l.take 2000,by rw [if_pos h,if_pos (by omega)],by rw [dB];omega,fun x hx=>hb x (List.mem_of_mem_take hx)⟩
 ·exact ⟨l,by rw [if_neg h],by omega,hb⟩
end Go.Proofs.Ytbaklikaoleplaa.Pure
namespace Go.Proofs.Ytbaklikaoleplaa.K
open Go.RowKit Go.Proofs.YtbaklikaoleplaaW.PrintWords Go.Proofs.YtbaklikaoleplaaW.PrintLast Go.Proofs.YtbaklikaoleplaaW.PrintMore
attribute [local go_sem] gD gB gY gW fR fQ gC gA
set_option linter.unusedVariables false
set_option linter.unusedSimpArgs false
open Go.Proofs.Ytbaklikaoleplaa.Pure
def xG (M:Int) (w0 w:World) (g:Nat):Prop:=(∃(b:List Int) (p:Int),IsS96 w0 w g b p∧b.length≤2000∧(∀x∈b,0≤x∧x≤255)∧0≤p∧p≤M)∧Below w0.heap.size w0 w
section
variable {M L:Int} {w0 w w1:World} {g:Nat}
theorem xG.le (h:xG M w0 w g) (hn:M≤L):xG L w0 w g:=by
  obtain ⟨⟨b,p,h1,h2,h3,h4,h5⟩,hb⟩:=h;exact ⟨⟨b,p,h1,h2,h3,h4,Int.le_trans h5 hn⟩,hb⟩
theorem xG.below (h:xG M w0 w g) (hb:Below w.heap.size w w1):xG M w0 w1 g:=by
  obtain ⟨⟨b,p,h1,h2,h3,h4,h5⟩,h6⟩:=h;exact ⟨⟨b,p,h1.below hb,h2,h3,h4,h5⟩,bK h6 hb⟩
theorem xG.alloc (h:xG M w0 w g) (o:Obj):xG M w0 (w.alloc o) g:=h.below (bJ (bH _ _) o)
theorem xG.drew (h:xG M w0 w g):xG M w0 w.drew g:=h.below (bG (bH _ _))
theorem xG.drewN (h:xG M w0 w g) (m:Nat):xG M w0 (w.drewN m) g:=h.below (bI (bH _ _) m)
theorem xG.far (h:xG M w0 w g) {p:Addr} (hne:g≠p.block) (hp:w0.heap.size≤p.block) (u:Value):xG M w0 (w.setCell p u) g:=by
  obtain ⟨⟨b,q,h1,h2,h3,h4,h5⟩,h6⟩:=h;exact ⟨⟨b,q,h1.far hne u,h2,h3,h4,h5⟩,h6.setCell hp u⟩
theorem xG.grown (h:xG M w0 w g) {row:Option Nat} (hg:w.grownBy w1 row) (hne:some g≠row) (hr: ∀k,row=some k→w0.heap.size≤k):xG M w0 w1 g:=by
  obtain ⟨⟨b,q,h1,h2,h3,h4,h5⟩,h6⟩:=h;exact ⟨⟨b,q,h1.grown hg hne,h2,h3,h4,h5⟩,h6.grown hg h6.size hr⟩
theorem xG.lt (h:xG M w0 w g):g<w.heap.size:=by
  obtain ⟨⟨b,q,h1,_⟩,_⟩:=h;exact h1.lt
theorem xG.ge (h:xG M w0 w g):w0.heap.size≤g:=by
  obtain ⟨⟨b,q,h1,_⟩,_⟩:=h;exact h1.ge
end
theorem jF (M:Int) (g:Nat) (n:Int) (w0 w:World) (h:xG M w0 w g) (hM:M≤1000000) (h0:1≤n) (h1:n≤1000000):
  Calls Try.prog 63 #[.pointer (some ⟨g,0,none⟩),.int .i64 n] w fun e w'=> ∃v:Int,e= .returned (.int .i64 v)∧(0≤v∧v<n)∧xG (M+1) w0 w' g∧gZ w w' g none:=by
 obtain ⟨⟨b,p,hI,hl,hb,hp,hpM⟩,hB⟩:=h;obtain ⟨v,v0,v1,hv⟩:=bCm hb hl hp (by omega) h0 h1;exact (kW 1 g b p n v (p+1) w0 w hI hB (hv 1 (bV _))).mono fun e w' ⟨he,hi,hbb,hk⟩=>⟨v,he,⟨v0,v1⟩,⟨⟨b,p+1,hi,hl,hb,by omega,by omega⟩,hbb⟩,hk⟩
theorem bRk (A0:Option Addr) (c0:Nat) (l0:List Int) (w:World) (hr0:Kd.C (Kd.int .u8) w A0 l0.length l0) (hc0:l0.length≤c0) (hl: ∀x∈l0,(Lit.int .u8 x).wf=true):
  Calls Try.prog 38 #[.slice A0 l0.length c0] w fun e w'=> ∃g:Nat,e= .returned (.pointer (some ⟨g,0,none⟩))∧xG 0 w w' g∧w.heap.size≤g∧Below w.heap.size w w':=by
 obtain ⟨b,hb,hb1,hb2⟩:=bPr hl;exact (bEk A0 c0 l0 b 0 w w (bH _ _) hr0 hc0 hb).mono fun e w' ⟨g,he,hi,hbb,hbb2⟩=>⟨g,he,⟨⟨b,0,hi,hb1,hb2,by omega,by omega⟩,hbb⟩,hi.ge,hbb2⟩
end Go.Proofs.Ytbaklikaoleplaa.K
namespace Go.Proofs.Ytbaklikaoleplaa.K
open Go.RowKit Go.Proofs.YtbaklikaoleplaaW.PrintWords Go.Proofs.YtbaklikaoleplaaW.PrintLast Go.Proofs.YtbaklikaoleplaaW.PrintMore
attribute [local go_sem] gD gB gY gW fR fQ gC gA
set_option linter.unusedVariables false
set_option linter.unusedSimpArgs false
def nF (w:World) (g:Nat) (a b c d e:Value):World:=((((w.setCell ⟨g,0,none⟩ a).setCell ⟨g,1,none⟩ b).setCell ⟨g,2,none⟩ c).setCell ⟨g,3,none⟩ d).setCell ⟨g,4,none⟩ e
theorem jH {w:World} {g:Nat} {t:TypeId} {c0 c1 c2 c3 c4 a b c d e:Value} (h:w.heap[g]? =some (.cells #[c0,c1,c2,c3,c4] t (0,0))):(nF w g a b c d e).heap[g]? =some (.cells #[a,b,c,d,e] t (0,0)):=
  fF (fF (fF (fF (fF h 0 _ rfl) 1 _ rfl) 2 _ rfl) 3 _ rfl) 4 _ rfl
theorem bCf {w:World} {g k:Nat} {a b c d e:Value} (hk:k≠g):(nF w g a b c d e).heap[k]? =w.heap[k]? :=by
  unfold nF;rw [fS _ _ _ k hk,fS _ _ _ k hk,fS _ _ _ k hk,fS _ _ _ k hk,fS _ _ _ k hk]
theorem zI {w0 w:World} {g:Nat} {a b c d e:Value} (h:Below w0.heap.size w0 w) (hg:w0.heap.size≤g):Below w0.heap.size w0 (nF w g a b c d e):=
  cE (cE (cE (cE (cE h hg) hg) hg) hg) hg
theorem bJp (w:World) (a b:Obj):((w.alloc a).alloc b).heap[w.heap.size+1]? =some b:=by
  have h:=kU (w.alloc a) b
  rwa [show (w.alloc a).heap.size=w.heap.size+1 by simp] at h
theorem R_box5n {α:Type} {K:Kd α} {q:TypeId} {w:World} {base g:Nat} {ok:Nat→Prop} {v:Value} {xs:List α} {a b c d e:Value} (h:K.R q w base ok v xs) (hg: ∀k,ok k→k≠g):K.R q (nF w g a b c d e) base ok v xs:=
  Kd.R_step h (fun k hk _=>bCf (hg k hk))
theorem bLe {α:Type} {K:Kd α} {q t:TypeId} {w:World} {base g gc n cap:Nat} {ok:Nat→Prop} {xs:List α} {cs:Array Value} (h:w.heap[g]? =some (.cells cs t (0,0))) (hr:K.R q w base ok (.slice (some ⟨gc,0,none⟩) n cap) xs) (hq:t≠q):g≠gc:=by
 intro e;subst e;obtain ⟨inner,ho⟩:=Kd.R_own hr;obtain ⟨cells,hc⟩:=bAk ho g (by simp [Value.ownBlock]);rw [h] at hc;injection hc with hc;injection hc with _ h2;exact hq h2
theorem pC {α:Type} {K:Kd α} {q t:TypeId} {w:World} {base g:Nat} {ok:Nat→Prop} {v:Value} {xs:List α} {cs:Array Value} {a b c d e:Value} (h:K.R q w base ok v xs) (hz:w.heap[g]? =some (.cells cs t (0,0))) (ht: ∀z,z∈q::K.E→z≠t):K.R q (nF w g a b c d e) base ok v xs:=
  cI (R_box5n (nJ h hz ht) (fun _ hk=>hk.2)) (fun _ hk=>hk.1)
structure Ch (S:Nat→Prop) (w w':World):Prop where
 os:w'.os=w.os
 tape:w'.tape=w.tape
 output:w'.output=w.output
 size:w.heap.size≤w'.heap.size
 block: ∀k,k<w.heap.size→¬S k→w'.heap[k]? =w.heap[k]?
section
variable {S S2:Nat→Prop} {w w0 w1 w2:World}
theorem Ch.refl (S:Nat→Prop) (w:World):Ch S w w:=⟨rfl,rfl,rfl,bV _,fun _ _ _=>rfl⟩
theorem Ch.trans (h:Ch S w w1) (k:Ch S2 w1 w2) (hs: ∀k,S2 k→S k∨w.heap.size≤k):Ch S w w2:=
  ⟨k.os.trans h.os,k.tape.trans h.tape,k.output.trans h.output,dO h.size k.size,fun i hi hn=>(k.block i (pZ hi h.size) (fun h2=>(hs i h2).elim hn (fun h3=>by omega))).trans (h.block i hi hn)⟩
theorem Ch.then_ (h:Ch S w w1) (k:Ch S w1 w2):Ch S w w2:=h.trans k (fun _ h=> .inl h)
theorem Ch.mono (h:Ch S w w1) (hs: ∀k,S k→S2 k):Ch S2 w w1:=⟨h.os,h.tape,h.output,h.size,fun i hi hn=>h.block i hi (fun h2=>hn (hs i h2))⟩
theorem Ch.below (h:Ch S w w1) (hb:Below w1.heap.size w1 w2):Ch S w w2:=
  h.trans (S2:=fun _=>False) ⟨hb.os,hb.tape,hb.output,hb.size,fun i hi _=>hb.block i hi⟩ (fun _ h=>h.elim)
theorem Ch.alloc (h:Ch S w w1) (o:Obj):Ch S w (w1.alloc o):=h.below (bJ (bH _ _) o)
theorem Ch.drew (h:Ch S w w1):Ch S w w1.drew:=h.below (bG (bH _ _))
theorem Ch.drewN (h:Ch S w w1) (m:Nat):Ch S w (w1.drewN m):=h.below (bI (bH _ _) m)
theorem Ch.set (h:Ch S w w1) {p:Addr} (hp:S p.block∨w.heap.size≤p.block) (u:Value):Ch S w (w1.setCell p u):=
  h.trans (S2:=fun k=>k=p.block) ⟨rfl,rfl,rfl,by simp [World.setCell],fun k _ hn=>fS _ _ _ _ hn⟩ (fun k hk=>by rw [hk];exact hp)
theorem Ch.box5 (h:Ch S w w1) {g:Nat} (hp:S g∨w.heap.size≤g) (a b c d e:Value):Ch S w (nF w1 g a b c d e):=
  ((((h.set (p:=⟨g,0,none⟩) hp a).set (p:=⟨g,1,none⟩) hp b).set (p:=⟨g,2,none⟩) hp c).set (p:=⟨g,3,none⟩) hp d).set (p:=⟨g,4,none⟩) hp e
theorem Ch.grown (h:Ch S w w1) {row:Option Nat} (hg:w1.grownBy w2 row) (hr: ∀k,row=some k→S k∨w.heap.size≤k):Ch S w w2:=
  h.trans (S2:=fun k=>row=some k) ⟨hg.os,hg.tape,hg.output,hg.size,fun k hk hn=>hg.block k hk (fun e=>hn e.symm)⟩ hr
theorem Ch.kept (h:Ch S w w1):Kept w w1 S:=⟨h.size,h.block⟩
theorem Ch.toBelow (h:Ch S w w1) {B:Nat} (hB:B≤w.heap.size) (hS: ∀k,S k→B≤k):Below B w w1:=⟨h.os,h.tape,h.output,h.size,fun k hk=>h.block k (by omega) (fun h2=>by have:=hS k h2;omega)⟩
theorem Ch.keep {g:Nat} (h:Ch (fun k=>k=g) w w1):gZ w w1 g none:=⟨h.size,fun i hi hn _=>h.block i hi hn⟩
theorem Ch.blk (h:Ch S w w1) {g:Nat} {o:Obj} (hb:w.heap[g]? =some o) (hn: ¬S g):w1.heap[g]? =some o:=bHx hb h.kept hn
theorem Ch.R {α:Type} {d:Kd α} {e base:Nat} {ok:Nat→Prop} {v:Value} {xs:List α} (h:Ch S w w1) (hr:d.R e w base ok v xs) (hne: ∀k,ok k→¬S k):d.R e w1 base ok v xs:=Kd.R_kept hr h.kept hne
end
section
variable {M L:Int} {w0 w w1:World} {g:Nat} {S:Nat→Prop}
theorem xG.ch (h:xG M w0 w g) (hc:Ch S w w1) (hne: ¬S g) (hS: ∀k,S k→w0.heap.size≤k):xG M w0 w1 g:=by
  obtain ⟨⟨b,q,⟨A0,c0,hb,hg,hC⟩,h2,h3,h4,h5⟩,h6⟩:=h;exact ⟨⟨b,q,⟨A0,c0,hc.blk hb hne,hg,hC⟩,h2,h3,h4,h5⟩,h6.trans (hc.toBelow h6.size hS)⟩
theorem xG.step (h:xG M w0 w g) (h1:xG L w0 w1 g) (hk:gZ w w1 g none):Ch (fun k=>k=g) w w1:=
  ⟨h1.2.os.trans h.2.os.symm,h1.2.tape.trans h.2.tape.symm,h1.2.output.trans h.2.output.symm,hk.1,fun k hlt hn=>hk.2 k hlt hn (by simp)⟩
end
def qF (w w':World):Prop:= ∀(k:Nat) (cells:Array Value) (t:Nat),(t=102∨t=56∨t=83∨t=29∨t=68)→w.heap[k]? =some (.cells cells t (0,0))→w'.heap[k]? =some (.cells cells t (0,0))
theorem qF.refl (w:World):qF w w:=fun _ _ _ _ h=>h
theorem qF.trans {w w1 w2:World} (h:qF w w1) (k:qF w1 w2):qF w w2:=fun a b c d e=>k a b c d (h a b c d e)
theorem qF.of_below {w w1:World} (h:Below w.heap.size w w1):qF w w1:=fun a _ _ _ e=>(h.block a (dN e)).trans e
theorem qF.below {w w1 w2:World} (h:qF w w1) (hb:Below w1.heap.size w1 w2):qF w w2:=h.trans (qF.of_below hb)
theorem qF.thing {w w1:World} (h:qF w w1) {g:Nat} {c:Array Value} (hb:w.heap[g]? =some (.cells c 102 (0,0))):w1.heap[g]? =some (.cells c 102 (0,0)):=h g c _ (.inl rfl) hb
theorem qF.pm {w w1:World} (h:qF w w1) {g:Nat} {c:Array Value} (hb:w.heap[g]? =some (.cells c 56 (0,0))):w1.heap[g]? =some (.cells c 56 (0,0)):=h g c _ (.inr (.inl rfl)) hb
theorem qF.pg {w w1:World} (h:qF w w1) {g:Nat} {c:Array Value} (hb:w.heap[g]? =some (.cells c 83 (0,0))):w1.heap[g]? =some (.cells c 83 (0,0)):=h g c _ (.inr (.inr (.inl rfl))) hb
theorem qF.mem {w w1:World} (h:qF w w1) {g:Nat} {c:Array Value} (hb:w.heap[g]? =some (.cells c 29 (0,0))):w1.heap[g]? =some (.cells c 29 (0,0)):=h g c _ (.inr (.inr (.inr (.inl rfl)))) hb
section
variable {P:Program} {ops:Array Oper} {Q:Exit→Act→World→Prop}
theorem goesV_ {rest : List Oper} {oi : Oper} {a : Act} {w : World} (hg : oi.guard = none) {f : FuncId} {fn : Func} {x : Operand} {xs : Array Operand} {ts : Array TypeId} {caps : Array Value} (hf : P.funcs[f]? = some fn) (hname : (fn.name == "runtime.NumGoroutine") = false) (hb : fn.body.isSome = true) (args : Array Value)
  (hop:oi.op= .call {callee:= .value x,args:=xs,argTypes:=ts}) (hx:a.eval x= .func (.func f) #[] caps) (hargs:xs.map a.eval++caps=args)
  (h:Calls P f args w fun e w'=> ∃v,e= .returned v∧wpList P ops Q rest (a.put oi.dst v) w'):wpList P ops Q (oi::rest) a w:=by
 refine wpList_plain hg fun K hK=>?_
 have he:=bKh hf hname hb args w
 have hrun:(execOp a.eval oi).run P w= .ok (.enter f args) w:=by
  unfold execOp;simp [hop,resolve,hx,Deferred.ofValue,invoke,hargs,he]
 unfold Oper.wp;rw [hrun,Oper.upon_enter];refine h.mono fun e w'' hh=>?_
 obtain ⟨v,rfl,hk⟩:=hh;exact hK _ _ hk
end
def thBox (w:World) (g:Nat) (a b:Value):World:=(w.setCell ⟨g,0,none⟩ a).setCell ⟨g,1,none⟩ b
theorem bQd {w:World} {g:Nat} {t:TypeId} {c0 c1 a b:Value} (h:w.heap[g]? =some (.cells #[c0,c1] t (0,0))):(thBox w g a b).heap[g]? =some (.cells #[a,b] t (0,0)):=
  fF (fF h 0 _ rfl) 1 _ rfl
theorem Ch.thBox {S:Nat→Prop} {w w1:World} (h:Ch S w w1) {g:Nat} (hp:S g∨w.heap.size≤g) (a b:Value):Ch S w (thBox w1 g a b):=(h.set (p:=⟨g,0,none⟩) hp a).set (p:=⟨g,1,none⟩) hp b
structure Mv where
 tw:List Int
 y:Int
 t:Int
 o:Int
 tc:List Bool
 mv:List (Int×Int)
 full:Bool
def nO (mv:List (Int×Int)) (a:Int):Option Int:=(mv.find? (fun p=>p.1==a)).map Prod.snd
def bQh (a:Int):Prop:=(Lit.int .i64 a).wf=true
def bOq (D:DataW Unit) (mv:List (Int×Int)):Prop:=Maps.IsMap D∧∀a,bQh a→Maps.has D (.int .i64 a)=(nO mv a).isSome∧D.atKey (.int .i64 a) (.lit (.int .i64 0))= .lit (.int .i64 ((nO mv a).getD 0))
theorem bOq.nil:bOq (.map []) []:=⟨Maps.isMap_empty,fun _ _=>⟨rfl,rfl⟩⟩
theorem bAu {mv:List (Int×Int)} {a b:Int} (h:nO mv a=none) (x:Int):nO (mv++[(a,b)]) x=if x=a then some b else nO mv x:=by
 unfold nO at h ⊢;rw [List.find?_append];by_cases c:x=a
 ·subst c
  have h':mv.find? (fun p=>p.1==x)=none:=by simpa using h
  rw [h',if_pos rfl];simp
 ·rw [if_neg c]
  cases hf:mv.find? (fun p=>p.1==x) with
  |none=>
   have e:(a==x)=false:=xP.mpr (fun e=>c e.symm)
   simp [List.find?_cons,e]
  |some q=>simp
theorem bOq.put {D:DataW Unit} {mv:List (Int×Int)} (h:bOq D mv) {a b:Int} (hn:nO mv a=none):bOq (D.put (.int .i64 a) (.lit (.int .i64 b))) (mv++[(a,b)]):=by
 refine ⟨h.1.put _ _,fun x hx=>?_⟩;rw [bAu hn];by_cases c:x=a
 ·subst c
  rw [if_pos rfl,Maps.has_put_same h.1 (by trivial),Maps.atKey_put_same h.1 (by trivial)];exact ⟨rfl,rfl⟩
 ·have hne : Lit.int .i64 x ≠ Lit.int .i64 a := fun e => c (by injection e)
  rw [if_neg c,Maps.has_put_other hne,Maps.atKey_put_other hne];exact h.2 x hx
theorem lawI:Maps.Keyed Try.prog 3:=Maps.int_keyed Try.underlying3
theorem zeroI (w:World):(zeroValue 3).run Try.prog w= .ok (.int .i64 0) w:=by kernel_rfl
def bBc (w:World) (B:Nat) (mv:List (Int×Int)):Prop:= ∃D:DataW Unit,w.ownsMap Try.prog 3 (plainElem Try.prog 3) B mv.length D∧bOq D mv
theorem bBc.heap {w w1:World} {B:Nat} {mv:List (Int×Int)} (h:bBc w B mv) (e:w1.heap[B]? =w.heap[B]?):bBc w1 B mv:=by
  obtain ⟨D,⟨es,clock,hb,r⟩,hm⟩:=h;exact ⟨D,⟨es,clock,e.trans hb,r⟩,hm⟩
theorem bBc.lt {w:World} {B:Nat} {mv:List (Int×Int)} (h:bBc w B mv):B<w.heap.size:=by
  obtain ⟨D,h,_⟩:=h;exact h.lt
theorem bBc.nc {w:World} {B:Nat} {mv:List (Int×Int)} (h:bBc w B mv) {c:Array Value} {t:Nat}:w.heap[B]?≠some (.cells c t (0,0)):=by
 obtain ⟨D,⟨es,clock,hb,r⟩,hm⟩:=h;rw [hb];intro e
 cases e
theorem bBc.look {w:World} {B:Nat} {mv:List (Int×Int)} (h:bBc w B mv) {a:Int} (ha:bQh a) (MT:Nat) (ht:Try.prog.underlying MT=some (.map 3 3)):
  (Instr.lookup MT (.map (some B)) (.int .i64 a) true).run Try.prog w= .ok (.tuple #[.int .i64 ((nO mv a).getD 0),.bool (nO mv a).isSome]) w:=by
 obtain ⟨D,h,hm⟩:=h;obtain ⟨v,ps,hr,hv⟩:=h.look_ok lawI ht (zeroI w) (plainElem_int Try.underlying3 (by decide)) (Maps.keyOf_int_mk Try.underlying3 ha);obtain ⟨c,rfl,hc,_⟩:=plainElem_int_inv Try.underlying3 hv;have h1:=hm.2 a ha;rw [h1.1] at hr;have hc:=gF Prod.fst hc;rw [h1.2] at hc;injection hc with hc;injection hc with _ hc;rw [←hc] at hr;exact hr
theorem bBc.look1 {w:World} {B:Nat} {mv:List (Int×Int)} (h:bBc w B mv) {a:Int} (ha:bQh a) (MT:Nat) (ht:Try.prog.underlying MT=some (.map 3 3)):
  (Instr.lookup MT (.map (some B)) (.int .i64 a) false).run Try.prog w= .ok (.int .i64 ((nO mv a).getD 0)) w:=by
 obtain ⟨D,h,hm⟩:=h;obtain ⟨c,hr,hc,_⟩:=h.lookup_int lawI ht Try.underlying3 (zeroI w) (Maps.keyOf_int_mk Try.underlying3 ha);rw [(hm.2 a ha).2] at hc;injection hc with hc;injection hc with _ hc;rw [←hc] at hr;exact hr
theorem bBc.put {w:World} {B:Nat} {mv:List (Int×Int)} (h:bBc w B mv) {a b:Int} (ha:bQh a) (hb:bQh b) (hn:nO mv a=none) (hl:mv.length<2000000) (MT:Nat) (ht:Try.prog.underlying MT=some (.map 3 3)):
  ∃w1,(Instr.mapUpdate MT (.map (some B)) (.int .i64 a) (.int .i64 b)).run Try.prog w= .ok () w1∧bBc w1 B (mv++[(a,b)])∧Ch (fun k=>k=B) w w1:=by
 obtain ⟨D,h,hm⟩:=h;obtain ⟨w1,hr,ho,hg⟩:=h.store lawI ht (by unfold maxLen;omega) (Maps.keyOf_int_mk Try.underlying3 ha) (plainElem_int Try.underlying3 hb);have hg:=hg.grown;refine ⟨w1,hr,⟨_,by rw [cH];exact ho,hm.put hn⟩,⟨hg.os,hg.tape,hg.output,hg.size,fun k hk hne=>hg.block k hk (fun e=>hne (by injection e))⟩⟩
theorem bSe {W:World} {base:Nat} {ok:Nat→Prop} {g cap i n c c2:Nat} {xs ys:List Int} {ad:Addr} (HO:(Kd.int .i64).R 3 W base ok (.slice (some ⟨g,0,none⟩) xs.length cap) xs) (hr:Kd.C (Kd.int .i64) W (some ad) n ys) (hi:i+n≤xs.length) (hn:0<n)
  (t t' ty:TypeId) (ht:Try.prog.underlying t=some (.slice 3)):
  ∃w1,(Builtin.copy_ #[t,t'] ty #[.slice (some ⟨g,i,none⟩) (xs.length - i) c2,.slice (some ad) n c]).run Try.prog W= .ok (.int .i64 (n:Int)) w1∧(Kd.int .i64).R 3 w1 base ok (.slice (some ⟨g,0,none⟩) xs.length cap) (xs.take i++ys++xs.drop (i+n))∧Ch (fun k=>k=g) W w1:=by
 have hR:=Kd.reads_of_C (enc:=Value.int .i64) (d:=(0:Int)) (h1:=fun _=>rfl) hr;have hm:ys.length=n:=hR.1
 have hown:=jO (enc:=Value.int .i64) (h1:=fun _=>rfl) HO;obtain ⟨ad',hA,hc⟩:=hR.2.2 hn;injection hA with hA;subst hA;rcases hown.2 with ⟨hv,_⟩|⟨g',cap',cur,hv,hb,hh,hnc,hcm,hcs,htake⟩
 ·exact absurd hv (by simp)
 injection hv with e1 e2 e3;injection e1 with e1;injection e1 with e1;subst e1 e3;have hcs1:cur.size=cap:=by omega
 have hkl:(pE (Value.int .i64) ys).length=n:=by rw [rG,hm]
 have hsrc: ∀j u,(pE (Value.int .i64) ys)[j]? =some u→W.cell? (ad.add j)=some u:=by
  intro j u hu
  have hj:j<ys.length:=by
   rcases sB j ys.length with h|h
   ·exact h
   ·rw [jW (by rw [rG]; exact h)] at hu
    cases hu
  rw [bMe (d:=(0:Int)) _ j hj] at hu;rw [hc j (by omega),←hu]
 have hrun:=run_copy_cells (P:=Try.prog) W t t' ty 3 g i (xs.length - i) c2 ad n c (pE (Value.int .i64) ys) ht (by kernel_rfl) (by rw [hkl];show n=min n (xs.length - i);omega) hsrc
  (fun j hj=>by rw [cell_of_row W g _ cur 3 (0,0) hh];simp;omega) (fun j _=>bL hh _) (by intro u hu;simp only [pE,List.mem_map] at hu;obtain ⟨q,_,rfl⟩:=hu;rfl)
 obtain ⟨cur',h3,h4,h5⟩:=xZ (pE (Value.int .i64) ys) i W cur hh (by rw [hkl];omega);obtain ⟨s1,s2,s3,s4⟩:=vZ g (pE (Value.int .i64) ys) i W
 have hln:(xs.take i++ys++xs.drop (i+n)).length=xs.length:=by
  rw [cH,cH,dB,dJ,hm];omega
 have hR2:(Kd.int .i64).R 3 (W.setCells g i (pE (Value.int .i64) ys)) base ok (.slice (some ⟨g,0,none⟩) (xs.take i++ys++xs.drop (i+n)).length cap) (xs.take i++ys++xs.drop (i+n)):=by
  refine jC (enc:=Value.int .i64) (h1:=fun _=>rfl) ?_ (by rw [hln];exact HO.1);rw [hln];refine ⟨by rw [rG,hln,pI],.inr ⟨g,cap,cur',rfl,hb,h3,hnc,hcm,by rw [h4,hcs],?_⟩⟩;have htk:cur.toList.take xs.length=pE (Value.int .i64) xs:=by rw [←htake,pI]
  have htk2:cur.toList.take i=pE (Value.int .i64) (xs.take i):=by
   have:cur.toList.take i=(cur.toList.take xs.length).take i:=by rw [List.take_take,kL (by omega)]
   rw [this,htk];simp [pE,List.map_take]
  have hdr:(cur.toList.drop (i+n)).take (xs.length - (i+n))=pE (Value.int .i64) (xs.drop (i+n)):=by
   have:pE (Value.int .i64) (xs.drop (i+n))=(pE (Value.int .i64) xs).drop (i+n):=by simp [pE,List.map_drop]
   rw [this,←htk,List.drop_take]
  rw [h5,hkl,pI,htk2,bCc,bCc,←hdr];have hl1:(pE (Value.int .i64) (xs.take i)++pE (Value.int .i64) ys).length=i+n:=by rw [cH,rG,rG,dB,hm];omega
  rw [List.take_append,hl1,tO (by rw [hl1];omega)]
 rw [hln] at hR2;refine ⟨_,by rw [hrun,hkl];rfl,hR2,⟨s1,s2,s3,by rw [s4];exact bV _,fun k _ hk=>yA _ _ k hk⟩⟩
section
variable {P:Program} {ops:Array Oper} {Q:Exit→Act→World→Prop}
theorem copyK_ {oi:Oper} {N:Option Tmp} {a:Act} {w w1:World} {K:Act→World→Prop} {d s:Operand} {t t':TypeId} {v u v':Value} (hw:Region.wanted oi (yielded ops a.tmps)=true) (hN:oi.dst=N)
  (hop:oi.op= .call {callee:= .builtin .copy,args:= #[d,s],argTypes:= #[t,t']}) (hd:a.eval d=v) (hs:a.eval s=u) (hr:(Builtin.copy_ #[t,t'] oi.type #[v,u]).run P w= .ok v' w1) (h:K (a.put N v') w1):
  if Region.wanted oi (yielded ops a.tmps)=true then Oper.wp P oi a w K Q else K (a.put N undef) w:=by
 rw [if_pos hw];subst hN;unfold Oper.wp execOp;simp only [hop,resolve,invoke,builtin,Sem.run_bind,Sem.run_pure,Result.andThen_ok,nX,gU,mP,hd,hs,hr]
 exact h
theorem mapK_ {oi:Oper} {a:Act} {w w1:World} {K:Act→World→Prop} {m x y:Operand} {t:TypeId} {v u z:Value} (hw:Region.wanted oi (yielded ops a.tmps)=true) (hN:oi.dst=none)
  (hop:oi.op= .mapUpdate t m x y) (hm:a.eval m=v) (hx:a.eval x=u) (hy:a.eval y=z) (hr:(Instr.mapUpdate t v u z).run P w= .ok () w1) (h:K a w1):
  if Region.wanted oi (yielded ops a.tmps)=true then Oper.wp P oi a w K Q else K (a.put none undef) w:=by
 refine vN hw hN ?_ h;unfold execOp;simp [hop,hm,hx,hy,hr,Result.andThen]
end
structure Mg (b:Nat) (w0:World) (g gm B gw cW:Nat) (AC:Option Addr) (cC:Nat) (AO:Option Addr) (cO:Nat) (w:World) (s:Mv) (M:List (Int×Int)):Prop where
 bx:w.heap[gm]? =some (.cells #[.pointer (some ⟨g,0,none⟩),.slice (some ⟨gw,0,none⟩) s.tw.length cW,.int .i64 s.y,.int .i64 s.t,.int .i64 s.o,.slice AC s.tc.length cC,.map (some B),.slice AO s.mv.length cO,.bool s.full] 90 (0,0))
 ge:b≤gm∧b≤B
 rw_:Kd.R (Kd.int .i64) 3 w b (fun k=>k≠gm∧k≠B) (.slice (some ⟨gw,0,none⟩) s.tw.length cW) s.tw
 rc:Kd.R Kd.bool 4 w b (fun k=>k≠gm∧k≠B∧k≠gw) (.slice AC s.tc.length cC) s.tc
 ro:Kd.R (Kd.int .i64) 3 w b (fun k=>(k≠gm∧k≠B∧k≠gw)∧some k≠(Value.slice AC s.tc.length cC).ownBlock) (.slice AO s.mv.length cO) (s.mv.map Prod.fst)
 mp:bBc w B M
 be:Below b w0 w
 sz:b≤w.heap.size
theorem qF.of_ch {S:Nat→Prop} {w w1:World} (hc:Ch S w w1) (hne: ∀(k:Nat) (c:Array Value) (t:Nat),t≠3∧t≠4∧t≠90→w.heap[k]? =some (.cells c t (0,0))→¬S k):qF w w1:=
  fun k c t ht hb=>hc.blk hb (hne k c t (by omega) hb)
section
variable {b g gm B gw cW cC cO:Nat} {w0 w w1:World} {AC AO:Option Addr} {s:Mv} {M M':List (Int×Int)}
theorem Mg.gwb (h:Mg b w0 g gm B gw cW AC cC AO cO w s M):gw≠gm∧gw≠B:=h.rw_.1 gw rfl
theorem Mg.gwge (h:Mg b w0 g gm B gw cW AC cC AO cO w s M):b≤gw:=nN h.rw_ gw rfl
theorem Mg.Bgm (h:Mg b w0 g gm B gw cW AC cC AO cO w s M):B≠gm:=fun e=>h.mp.nc (by rw [e];exact h.bx)
theorem Mg.step (h:Mg b w0 g gm B gw cW AC cC AO cO w s M) {S:Nat→Prop} (hc:Ch S w w1) (hS: ∀k,S k→b≤k):Below b w0 w1∧b≤w1.heap.size:=⟨h.be.trans (hc.toBelow h.sz hS),dO h.sz hc.size⟩
theorem Mg.below (h:Mg b w0 g gm B gw cW AC cC AO cO w s M) (hb:Below w.heap.size w w1):Mg b w0 g gm B gw cW AC cC AO cO w1 s M:=
  ⟨bS h.bx hb,h.ge,bZ h.rw_ hb,bZ h.rc hb,bZ h.ro hb,h.mp.heap (hb.block B h.mp.lt),h.be.trans (hb.mono h.sz),dO h.sz hb.size⟩
theorem Mg.words (h:Mg b w0 g gm B gw cW AC cC AO cO w s M) (hc:Ch (fun k=>k=gw) w w1) {tw:List Int} (hr:Kd.R (Kd.int .i64) 3 w1 b (fun k=>k≠gm∧k≠B) (.slice (some ⟨gw,0,none⟩) s.tw.length cW) tw) (hl:tw.length=s.tw.length):
  Mg b w0 g gm B gw cW AC cC AO cO w1 {s with tw:=tw} M∧qF w w1:=by
 have hg:=h.gwb;have hs:=h.step hc (fun k hk=>by rw [hk];exact h.gwge);refine ⟨⟨?_,h.ge,?_,hc.R h.rc (fun k hk=>hk.2.2),hc.R h.ro (fun k hk=>hk.1.2.2),h.mp.heap (hc.block B h.mp.lt (fun e=>hg.2 e.symm)),hs.1,hs.2⟩,qF.of_ch hc (fun k c t ht hb e=>?_)⟩
 ·show w1.heap[gm]? = some (.cells #[.pointer (some ⟨g, 0, none⟩), .slice (some ⟨gw, 0, none⟩) tw.length cW, .int .i64 s.y, .int .i64 s.t, .int .i64 s.o, .slice AC s.tc.length cC, .map (some B), .slice AO s.mv.length cO, .bool s.full] 90 (0, 0))
  rw [hl];exact hc.blk h.bx (fun e=>hg.1 e.symm)
 ·show Kd.R (Kd.int .i64) 3 w1 b _ (.slice (some ⟨gw, 0, none⟩) tw.length cW) tw
  rw [hl];exact hr
 ·rw [e] at hb
  exact qP h.rw_ hb (fun e=>ht.1 e.symm) rfl
theorem Mg.map (h:Mg b w0 g gm B gw cW AC cC AO cO w s M) (hc:Ch (fun k=>k=B) w w1) (ho:bBc w1 B M'):Mg b w0 g gm B gw cW AC cC AO cO w1 s M'∧qF w w1:=by
  have hs:=h.step hc (fun k hk=>by rw [hk];exact h.ge.2);exact ⟨⟨hc.blk h.bx (fun e=>h.Bgm e.symm),h.ge,hc.R h.rw_ (fun k hk=>hk.2),hc.R h.rc (fun k hk=>hk.2.1),hc.R h.ro (fun k hk=>hk.1.2.1),ho,hs.1,hs.2⟩,qF.of_ch hc (fun k c t _ hb e=>h.mp.nc (by rw [←e];exact hb))⟩
theorem Mg.chgm (hn:Mg b w0 g gm B gw cW AC cC AO cO w s M) (i:Nat) (v:Value):Ch (fun k=>k=gm) w (w.setCell ⟨gm,i,none⟩ v)∧qF w (w.setCell ⟨gm,i,none⟩ v):=by
 have hc:Ch (fun k=>k=gm) w (w.setCell ⟨gm,i,none⟩ v):=(Ch.refl (fun k=>k=gm) w).set (p:=⟨gm,i,none⟩) (.inl rfl) _
 refine ⟨hc,qF.of_ch hc (fun k c t ht hb e=>?_)⟩;rw [e,hn.bx] at hb;injection hb with hb;injection hb with _ hb;exact ht.2.2 hb.symm
theorem Mg.cell (h:Mg b w0 g gm B gw cW AC cC AO cO w s M) {s':Mv} (hc:Ch (fun k=>k=gm) w w1) (hb:w1.heap[gm]? =some (.cells #[.pointer (some ⟨g,0,none⟩),.slice (some ⟨gw,0,none⟩) s'.tw.length cW,.int .i64 s'.y,.int .i64 s'.t,.int .i64 s'.o,.slice AC s'.tc.length cC,.map (some B),.slice AO s'.mv.length cO,.bool s'.full] 90 (0,0)))
  (e1:s'.tw=s.tw) (e2:s'.tc=s.tc) (e3:s'.mv=s.mv):Mg b w0 g gm B gw cW AC cC AO cO w1 s' M:=by
 have hs:=h.step hc (fun k hk=>by rw [hk];exact h.ge.1);exact ⟨hb,h.ge,by rw [e1];exact hc.R h.rw_ (fun k hk=>hk.1),by rw [e2];exact hc.R h.rc (fun k hk=>hk.1),by rw [e2,e3];exact hc.R h.ro (fun k hk=>hk.1.1),h.mp.heap (hc.block B h.mp.lt h.Bgm),hs.1,hs.2⟩
theorem Mg.fullS (h:Mg b w0 g gm B gw cW AC cC AO cO w s M) (f:Bool):Mg b w0 g gm B gw cW AC cC AO cO (w.setCell ⟨gm,8,none⟩ (.bool f)) {s with full:=f} M∧qF w (w.setCell ⟨gm,8,none⟩ (.bool f)):=
  ⟨h.cell (h.chgm 8 _).1 (fF h.bx 8 _ rfl) rfl rfl rfl,(h.chgm 8 _).2⟩
theorem Mg.oldS (h:Mg b w0 g gm B gw cW AC cC AO cO w s M) (o:Int):Mg b w0 g gm B gw cW AC cC AO cO (w.setCell ⟨gm,4,none⟩ (.int .i64 o)) {s with o:=o} M∧qF w (w.setCell ⟨gm,4,none⟩ (.int .i64 o)):=
  ⟨h.cell (h.chgm 4 _).1 (fF h.bx 4 _ rfl) rfl rfl rfl,(h.chgm 4 _).2⟩
theorem Mg.topS (h:Mg b w0 g gm B gw cW AC cC AO cO w s M) (o:Int):Mg b w0 g gm B gw cW AC cC AO cO (w.setCell ⟨gm,3,none⟩ (.int .i64 o)) {s with t:=o} M∧qF w (w.setCell ⟨gm,3,none⟩ (.int .i64 o)):=
  ⟨h.cell (h.chgm 3 _).1 (fF h.bx 3 _ rfl) rfl rfl rfl,(h.chgm 3 _).2⟩
theorem Mg.ord (h:Mg b w0 g gm B gw cW AC cC AO cO w s M) {AN:Option Addr} {cN:Nat} {ys:List Int} (p:Int×Int) (hy:ys=s.mv.map Prod.fst++[p.1]) (hr:Kd.R (Kd.int .i64) 3 w1 b (fun k=>(k≠gm∧k≠B∧k≠gw)∧some k≠(Value.slice AC s.tc.length cC).ownBlock) (.slice AN ys.length cN) ys)
  (hgr:w.grownBy w1 (Value.slice AO s.mv.length cO).ownBlock):Mg b w0 g gm B gw cW AC cC AN cN (w1.setCell ⟨gm,7,none⟩ (.slice AN ys.length cN)) {s with mv:=s.mv++[p]} M∧qF w (w1.setCell ⟨gm,7,none⟩ (.slice AN ys.length cN))∧w1.heap[gm]? =w.heap[gm]? :=by
 have hc:Ch (fun k=>some k=(Value.slice AO s.mv.length cO).ownBlock) w w1:=⟨hgr.os,hgr.tape,hgr.output,hgr.size,fun k hk hn=>hgr.block k hk hn⟩
 have hl:ys.length=(s.mv++[p]).length:=by rw [hy];simp
 have hob:=fun k (hk:some k=(Value.slice AO s.mv.length cO).ownBlock)=>h.ro.1 k hk.symm
 have hb1:w1.heap[gm]? =some (.cells #[.pointer (some ⟨g,0,none⟩),.slice (some ⟨gw,0,none⟩) s.tw.length cW,.int .i64 s.y,.int .i64 s.t,.int .i64 s.o,.slice AC s.tc.length cC,.map (some B),.slice AO s.mv.length cO,.bool s.full] 90 (0,0)):=hc.blk h.bx (fun e=>(hob gm e).1.1 rfl)
 have hs:=h.step hc (fun k hk=>nN h.ro k hk.symm)
 have hr1:Kd.R (Kd.int .i64) 3 w1 b (fun k=>k≠gm∧k≠B) (.slice (some ⟨gw,0,none⟩) s.tw.length cW) s.tw:=
  jC (enc:=Value.int .i64) (h1:=fun _=>rfl) (jO (enc:=Value.int .i64) (h1:=fun _=>rfl) (hc.R (ok:=fun k=>k=gw) (jC (enc:=Value.int .i64) (h1:=fun _=>rfl) (jO (enc:=Value.int .i64) (h1:=fun _=>rfl) h.rw_) (fun k hk=>by injection hk with hk;exact hk.symm)) (fun k hk e=>(hob k e).1.2.2 hk))) h.rw_.1
 have hr2:Kd.R Kd.bool 4 w1 b (fun k=>k≠gm∧k≠B∧k≠gw) (.slice AC s.tc.length cC) s.tc:=
  jC (enc:=Value.bool) (h1:=fun _=>rfl) (jO (enc:=Value.bool) (h1:=fun _=>rfl) (hc.R (ok:=fun k=>(Value.slice AC s.tc.length cC).ownBlock=some k) (jC (enc:=Value.bool) (h1:=fun _=>rfl) (jO (enc:=Value.bool) (h1:=fun _=>rfl) h.rc) (fun k hk=>hk)) (fun k hk e=>(hob k e).2 hk.symm))) h.rc.1
 have hc2:Ch (fun k=>k=gm) w1 (w1.setCell ⟨gm,7,none⟩ (.slice AN ys.length cN)):=(Ch.refl (fun k=>k=gm) w1).set (p:=⟨gm,7,none⟩) (.inl rfl) _
 have hmB:w1.heap[B]? =w.heap[B]? :=hc.block B h.mp.lt (fun e=>(hob B e).1.2.1 rfl)
 refine ⟨⟨?_,h.ge,hc2.R hr1 (fun k hk=>hk.1),hc2.R hr2 (fun k hk=>hk.1),?_,(h.mp.heap hmB).heap (hc2.block B (by have:=h.mp.lt;have:=hc.size;omega) h.Bgm),hs.1.trans (hc2.toBelow hs.2 (fun k hk=>by rw [hk];exact h.ge.1)),dO hs.2 hc2.size⟩,?_,hb1.trans h.bx.symm⟩
 ·show (w1.setCell ⟨gm, 7, none⟩ (.slice AN ys.length cN)).heap[gm]? = some (.cells #[.pointer (some ⟨g, 0, none⟩), .slice (some ⟨gw, 0, none⟩) s.tw.length cW, .int .i64 s.y, .int .i64 s.t, .int .i64 s.o, .slice AC s.tc.length cC, .map (some B), .slice AN (s.mv ++ [p]).length cN, .bool s.full] 90 (0, 0))
  rw [←hl];exact fF hb1 7 _ rfl
 ·show Kd.R (Kd.int .i64) 3 _ b _ (.slice AN (s.mv ++ [p]).length cN) ((s.mv ++ [p]).map Prod.fst)
  rw [←hl,show (s.mv++[p]).map Prod.fst=ys by rw [hy];simp];exact hc2.R hr (fun k hk=>hk.1.1)
 ·refine (qF.of_ch hc (fun k c t ht hb e => qP h.ro hb (fun e => ht.1 e.symm) e)).trans (qF.of_ch hc2 (fun k c t ht hb e => ?_))
  rw [e,hb1] at hb;injection hb with hb;injection hb with _ hb;exact ht.2.2 hb.symm
end
section
variable {b g gm B gw cW cC cO:Nat} {w0 w w1:World} {AC AO:Option Addr} {s:Mv} {M M':List (Int×Int)}
theorem Mg.far (h:Mg b w0 g gm B gw cW AC cC AO cO w s M) {q t:Nat} {c:Array Value} (hq:w.heap[q]? =some (.cells c t (0,0))) (ht:t≠3∧t≠4∧t≠90) (hc:Ch (fun k=>k=q) w w1) (hb:b≤q):Mg b w0 g gm B gw cW AC cC AO cO w1 s M:=by
 have hs:=h.step hc (fun k hk=>by rw [hk];exact hb);have e1:some q≠(Value.slice (some ⟨gw,0,none⟩) s.tw.length cW).ownBlock:=qP h.rw_ hq (fun e=>ht.1 e.symm)
 have e2:some q≠(Value.slice AC s.tc.length cC).ownBlock:=qP h.rc hq (fun e=>ht.2.1 e.symm)
 have e3:some q≠(Value.slice AO s.mv.length cO).ownBlock:=qP h.ro hq (fun e=>ht.1 e.symm)
 refine ⟨hc.blk h.bx (fun e=>?_),h.ge,?_,?_,?_,h.mp.heap (hc.block B h.mp.lt (fun e=>h.mp.nc (by rw [e];exact hq))),hs.1,hs.2⟩
 ·rw [← e, h.bx] at hq
  injection hq with hq;injection hq with _ hq;exact ht.2.2 hq.symm
 ·exact cI (hc.R (ok:=fun k=>(k≠gm∧k≠B)∧k≠q) (jC (enc:=Value.int .i64) (h1:=fun _=>rfl) (jO (enc:=Value.int .i64) (h1:=fun _=>rfl) h.rw_) (fun k hk=>⟨h.rw_.1 k hk,fun e=>e1 (by rw [←e];exact hk.symm)⟩)) (fun k hk=>hk.2)) (fun k hk=>hk.1)
 ·exact cI (hc.R (ok:=fun k=>(k≠gm∧k≠B∧k≠gw)∧k≠q) (jC (enc:=Value.bool) (h1:=fun _=>rfl) (jO (enc:=Value.bool) (h1:=fun _=>rfl) h.rc) (fun k hk=>⟨h.rc.1 k hk,fun e=>e2 (by rw [←e];exact hk.symm)⟩)) (fun k hk=>hk.2)) (fun k hk=>hk.1)
 ·exact cI (hc.R (ok:=fun k=>((k≠gm∧k≠B∧k≠gw)∧some k≠(Value.slice AC s.tc.length cC).ownBlock)∧k≠q) (jC (enc:=Value.int .i64) (h1:=fun _=>rfl) (jO (enc:=Value.int .i64) (h1:=fun _=>rfl) h.ro) (fun k hk=>⟨h.ro.1 k hk,fun e=>e3 (by rw [←e];exact hk.symm)⟩)) (fun k hk=>hk.2)) (fun k hk=>hk.1)
end
section
variable {b g gm B gw cW cC cO:Nat} {w0 w w1:World} {AC AO:Option Addr} {s:Mv} {M M':List (Int×Int)}
theorem Mg.cardsK (h:Mg b w0 g gm B gw cW AC cC AO cO w s M) (hc:Ch (fun k=>some k=(Value.slice AC s.tc.length cC).ownBlock) w w1):qF w w1:=qF.of_ch hc (fun k c t ht hb e=>qP h.rc hb (fun e=>ht.2.1 e.symm) e)
theorem Mg.cards (h:Mg b w0 g gm B gw cW AC cC AO cO w s M) (hc:Ch (fun k=>some k=(Value.slice AC s.tc.length cC).ownBlock) w w1) (hr:Kd.R Kd.bool 4 w1 b (fun k=>k≠gm∧k≠B∧k≠gw) (.slice AC s.tc.length cC) (List.replicate s.tc.length false)):
  Mg b w0 g gm B gw cW AC cC AO cO w1 {s with tc:=List.replicate s.tc.length false} M:=by
 have hob:=fun k (hk:some k=(Value.slice AC s.tc.length cC).ownBlock)=>h.rc.1 k hk.symm
 have hs:=h.step hc (fun k hk=>nN h.rc k hk.symm);have hl:(List.replicate s.tc.length false).length=s.tc.length:=fI
 refine ⟨?_,h.ge,?_,?_,?_,h.mp.heap (hc.block B h.mp.lt (fun e=>(hob B e).2.1 rfl)),hs.1,hs.2⟩
 ·show w1.heap[gm]? = some (.cells #[.pointer (some ⟨g, 0, none⟩), .slice (some ⟨gw, 0, none⟩) s.tw.length cW, .int .i64 s.y, .int .i64 s.t, .int .i64 s.o, .slice AC (List.replicate s.tc.length false).length cC, .map (some B), .slice AO s.mv.length cO, .bool s.full] 90 (0, 0))
  rw [hl];exact hc.blk h.bx (fun e=>(hob gm e).1 rfl)
 ·exact jC (enc:=Value.int .i64) (h1:=fun _=>rfl) (jO (enc:=Value.int .i64) (h1:=fun _=>rfl) (hc.R (ok:=fun k=>k=gw) (jC (enc:=Value.int .i64) (h1:=fun _=>rfl) (jO (enc:=Value.int .i64) (h1:=fun _=>rfl) h.rw_) (fun k hk=>by injection hk with hk;exact hk.symm)) (fun k hk e=>(hob k e).2.2 hk))) h.rw_.1
 ·show Kd.R Kd.bool 4 w1 b _ (.slice AC (List.replicate s.tc.length false).length cC) (List.replicate s.tc.length false)
  rw [hl];exact hr
 ·show Kd.R (Kd.int .i64) 3 w1 b (fun k => (k ≠ gm ∧ k ≠ B ∧ k ≠ gw) ∧ some k ≠ (Value.slice AC (List.replicate s.tc.length false).length cC).ownBlock) (.slice AO s.mv.length cO) (s.mv.map Prod.fst)
  rw [hl];exact hc.R h.ro (fun k hk=>hk.2)
end
theorem yW (g:Nat) (v0 v4:Value) (y t o:Int) (hv0: ∃A n c,v0= .slice A n c) (hv4: ∃A n c,v4= .slice A n c) (w:World):
  Calls Try.prog 51 #[.pointer (some ⟨g,0,none⟩),.agg #[v0,.int .i64 y,.int .i64 t,.int .i64 o,v4]] w fun e w'=> ∃gm B,e= .returned (.pointer (some ⟨gm,0,none⟩))∧
   w'.heap[gm]? =some (.cells #[.pointer (some ⟨g,0,none⟩),v0,.int .i64 y,.int .i64 t,.int .i64 o,v4,.map (some B),.slice none 0 0,.bool false] 90 (0,0))∧bBc w' B []∧(w.heap.size≤gm∧w.heap.size≤B)∧Below w.heap.size w w':=by
 obtain ⟨A0,n0,c0,rfl⟩:=hv0;obtain ⟨A4,n4,c4,rfl⟩:=hv4;have HB:=aK (bH w.heap.size w);have hmm:=@run_makeMap Try.prog;go_enter Try.func51,Try.ntmps51
 go_wp2_with ((with_reducible refine dK (N:=3) rfl ?_);refine bF (fun hng=>?_))
 refine hng ?_;clear hng;refine dM ?hg (N:=3) ?hd (cs:= #[.slice A0 n0 c0,.int .i64 y,.int .i64 t,.int .i64 o,.slice A4 n4 c4]) (t:=29) ?hr ?_
 (case hd=>rfl)
 (case hg=>rfl)
 (case hr=>first|(go_simp;done)|(go_simp;rfl))
 intro gp hg w1 hbox hb;have BP:=aK hbox;replace HB:=aK (bK HB.out hb);have q0:=(bA hbox 0).trans rfl;have q1:=(bA hbox 1).trans rfl;have q2:=(bA hbox 2).trans rfl;have q3:=(bA hbox 3).trans rfl;have q4:=(bA hbox 4).trans rfl;clear hb hbox hg
 go_wp2_with ((with_reducible refine dK (N:=9) rfl ?_);refine bF (fun hng=>?_))
 refine hng ?_;clear hng;have HM:=aK (show bBc (w1.alloc (.map #[] 0)) w1.heap.size [] from ⟨_,World.ownsMap_made _ _ _ _,bOq.nil⟩);have HBm:=aK (bJ HB.out (.map #[] 0));have HSz:=aK (bW HB.out);refine dM ?hg (N:=9) ?hd (cs:= #[.pointer (some ⟨g,0,none⟩),.slice A0 n0 c0,.int .i64 y,.int .i64 t,.int .i64 o,.slice A4 n4 c4,.map (some w1.heap.size),.slice none 0 0,.bool false]) (t:=90) ?hr ?_
 (case hd=>rfl)
 (case hg=>rfl)
 (case hr=>first|(go_simp;done)|(go_simp;rfl))
 intro gm hg w3 hbox hb;have BG:=aK hbox;have HM3:=aK (HM.out.heap (hb.block _ HM.out.lt));have HB3:=aK (bK HBm.out hb);have HG:=aK (show w.heap.size≤gm by rw [hg];exact bW HBm.out);clear hb hbox hg q0 q1 q2 q3 q4;go_wp2;go_ret;exact ⟨gm,w1.heap.size,rfl,BG.out,HM3.out,⟨HG.out,HSz.out⟩,HB3.out⟩
end Go.Proofs.Ytbaklikaoleplaa.K
