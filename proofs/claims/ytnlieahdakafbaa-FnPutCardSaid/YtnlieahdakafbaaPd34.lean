import Derived.Test.YtnlieahdakafbaaPd24
import Derived.Test.YtnlieahdakafbaaPd33
import Derived.Test.YtnlieahdakafbaaPd27
import Derived.Test.YtnlieahdakafbaaPd25
import Derived.Test.YtnlieahdakafbaaPd32
import Derived.Test.YtnlieahdakafbaaPd26
import Derived.Test.YtnlieahdakafbaaPd30
import Derived.Test.YtnlieahdakafbaaPd31
namespace Go.Proofs.Ytnlieahdakafbaa.K
open Go.RowKit Go.Proofs.YtnlieahdakafbaaW.PrintWords Go.Proofs.YtnlieahdakafbaaW.PrintLast Go.Proofs.YtnlieahdakafbaaW.PrintMore
attribute [local go_sem] max2_int min2_int max_two min_two max_three min_three max_four min_four
set_option linter.unusedVariables false
set_option linter.unusedSimpArgs false
def cardOk (m:Mm) (at_ v x:Int):Option Bool:=if at_>m.young then (if v>m.young then some true else (if 0≤wrap64 (Int.tdiv (wrap64 (x - m.young)) 4)∧wrap64 (Int.tdiv (wrap64 (x - m.young)) 4)<m.cards.length then some (rdOf false m.cards (wrap64 (Int.tdiv (wrap64 (x - m.young)) 4))) else none)) else some true
def wordAt (q:Nat) (m:Mm) (at_ k:Int):Option Bool:=(thing_first.f m at_).bind fun a=>if 0≤a+k∧a+k<m.words.length then (thing_leads.f m at_ k).bind fun b=>if b=true then (if rd m.words (a+k)=0 then some true else (memory_has.f q m (rd m.words (a+k))).bind fun h=>if h=true then cardOk m at_ (rd m.words (a+k)) (a+k) else some false) else impl_isWord.f (rd m.words (a+k)) else none
def wordsOk.l (q:Nat) (m:Mm) (at_ n:Int):Nat→Int→Option Bool
  |0,_=>none
  |j+1,k=>if k<n then (wordAt q m at_ k).bind fun ok=>if ok=true then wordsOk.l q m at_ n j (k+1) else some false else some true
def wordsOk.f (q:Nat) (m:Mm) (at_:Int):Option Bool:=(thing_count.f m at_).bind fun n=>if n≤1099511627776 then wordsOk.l q m at_ n (n.toNat+1) 0 else none
set_option maxHeartbeats 32000000 in
set_option maxRecDepth 100000 in
theorem thing_wordsOk.calls (q g : Nat) (m : Mm) (at_ : Int) (r : Bool) (w : World) (hm : MV w g m) (h : wordsOk.f q m at_ = some r) :
  Calls Try.prog 70 #[thV g at_] w fun e w'=>e= .returned (.bool r)∧Below w.heap.size w w':=by
 unfold wordsOk.f at h;obtain ⟨n,hn,h⟩:=Option.bind_eq_some_iff.mp h
 split at h
 case isFalse=>simp at h
 case isTrue hn2=>
 have HN:=aK hn;have HM:=aK hm;have HA:=aK h;have HN2:=aK hn2;clear hm hn h hn2;unfold thV;go_enter Try.func70,Try.ntmps70
 go_wp2_with fail
 go_at_call 71;refine (thing_count.calls g m at_ n _ (MV_below HM.out (below_alloc (Below.refl _ _) _)) HN.out).mono ?_;rintro e w1 ⟨rfl,hb⟩;have HB1:=aK (below_step (below_alloc (Below.refl _ _) _) hb:Below w.heap.size w w1);have HX1:=aK (box_new hb);clear hb;go_wp2
 go_loopw [8] (fun i wr=> ∃(j:Nat) (k:Int),i= .int .i64 k∧Aside0 (wordsOk.l q m at_ n j k=some r)∧Aside0 (0≤k)∧Aside0 (wr.heap[w.heap.size]? =some (.cells #[.pointer (some ⟨g,0,none⟩),.int .i64 at_] 86 (0,0)))∧Aside0 (Below w.heap.size w wr)) (fun i _=>(n - intOf i).toNat)
 case atStart=>exact ⟨n.toNat+1,0,rfl,HA,⟨Int.le_refl _⟩,HX1,HB1⟩
 case round =>
  clear HA HX1 HB1;obtain ⟨j,k,rfl,HA,HK,HX,HB⟩:=hrel
  cases j with
  |zero=>exact absurd HA.out (by simp [wordsOk.l])
  | succ j1 =>
   have H:=HA.out;clear HA;unfold wordsOk.l at H;by_cases c0:k<n
   case neg=>
    rw [if_neg c0] at H;have d0:decide (k<n)=false:=decide_eq_false c0
    have HR:=aK (Option.some.inj H);clear H c0;go_wp2;go_ret;exact ⟨by rw [←HR.out];rfl,HB.out⟩
   case pos =>
    rw [if_pos c0] at H;have d0:decide (k<n)=true:=decide_eq_true c0
    obtain ⟨ok,hk,H⟩:=Option.bind_eq_some_iff.mp H;unfold wordAt at hk;obtain ⟨a,ha,hk⟩:=Option.bind_eq_some_iff.mp hk
    split at hk
    case isFalse=>simp at hk
    case isTrue hx=>
    obtain ⟨b,hb,hk⟩:=Option.bind_eq_some_iff.mp hk;have lf:=thing_first_lt ha;have HFi:=aK ha;have HLe:=aK hb;obtain ⟨x,hx0⟩: ∃x,x=a+k:=⟨_,rfl⟩;have q1:IntKind.i64.wrap (a+k)=x:=by rw [hx0];exact IntWalk.i64_in _ ⟨by omega,by omega⟩
    rw [←hx0] at hk hx;obtain ⟨v,hv⟩: ∃v,v=rd m.words x:=⟨_,rfl⟩;rw [←hv] at hk;have HV:=aK hv;have p1:=eq_true hx.1;have p2:=eq_true hx.2;have HXw:=aK (show x<(m.words.length:Int)∧0≤x from ⟨hx.2,hx.1⟩);have HLf:=aK lf;have HC0:=aK c0;obtain ⟨k1,hk1⟩: ∃k1,k1=k+1:=⟨_,rfl⟩;have q2:IntKind.i64.wrap (k+1)=k1:=by rw [hk1];exact IntWalk.i64_in _ ⟨by have:=HK.out;omega,by have:=HN2.out;omega⟩
    have HK1:=aK hk1;rw [←hk1] at H;have HH:=aK H;have HQ:=aK hk;clear ha hb hx0 hx hv lf c0 hk1 H hk
    cases b with
    | false =>
     have hq:=HQ.out;rw [if_neg (by simp)] at hq;have HQ2:=aK hq;clear hq HQ
     cases ok with
     |false=>
      have HZ:=aK (show false=r by have:=HH.out;rw [if_neg (by simp)] at this;exact Option.some.inj this);clear HH;have b0:=(blk_cell HX.out 0).trans rfl;have b1:=(blk_cell HX.out 1).trans rfl
      go_wp2_with fail
      go_at_call 72;refine (thing_first.calls g m at_ a _ (MV_below HM.out HB.out) HFi.out).mono ?_;rintro e w2 ⟨rfl,hb⟩;clear b0 b1;have HBn:=aK (below_step HB.out hb);have HXn:=aK ((hb.block _ (blk_lt HX.out)).trans HX.out);clear hb HB HX;have HB:=HBn;have HX:=HXn;clear HBn HXn;have b0:=(blk_cell HX.out 0).trans rfl;have b1:=(blk_cell HX.out 1).trans rfl;obtain ⟨AW,cW,AC,cC,AF,cF,AB,cB,h0,hW,hC,_⟩:=MV_below HM.out HB.out;obtain ⟨ad,e0,hcell⟩:=Kd.at_int hW x (by have:=HXw.out;omega) (by have:=HXw.out;omega)
      cases e0
      rw [←HV.out] at hcell;have g0:=(blk_cell h0 0).trans rfl;have G0:=aK h0;have HCc:=aK hC;clear h0 hW hC
      go_wp2_with fail
      go_at_call 73;refine (thing_leads.calls g m at_ k false _ (MV_below HM.out HB.out) HLe.out).mono ?_;rintro e w3 ⟨rfl,hb⟩;clear b0 b1 hcell g0;have G0n:=aK ((hb.block _ (blk_lt G0.out)).trans G0.out);have HCn:=aK (Kd.C_below HCc.out hb);clear G0 HCc;have G0:=G0n;have HCc:=HCn;clear G0n HCn;have HBn:=aK (below_step HB.out hb);have HXn:=aK ((hb.block _ (blk_lt HX.out)).trans HX.out);clear hb HB HX;have HB:=HBn;have HX:=HXn;clear HBn HXn
      go_wp2_with (go_at_call 76;refine (impl_isWord.calls v false _ HQ2.out).mono ?_;rintro e w4 ⟨rfl,hd⟩;have hb:=hd.below;have HBn:=aK (below_step HB.out hb);have HXn:=aK ((hb.block _ (blk_lt HX.out)).trans HX.out);clear hd hb HB HX;have HB:=HBn;have HX:=HXn;clear HBn HXn)
      go_ret;exact ⟨by rw [←HZ.out];rfl,HB.out⟩
     |true=>
      have HZ:=aK (show wordsOk.l q m at_ n j1 k1=some r by have:=HH.out;rw [if_pos rfl] at this;exact this);clear HH;have b0:=(blk_cell HX.out 0).trans rfl;have b1:=(blk_cell HX.out 1).trans rfl
      go_wp2_with fail
      go_at_call 72;refine (thing_first.calls g m at_ a _ (MV_below HM.out HB.out) HFi.out).mono ?_;rintro e w2 ⟨rfl,hb⟩;clear b0 b1;have HBn:=aK (below_step HB.out hb);have HXn:=aK ((hb.block _ (blk_lt HX.out)).trans HX.out);clear hb HB HX;have HB:=HBn;have HX:=HXn;clear HBn HXn;have b0:=(blk_cell HX.out 0).trans rfl;have b1:=(blk_cell HX.out 1).trans rfl;obtain ⟨AW,cW,AC,cC,AF,cF,AB,cB,h0,hW,hC,_⟩:=MV_below HM.out HB.out;obtain ⟨ad,e0,hcell⟩:=Kd.at_int hW x (by have:=HXw.out;omega) (by have:=HXw.out;omega)
      cases e0
      rw [←HV.out] at hcell;have g0:=(blk_cell h0 0).trans rfl;have G0:=aK h0;have HCc:=aK hC;clear h0 hW hC
      go_wp2_with fail
      go_at_call 73;refine (thing_leads.calls g m at_ k false _ (MV_below HM.out HB.out) HLe.out).mono ?_;rintro e w3 ⟨rfl,hb⟩;clear b0 b1 hcell g0;have G0n:=aK ((hb.block _ (blk_lt G0.out)).trans G0.out);have HCn:=aK (Kd.C_below HCc.out hb);clear G0 HCc;have G0:=G0n;have HCc:=HCn;clear G0n HCn;have HBn:=aK (below_step HB.out hb);have HXn:=aK ((hb.block _ (blk_lt HX.out)).trans HX.out);clear hb HB HX;have HB:=HBn;have HX:=HXn;clear HBn HXn
      go_wp2_with (go_at_call 76;refine (impl_isWord.calls v true _ HQ2.out).mono ?_;rintro e w4 ⟨rfl,hd⟩;have hb:=hd.below;have HBn:=aK (below_step HB.out hb);have HXn:=aK ((hb.block _ (blk_lt HX.out)).trans HX.out);clear hd hb HB HX;have HB:=HBn;have HX:=HXn;clear HBn HXn)
      go_roundw
      case rel=>exact ⟨j1,k1,rfl,HZ,⟨by have:=HK1.out;have:=HK.out;omega⟩,HX,HB⟩
      case measure=>have:=HK1.out;have:=HC0.out;have:=HK.out;show (n - k1).toNat<(n - k).toNat;omega
    | true =>
     have hq:=HQ.out;rw [if_pos rfl] at hq;by_cases c1:v=0
     ·rw [if_pos c1] at hq
      have e1:(v !=0)=false:=by rw [c1];rfl
      have HQ2:=aK (Option.some.inj hq);clear hq HQ c1;obtain rfl:=HQ2.out;have HZ:=aK (show wordsOk.l q m at_ n j1 k1=some r by have:=HH.out;rw [if_pos rfl] at this;exact this);clear HH;have b0:=(blk_cell HX.out 0).trans rfl;have b1:=(blk_cell HX.out 1).trans rfl
      go_wp2_with fail
      go_at_call 72;refine (thing_first.calls g m at_ a _ (MV_below HM.out HB.out) HFi.out).mono ?_;rintro e w2 ⟨rfl,hb⟩;clear b0 b1;have HBn:=aK (below_step HB.out hb);have HXn:=aK ((hb.block _ (blk_lt HX.out)).trans HX.out);clear hb HB HX;have HB:=HBn;have HX:=HXn;clear HBn HXn;have b0:=(blk_cell HX.out 0).trans rfl;have b1:=(blk_cell HX.out 1).trans rfl;obtain ⟨AW,cW,AC,cC,AF,cF,AB,cB,h0,hW,hC,_⟩:=MV_below HM.out HB.out;obtain ⟨ad,e0,hcell⟩:=Kd.at_int hW x (by have:=HXw.out;omega) (by have:=HXw.out;omega)
      cases e0
      rw [←HV.out] at hcell;have g0:=(blk_cell h0 0).trans rfl;have G0:=aK h0;have HCc:=aK hC;clear h0 hW hC
      go_wp2_with fail
      go_at_call 73;refine (thing_leads.calls g m at_ k true _ (MV_below HM.out HB.out) HLe.out).mono ?_;rintro e w3 ⟨rfl,hb⟩;clear b0 b1 hcell g0;have G0n:=aK ((hb.block _ (blk_lt G0.out)).trans G0.out);have HCn:=aK (Kd.C_below HCc.out hb);clear G0 HCc;have G0:=G0n;have HCc:=HCn;clear G0n HCn;have HBn:=aK (below_step HB.out hb);have HXn:=aK ((hb.block _ (blk_lt HX.out)).trans HX.out);clear hb HB HX;have HB:=HBn;have HX:=HXn;clear HBn HXn;go_wp2
      go_roundw
      case rel=>exact ⟨j1,k1,rfl,HZ,⟨by have:=HK1.out;have:=HK.out;omega⟩,HX,HB⟩
      case measure=>have:=HK1.out;have:=HC0.out;have:=HK.out;show (n - k1).toNat<(n - k).toNat;omega
     rw [if_neg c1] at hq;have e1:(v !=0)=true:=bne_iff_ne.mpr c1
     obtain ⟨h,hh,hq⟩:=Option.bind_eq_some_iff.mp hq;have HHa:=aK hh;clear hh c1 HQ
     cases h with
     |false=>
      rw [if_neg (by simp)] at hq;have HQ2:=aK (Option.some.inj hq);clear hq;obtain rfl:=HQ2.out;have HZ:=aK (show false=r by have:=HH.out;rw [if_neg (by simp)] at this;exact Option.some.inj this);clear HH;have b0:=(blk_cell HX.out 0).trans rfl;have b1:=(blk_cell HX.out 1).trans rfl
      go_wp2_with fail
      go_at_call 72;refine (thing_first.calls g m at_ a _ (MV_below HM.out HB.out) HFi.out).mono ?_;rintro e w2 ⟨rfl,hb⟩;clear b0 b1;have HBn:=aK (below_step HB.out hb);have HXn:=aK ((hb.block _ (blk_lt HX.out)).trans HX.out);clear hb HB HX;have HB:=HBn;have HX:=HXn;clear HBn HXn;have b0:=(blk_cell HX.out 0).trans rfl;have b1:=(blk_cell HX.out 1).trans rfl;obtain ⟨AW,cW,AC,cC,AF,cF,AB,cB,h0,hW,hC,_⟩:=MV_below HM.out HB.out;obtain ⟨ad,e0,hcell⟩:=Kd.at_int hW x (by have:=HXw.out;omega) (by have:=HXw.out;omega)
      cases e0
      rw [←HV.out] at hcell;have g0:=(blk_cell h0 0).trans rfl;have G0:=aK h0;have HCc:=aK hC;clear h0 hW hC
      go_wp2_with fail
      go_at_call 73;refine (thing_leads.calls g m at_ k true _ (MV_below HM.out HB.out) HLe.out).mono ?_;rintro e w3 ⟨rfl,hb⟩;clear b0 b1 hcell g0;have G0n:=aK ((hb.block _ (blk_lt G0.out)).trans G0.out);have HCn:=aK (Kd.C_below HCc.out hb);clear G0 HCc;have G0:=G0n;have HCc:=HCn;clear G0n HCn;have HBn:=aK (below_step HB.out hb);have HXn:=aK ((hb.block _ (blk_lt HX.out)).trans HX.out);clear hb HB HX;have HB:=HBn;have HX:=HXn;clear HBn HXn;have b0:=(blk_cell HX.out 0).trans rfl;have b1:=(blk_cell HX.out 1).trans rfl
      go_wp2_with (go_at_call 53;refine (memory_has.calls q g m v false _ (MV_below HM.out HB.out) HHa.out).mono ?_;rintro e w5 ⟨rfl,hd⟩;have hb:=hd.below;have HBn:=aK (below_step HB.out hb);have HXn:=aK ((hb.block _ (blk_lt HX.out)).trans HX.out);have G0n:=aK ((hb.block _ (blk_lt G0.out)).trans G0.out);have HCn:=aK (Kd.C_below HCc.out hb);clear hd hb HB HX G0 HCc b0 b1;have HB:=HBn;have HX:=HXn;have G0:=G0n;have HCc:=HCn;clear HBn HXn G0n HCn)
      go_ret;exact ⟨by rw [←HZ.out];rfl,HB.out⟩
     | true =>
      rw [if_pos rfl] at hq;unfold cardOk at hq;by_cases c2:at_>m.young
      ·rw [if_pos c2] at hq
       have O1:=aK (decide_eq_true c2);clear c2;by_cases c3:v>m.young
       ·rw [if_pos c3] at hq
        have O2:=aK (decide_eq_true c3);have HQ2:=aK (Option.some.inj hq);clear hq c3;obtain rfl:=HQ2.out;have HZ:=aK (show wordsOk.l q m at_ n j1 k1=some r by have:=HH.out;rw [if_pos rfl] at this;exact this);clear HH;have b0:=(blk_cell HX.out 0).trans rfl;have b1:=(blk_cell HX.out 1).trans rfl
        go_wp2_with fail
        go_at_call 72;refine (thing_first.calls g m at_ a _ (MV_below HM.out HB.out) HFi.out).mono ?_;rintro e w2 ⟨rfl,hb⟩;clear b0 b1;have HBn:=aK (below_step HB.out hb);have HXn:=aK ((hb.block _ (blk_lt HX.out)).trans HX.out);clear hb HB HX;have HB:=HBn;have HX:=HXn;clear HBn HXn;have b0:=(blk_cell HX.out 0).trans rfl;have b1:=(blk_cell HX.out 1).trans rfl;obtain ⟨AW,cW,AC,cC,AF,cF,AB,cB,h0,hW,hC,_⟩:=MV_below HM.out HB.out;obtain ⟨ad,e0,hcell⟩:=Kd.at_int hW x (by have:=HXw.out;omega) (by have:=HXw.out;omega)
        cases e0
        rw [←HV.out] at hcell;have g0:=(blk_cell h0 0).trans rfl;have G0:=aK h0;have HCc:=aK hC;clear h0 hW hC
        go_wp2_with fail
        go_at_call 73;refine (thing_leads.calls g m at_ k true _ (MV_below HM.out HB.out) HLe.out).mono ?_;rintro e w3 ⟨rfl,hb⟩;clear b0 b1 hcell g0;have G0n:=aK ((hb.block _ (blk_lt G0.out)).trans G0.out);have HCn:=aK (Kd.C_below HCc.out hb);clear G0 HCc;have G0:=G0n;have HCc:=HCn;clear G0n HCn;have HBn:=aK (below_step HB.out hb);have HXn:=aK ((hb.block _ (blk_lt HX.out)).trans HX.out);clear hb HB HX;have HB:=HBn;have HX:=HXn;clear HBn HXn;have b0:=(blk_cell HX.out 0).trans rfl;have b1:=(blk_cell HX.out 1).trans rfl
        go_wp2_with (go_at_call 53;refine (memory_has.calls q g m v true _ (MV_below HM.out HB.out) HHa.out).mono ?_;rintro e w5 ⟨rfl,hd⟩;have hb:=hd.below;have HBn:=aK (below_step HB.out hb);have HXn:=aK ((hb.block _ (blk_lt HX.out)).trans HX.out);have G0n:=aK ((hb.block _ (blk_lt G0.out)).trans G0.out);have HCn:=aK (Kd.C_below HCc.out hb);clear hd hb HB HX G0 HCc b0 b1;have HB:=HBn;have HX:=HXn;have G0:=G0n;have HCc:=HCn;clear HBn HXn G0n HCn;have b0:=(blk_cell HX.out 0).trans rfl;have b1:=(blk_cell HX.out 1).trans rfl;have g0:=(blk_cell G0.out 0).trans rfl;have g1:=(blk_cell G0.out 1).trans rfl;have g2:=(blk_cell G0.out 2).trans rfl;have g3:=(blk_cell G0.out 3).trans rfl;have g4:=(blk_cell G0.out 4).trans rfl;have HM1:=aK (MV_below HM.out HB.out);try clear HCc)
        refine sT 36 (S:=fun w'=>Aside0 (Below w.heap.size w w')∧Aside0 (MV w' g (m))∧Aside0 (w'.heap[w.heap.size]? =some (.cells #[.pointer (some ⟨g,0,none⟩),.int .i64 at_] 86 (0,0)))∧w'.cell? (⟨w.heap.size,0,none⟩)=some (.pointer (some ⟨g,0,none⟩))∧w'.cell? (⟨w.heap.size,1,none⟩)=some (.int .i64 at_)∧w'.cell? (⟨g,0,none⟩)=some (.slice (some ad) m.words.length cW)∧w'.cell? (⟨g,1,none⟩)=some (.int .i64 m.young)∧w'.cell? (⟨g,2,none⟩)=some (.int .i64 m.top)∧w'.cell? (⟨g,3,none⟩)=some (.int .i64 m.old)∧w'.cell? (⟨g,4,none⟩)=some (.slice AC m.cards.length cC)) (ds:=[]) ⟨⟨below_drew1 HB.out⟩,⟨MV_below HM1.out (below_drew1 (Below.refl _ _))⟩,⟨blk_drew HX.out⟩,(by go_simp),(by go_simp),(by go_simp),(by go_simp),(by go_simp),(by go_simp),(by go_simp)⟩ (fun hHeld=>?_);refine pS 0 40 (lA 36 1) ?_;refine pS 5 45 (lA 36 33) ?_;refine tS 1 41 (lA 36 35) rfl rfl (by kernel_rfl) hHeld zz43 ?_;refine pS 2 42 (lA 36 39) ?_;refine pS 3 43 (lA 36 47) ?_;refine tS 4 44 (lA 36 63) rfl rfl (by kernel_rfl) hHeld zz43 ?_;refine tS 6 46 (lA 36 127) rfl rfl (by kernel_rfl) hHeld zz43 ?_;refine oS 7 47 (lA 36 255) rfl rfl (fun K hK=>?_);refine gO Try.func74 #[.agg #[.slice (some ad) m.words.length cW,.int .i64 m.young,.int .i64 m.top,.int .i64 m.old,.slice AC m.cards.length cC],.int .i64 at_] ?_;(with_reducible refine (Mem_isOld.calls (some ad) m.words.length cW m.young m.top m.old AC m.cards.length cC at_ true _ O1.out).mono ?_);rintro e w9 ⟨rfl,hb3⟩;refine ⟨_,rfl,?_⟩;refine hK.out _ _ ⟨⟨below_step hHeld.1.out hb3⟩,⟨MV_below hHeld.2.1.out hb3⟩,⟨(hb3.block _ (blk_lt hHeld.2.2.1.out)).trans hHeld.2.2.1.out⟩,(pw_cell_below hb3 hHeld.2.2.2.1),(pw_cell_below hb3 hHeld.2.2.2.2.1),(pw_cell_below hb3 hHeld.2.2.2.2.2.1),(pw_cell_below hb3 hHeld.2.2.2.2.2.2.1),(pw_cell_below hb3 hHeld.2.2.2.2.2.2.2.1),(pw_cell_below hb3 hHeld.2.2.2.2.2.2.2.2.1),(pw_cell_below hb3 hHeld.2.2.2.2.2.2.2.2.2)⟩ (fun hHeld=>?_);clear hK K;refine nS 47 ?_;refine pS 8 48 (lA 36 511) ?_;refine pS 9 49 (lA 36 1023) ?_;refine pS 14 54 (lA 36 17407) ?_;refine tS 10 50 (lA 36 18431) rfl rfl (by kernel_rfl) hHeld zz43 ?_;refine pS 11 51 (lA 36 20479) ?_;refine pS 12 52 (lA 36 24575) ?_;refine tS 13 53 (lA 36 32767) rfl rfl (by kernel_rfl) hHeld zz43 ?_;refine oS 15 55 (lA 36 65535) rfl rfl (fun K hK=>?_);refine gO Try.func74 #[.agg #[.slice (some ad) m.words.length cW,.int .i64 m.young,.int .i64 m.top,.int .i64 m.old,.slice AC m.cards.length cC],.int .i64 v] ?_;(with_reducible refine (Mem_isOld.calls (some ad) m.words.length cW m.young m.top m.old AC m.cards.length cC v true _ O2.out).mono ?_);rintro e w9 ⟨rfl,hb3⟩;refine ⟨_,rfl,?_⟩;refine hK.out _ _ ⟨⟨below_step hHeld.1.out hb3⟩,⟨MV_below hHeld.2.1.out hb3⟩,⟨(hb3.block _ (blk_lt hHeld.2.2.1.out)).trans hHeld.2.2.1.out⟩,(pw_cell_below hb3 hHeld.2.2.2.1),(pw_cell_below hb3 hHeld.2.2.2.2.1),(pw_cell_below hb3 hHeld.2.2.2.2.2.1),(pw_cell_below hb3 hHeld.2.2.2.2.2.2.1),(pw_cell_below hb3 hHeld.2.2.2.2.2.2.2.1),(pw_cell_below hb3 hHeld.2.2.2.2.2.2.2.2.1),(pw_cell_below hb3 hHeld.2.2.2.2.2.2.2.2.2)⟩ (fun hHeld=>?_);clear hK K;refine nS 55 ?_;refine pS 16 56 (lA 36 131071) ?_;refine pS 17 57 (lA 36 262143) ?_;refine pS 18 58 (lA 36 524287) ?_;refine pU 19 59 (lA 36 1048575) ?_;refine pU 20 60 (lA 36 2097151) ?_;refine pU 21 61 (lA 36 4194303) ?_;refine pU 22 62 (lA 36 8388607) ?_;refine pU 23 63 (lA 36 16777215) ?_;refine pU 24 64 (lA 36 33554431) ?_;refine pU 25 65 (lA 36 67108863) ?_;refine pU 26 66 (lA 36 134217727) ?_;refine pU 27 67 (lA 36 268435455) ?_;refine pU 28 68 (lA 36 536870911) ?_;refine pU 29 69 (lA 36 1073741823) ?_;refine pU 30 70 (lA 36 2147483647) ?_;refine pU 31 71 (lA 36 4294967295) ?_;refine pU 32 72 (lA 36 8589934591) ?_;refine pU 33 73 (lA 36 17179869183) ?_;refine pU 34 74 (lA 36 34359738367) ?_;refine pS 35 75 (lA 36 68719476735) ?_;refine done_ (by kernel_rfl) ?_;have HBn:=hHeld.1;have HXn:=hHeld.2.2.1
        clear hHeld HB HX;have HB:=HBn;have HX:=HXn;clear HBn HXn;go_wp2
        go_roundw
        case rel=>exact ⟨j1,k1,rfl,HZ,⟨by have:=HK1.out;have:=HK.out;omega⟩,HX,HB⟩
        case measure=>have:=HK1.out;have:=HC0.out;have:=HK.out;show (n - k1).toNat<(n - k).toNat;omega
       ·rw [if_neg c3] at hq
        have O2:=aK (decide_eq_false c3);clear c3;obtain ⟨cj,hcj⟩: ∃cj,cj=wrap64 (x - m.young):=⟨_,rfl⟩;obtain ⟨ci,hci⟩: ∃ci,ci=wrap64 (Int.tdiv cj 4):=⟨_,rfl⟩;rw [←hcj,←hci] at hq;have O3:=aK (show IntKind.i64.wrap (x - m.young)=cj by rw [hcj,i64_w]);have O4:=aK (show wrap64 (Int.tdiv cj 4)=ci from hci.symm);clear hcj hci
        split at hq
        case isFalse=>simp at hq
        case isTrue ht=>
        have t1:=eq_true ht.1;have t2:=eq_true ht.2;obtain ⟨cv,hcv⟩: ∃cv,cv=rdOf false m.cards ci:=⟨_,rfl⟩;rw [←hcv] at hq;have O5:=aK hcv.symm;have HQ2:=aK (Option.some.inj hq);clear hq ht hcv;obtain rfl:=HQ2.out
        cases cv with
        |false=>
         have HZ:=aK (show false=r by have:=HH.out;rw [if_neg (by simp)] at this;exact Option.some.inj this);clear HH;have b0:=(blk_cell HX.out 0).trans rfl;have b1:=(blk_cell HX.out 1).trans rfl
         go_wp2_with fail
         go_at_call 72;refine (thing_first.calls g m at_ a _ (MV_below HM.out HB.out) HFi.out).mono ?_;rintro e w2 ⟨rfl,hb⟩;clear b0 b1;have HBn:=aK (below_step HB.out hb);have HXn:=aK ((hb.block _ (blk_lt HX.out)).trans HX.out);clear hb HB HX;have HB:=HBn;have HX:=HXn;clear HBn HXn;have b0:=(blk_cell HX.out 0).trans rfl;have b1:=(blk_cell HX.out 1).trans rfl;obtain ⟨AW,cW,AC,cC,AF,cF,AB,cB,h0,hW,hC,_⟩:=MV_below HM.out HB.out;obtain ⟨ad,e0,hcell⟩:=Kd.at_int hW x (by have:=HXw.out;omega) (by have:=HXw.out;omega)
         cases e0
         rw [←HV.out] at hcell;have g0:=(blk_cell h0 0).trans rfl;have G0:=aK h0;have HCc:=aK hC;clear h0 hW hC
         go_wp2_with fail
         go_at_call 73;refine (thing_leads.calls g m at_ k true _ (MV_below HM.out HB.out) HLe.out).mono ?_;rintro e w3 ⟨rfl,hb⟩;clear b0 b1 hcell g0;have G0n:=aK ((hb.block _ (blk_lt G0.out)).trans G0.out);have HCn:=aK (Kd.C_below HCc.out hb);clear G0 HCc;have G0:=G0n;have HCc:=HCn;clear G0n HCn;have HBn:=aK (below_step HB.out hb);have HXn:=aK ((hb.block _ (blk_lt HX.out)).trans HX.out);clear hb HB HX;have HB:=HBn;have HX:=HXn;clear HBn HXn;have b0:=(blk_cell HX.out 0).trans rfl;have b1:=(blk_cell HX.out 1).trans rfl
         go_wp2_with (go_at_call 53;refine (memory_has.calls q g m v true _ (MV_below HM.out HB.out) HHa.out).mono ?_;rintro e w5 ⟨rfl,hd⟩;have hb:=hd.below;have HBn:=aK (below_step HB.out hb);have HXn:=aK ((hb.block _ (blk_lt HX.out)).trans HX.out);have G0n:=aK ((hb.block _ (blk_lt G0.out)).trans G0.out);have HCn:=aK (Kd.C_below HCc.out hb);clear hd hb HB HX G0 HCc b0 b1;have HB:=HBn;have HX:=HXn;have G0:=G0n;have HCc:=HCn;clear HBn HXn G0n HCn;have b0:=(blk_cell HX.out 0).trans rfl;have b1:=(blk_cell HX.out 1).trans rfl;have g0:=(blk_cell G0.out 0).trans rfl;have g1:=(blk_cell G0.out 1).trans rfl;have g2:=(blk_cell G0.out 2).trans rfl;have g3:=(blk_cell G0.out 3).trans rfl;have g4:=(blk_cell G0.out 4).trans rfl;have HM1:=aK (MV_below HM.out HB.out);obtain ⟨ad4,e4,hc4⟩:=Kd.at_bool HCc.out ci (of_eq_true t1) (of_eq_true t2);cases e4;rw [O5.out] at hc4;try clear HCc)
         refine sT 36 (S:=fun w'=>Aside0 (Below w.heap.size w w')∧Aside0 (MV w' g (m))∧Aside0 (w'.heap[w.heap.size]? =some (.cells #[.pointer (some ⟨g,0,none⟩),.int .i64 at_] 86 (0,0)))∧w'.cell? (⟨w.heap.size,0,none⟩)=some (.pointer (some ⟨g,0,none⟩))∧w'.cell? (⟨w.heap.size,1,none⟩)=some (.int .i64 at_)∧w'.cell? (⟨g,0,none⟩)=some (.slice (some ad) m.words.length cW)∧w'.cell? (⟨g,1,none⟩)=some (.int .i64 m.young)∧w'.cell? (⟨g,2,none⟩)=some (.int .i64 m.top)∧w'.cell? (⟨g,3,none⟩)=some (.int .i64 m.old)∧w'.cell? (⟨g,4,none⟩)=some (.slice (some ad4) m.cards.length cC)∧w'.cell? (ad4.add ci.toNat)=some (.bool false)) (ds:=[]) ⟨⟨below_drew1 HB.out⟩,⟨MV_below HM1.out (below_drew1 (Below.refl _ _))⟩,⟨blk_drew HX.out⟩,(by go_simp),(by go_simp),(by go_simp),(by go_simp),(by go_simp),(by go_simp),(by go_simp),(by go_simp)⟩ (fun hHeld=>?_);refine pS 0 40 (lA 36 1) ?_;refine pS 5 45 (lA 36 33) ?_;refine tS 1 41 (lA 36 35) rfl rfl (by kernel_rfl) hHeld zz16 ?_;refine pS 2 42 (lA 36 39) ?_;refine pS 3 43 (lA 36 47) ?_;refine tS 4 44 (lA 36 63) rfl rfl (by kernel_rfl) hHeld zz16 ?_;refine tS 6 46 (lA 36 127) rfl rfl (by kernel_rfl) hHeld zz16 ?_;refine oS 7 47 (lA 36 255) rfl rfl (fun K hK=>?_);refine gO Try.func74 #[.agg #[.slice (some ad) m.words.length cW,.int .i64 m.young,.int .i64 m.top,.int .i64 m.old,.slice (some ad4) m.cards.length cC],.int .i64 at_] ?_;(with_reducible refine (Mem_isOld.calls (some ad) m.words.length cW m.young m.top m.old (some ad4) m.cards.length cC at_ true _ O1.out).mono ?_);rintro e w9 ⟨rfl,hb3⟩;refine ⟨_,rfl,?_⟩;refine hK.out _ _ ⟨⟨below_step hHeld.1.out hb3⟩,⟨MV_below hHeld.2.1.out hb3⟩,⟨(hb3.block _ (blk_lt hHeld.2.2.1.out)).trans hHeld.2.2.1.out⟩,(pw_cell_below hb3 hHeld.2.2.2.1),(pw_cell_below hb3 hHeld.2.2.2.2.1),(pw_cell_below hb3 hHeld.2.2.2.2.2.1),(pw_cell_below hb3 hHeld.2.2.2.2.2.2.1),(pw_cell_below hb3 hHeld.2.2.2.2.2.2.2.1),(pw_cell_below hb3 hHeld.2.2.2.2.2.2.2.2.1),(pw_cell_below hb3 hHeld.2.2.2.2.2.2.2.2.2.1),(pw_cell_below hb3 hHeld.2.2.2.2.2.2.2.2.2.2)⟩ (fun hHeld=>?_);clear hK K;refine nS 47 ?_;refine pS 8 48 (lA 36 511) ?_;refine pS 9 49 (lA 36 1023) ?_;refine pS 14 54 (lA 36 17407) ?_;refine tS 10 50 (lA 36 18431) rfl rfl (by kernel_rfl) hHeld zz16 ?_;refine pS 11 51 (lA 36 20479) ?_;refine pS 12 52 (lA 36 24575) ?_;refine tS 13 53 (lA 36 32767) rfl rfl (by kernel_rfl) hHeld zz16 ?_;refine oS 15 55 (lA 36 65535) rfl rfl (fun K hK=>?_);refine gO Try.func74 #[.agg #[.slice (some ad) m.words.length cW,.int .i64 m.young,.int .i64 m.top,.int .i64 m.old,.slice (some ad4) m.cards.length cC],.int .i64 v] ?_;(with_reducible refine (Mem_isOld.calls (some ad) m.words.length cW m.young m.top m.old (some ad4) m.cards.length cC v false _ O2.out).mono ?_);rintro e w9 ⟨rfl,hb3⟩;refine ⟨_,rfl,?_⟩;refine hK.out _ _ ⟨⟨below_step hHeld.1.out hb3⟩,⟨MV_below hHeld.2.1.out hb3⟩,⟨(hb3.block _ (blk_lt hHeld.2.2.1.out)).trans hHeld.2.2.1.out⟩,(pw_cell_below hb3 hHeld.2.2.2.1),(pw_cell_below hb3 hHeld.2.2.2.2.1),(pw_cell_below hb3 hHeld.2.2.2.2.2.1),(pw_cell_below hb3 hHeld.2.2.2.2.2.2.1),(pw_cell_below hb3 hHeld.2.2.2.2.2.2.2.1),(pw_cell_below hb3 hHeld.2.2.2.2.2.2.2.2.1),(pw_cell_below hb3 hHeld.2.2.2.2.2.2.2.2.2.1),(pw_cell_below hb3 hHeld.2.2.2.2.2.2.2.2.2.2)⟩ (fun hHeld=>?_);clear hK K;refine nS 55 ?_;refine pS 16 56 (lA 36 131071) ?_;refine pS 17 57 (lA 36 262143) ?_;refine pS 18 58 (lA 36 524287) ?_;refine pS 19 59 (lA 36 1048575) ?_;refine pS 25 65 (lA 36 34603007) ?_;refine pS 30 70 (lA 36 1108344831) ?_;refine tS 20 60 (lA 36 1109393407) rfl rfl (by kernel_rfl) hHeld zz16 ?_;refine pS 21 61 (lA 36 1111490559) ?_;refine pS 22 62 (lA 36 1115684863) ?_;refine pS 23 63 (lA 36 1124073471) ?_;refine tS 24 64 (lA 36 1140850687) rfl rfl (by kernel_rfl) hHeld zz16 ?_;refine tS 26 66 (lA 36 1207959551) rfl rfl (by kernel_rfl) hHeld zz16 ?_;refine pS 27 67 (lA 36 1342177279) ?_
         refine pS 28 68 (lA 36 1610612735) ?_;refine tS 29 69 (lA 36 2147483647) rfl rfl (by kernel_rfl) hHeld zz16 ?_;refine oS 31 71 (lA 36 4294967295) rfl rfl (fun K hK=>?_);refine gO Try.func75 #[.agg #[.slice (some ad) m.words.length cW,.int .i64 m.young,.int .i64 m.top,.int .i64 m.old,.slice (some ad4) m.cards.length cC],.int .i64 x] ?_;(with_reducible refine (Mem_card.calls (some ad) m.words.length cW m.young m.top m.old (some ad4) m.cards.length cC x cj ci _ O3.out O4.out).mono ?_);rintro e w9 ⟨rfl,hb3⟩;refine ⟨_,rfl,?_⟩;refine hK.out _ _ ⟨⟨below_step hHeld.1.out hb3⟩,⟨MV_below hHeld.2.1.out hb3⟩,⟨(hb3.block _ (blk_lt hHeld.2.2.1.out)).trans hHeld.2.2.1.out⟩,(pw_cell_below hb3 hHeld.2.2.2.1),(pw_cell_below hb3 hHeld.2.2.2.2.1),(pw_cell_below hb3 hHeld.2.2.2.2.2.1),(pw_cell_below hb3 hHeld.2.2.2.2.2.2.1),(pw_cell_below hb3 hHeld.2.2.2.2.2.2.2.1),(pw_cell_below hb3 hHeld.2.2.2.2.2.2.2.2.1),(pw_cell_below hb3 hHeld.2.2.2.2.2.2.2.2.2.1),(pw_cell_below hb3 hHeld.2.2.2.2.2.2.2.2.2.2)⟩ (fun hHeld=>?_);clear hK K;refine nS 71 ?_;refine pS 32 72 (lA 36 8589934591) ?_;refine tS 33 73 (lA 36 17179869183) rfl rfl (by kernel_rfl) hHeld zz16 ?_;refine pS 34 74 (lA 36 34359738367) ?_;refine pS 35 75 (lA 36 68719476735) ?_;refine done_ (by kernel_rfl) ?_;have HBn:=hHeld.1;have HXn:=hHeld.2.2.1;clear hHeld HB HX;have HB:=HBn;have HX:=HXn;clear HBn HXn;go_wp2;go_ret;exact ⟨by rw [←HZ.out];rfl,HB.out⟩
        |true=>
         have HZ:=aK (show wordsOk.l q m at_ n j1 k1=some r by have:=HH.out;rw [if_pos rfl] at this;exact this);clear HH;have b0:=(blk_cell HX.out 0).trans rfl;have b1:=(blk_cell HX.out 1).trans rfl
         go_wp2_with fail
         go_at_call 72;refine (thing_first.calls g m at_ a _ (MV_below HM.out HB.out) HFi.out).mono ?_;rintro e w2 ⟨rfl,hb⟩;clear b0 b1;have HBn:=aK (below_step HB.out hb);have HXn:=aK ((hb.block _ (blk_lt HX.out)).trans HX.out);clear hb HB HX;have HB:=HBn;have HX:=HXn;clear HBn HXn;have b0:=(blk_cell HX.out 0).trans rfl;have b1:=(blk_cell HX.out 1).trans rfl;obtain ⟨AW,cW,AC,cC,AF,cF,AB,cB,h0,hW,hC,_⟩:=MV_below HM.out HB.out;obtain ⟨ad,e0,hcell⟩:=Kd.at_int hW x (by have:=HXw.out;omega) (by have:=HXw.out;omega)
         cases e0
         rw [←HV.out] at hcell;have g0:=(blk_cell h0 0).trans rfl;have G0:=aK h0;have HCc:=aK hC;clear h0 hW hC
         go_wp2_with fail
         go_at_call 73;refine (thing_leads.calls g m at_ k true _ (MV_below HM.out HB.out) HLe.out).mono ?_;rintro e w3 ⟨rfl,hb⟩;clear b0 b1 hcell g0;have G0n:=aK ((hb.block _ (blk_lt G0.out)).trans G0.out);have HCn:=aK (Kd.C_below HCc.out hb);clear G0 HCc;have G0:=G0n;have HCc:=HCn;clear G0n HCn;have HBn:=aK (below_step HB.out hb);have HXn:=aK ((hb.block _ (blk_lt HX.out)).trans HX.out);clear hb HB HX;have HB:=HBn;have HX:=HXn;clear HBn HXn;have b0:=(blk_cell HX.out 0).trans rfl;have b1:=(blk_cell HX.out 1).trans rfl
         go_wp2_with (go_at_call 53;refine (memory_has.calls q g m v true _ (MV_below HM.out HB.out) HHa.out).mono ?_;rintro e w5 ⟨rfl,hd⟩;have hb:=hd.below;have HBn:=aK (below_step HB.out hb);have HXn:=aK ((hb.block _ (blk_lt HX.out)).trans HX.out);have G0n:=aK ((hb.block _ (blk_lt G0.out)).trans G0.out);have HCn:=aK (Kd.C_below HCc.out hb);clear hd hb HB HX G0 HCc b0 b1;have HB:=HBn;have HX:=HXn;have G0:=G0n;have HCc:=HCn;clear HBn HXn G0n HCn;have b0:=(blk_cell HX.out 0).trans rfl;have b1:=(blk_cell HX.out 1).trans rfl;have g0:=(blk_cell G0.out 0).trans rfl;have g1:=(blk_cell G0.out 1).trans rfl;have g2:=(blk_cell G0.out 2).trans rfl;have g3:=(blk_cell G0.out 3).trans rfl;have g4:=(blk_cell G0.out 4).trans rfl;have HM1:=aK (MV_below HM.out HB.out);obtain ⟨ad4,e4,hc4⟩:=Kd.at_bool HCc.out ci (of_eq_true t1) (of_eq_true t2);cases e4;rw [O5.out] at hc4;try clear HCc)
         refine sT 36 (S:=fun w'=>Aside0 (Below w.heap.size w w')∧Aside0 (MV w' g (m))∧Aside0 (w'.heap[w.heap.size]? =some (.cells #[.pointer (some ⟨g,0,none⟩),.int .i64 at_] 86 (0,0)))∧w'.cell? (⟨w.heap.size,0,none⟩)=some (.pointer (some ⟨g,0,none⟩))∧w'.cell? (⟨w.heap.size,1,none⟩)=some (.int .i64 at_)∧w'.cell? (⟨g,0,none⟩)=some (.slice (some ad) m.words.length cW)∧w'.cell? (⟨g,1,none⟩)=some (.int .i64 m.young)∧w'.cell? (⟨g,2,none⟩)=some (.int .i64 m.top)∧w'.cell? (⟨g,3,none⟩)=some (.int .i64 m.old)∧w'.cell? (⟨g,4,none⟩)=some (.slice (some ad4) m.cards.length cC)∧w'.cell? (ad4.add ci.toNat)=some (.bool true)) (ds:=[]) ⟨⟨below_drew1 HB.out⟩,⟨MV_below HM1.out (below_drew1 (Below.refl _ _))⟩,⟨blk_drew HX.out⟩,(by go_simp),(by go_simp),(by go_simp),(by go_simp),(by go_simp),(by go_simp),(by go_simp),(by go_simp)⟩ (fun hHeld=>?_);refine pS 0 40 (lA 36 1) ?_;refine pS 5 45 (lA 36 33) ?_;refine tS 1 41 (lA 36 35) rfl rfl (by kernel_rfl) hHeld zz16 ?_;refine pS 2 42 (lA 36 39) ?_;refine pS 3 43 (lA 36 47) ?_;refine tS 4 44 (lA 36 63) rfl rfl (by kernel_rfl) hHeld zz16 ?_;refine tS 6 46 (lA 36 127) rfl rfl (by kernel_rfl) hHeld zz16 ?_;refine oS 7 47 (lA 36 255) rfl rfl (fun K hK=>?_);refine gO Try.func74 #[.agg #[.slice (some ad) m.words.length cW,.int .i64 m.young,.int .i64 m.top,.int .i64 m.old,.slice (some ad4) m.cards.length cC],.int .i64 at_] ?_;(with_reducible refine (Mem_isOld.calls (some ad) m.words.length cW m.young m.top m.old (some ad4) m.cards.length cC at_ true _ O1.out).mono ?_);rintro e w9 ⟨rfl,hb3⟩;refine ⟨_,rfl,?_⟩;refine hK.out _ _ ⟨⟨below_step hHeld.1.out hb3⟩,⟨MV_below hHeld.2.1.out hb3⟩,⟨(hb3.block _ (blk_lt hHeld.2.2.1.out)).trans hHeld.2.2.1.out⟩,(pw_cell_below hb3 hHeld.2.2.2.1),(pw_cell_below hb3 hHeld.2.2.2.2.1),(pw_cell_below hb3 hHeld.2.2.2.2.2.1),(pw_cell_below hb3 hHeld.2.2.2.2.2.2.1),(pw_cell_below hb3 hHeld.2.2.2.2.2.2.2.1),(pw_cell_below hb3 hHeld.2.2.2.2.2.2.2.2.1),(pw_cell_below hb3 hHeld.2.2.2.2.2.2.2.2.2.1),(pw_cell_below hb3 hHeld.2.2.2.2.2.2.2.2.2.2)⟩ (fun hHeld=>?_);clear hK K;refine nS 47 ?_;refine pS 8 48 (lA 36 511) ?_;refine pS 9 49 (lA 36 1023) ?_;refine pS 14 54 (lA 36 17407) ?_;refine tS 10 50 (lA 36 18431) rfl rfl (by kernel_rfl) hHeld zz16 ?_;refine pS 11 51 (lA 36 20479) ?_;refine pS 12 52 (lA 36 24575) ?_;refine tS 13 53 (lA 36 32767) rfl rfl (by kernel_rfl) hHeld zz16 ?_;refine oS 15 55 (lA 36 65535) rfl rfl (fun K hK=>?_);refine gO Try.func74 #[.agg #[.slice (some ad) m.words.length cW,.int .i64 m.young,.int .i64 m.top,.int .i64 m.old,.slice (some ad4) m.cards.length cC],.int .i64 v] ?_;(with_reducible refine (Mem_isOld.calls (some ad) m.words.length cW m.young m.top m.old (some ad4) m.cards.length cC v false _ O2.out).mono ?_);rintro e w9 ⟨rfl,hb3⟩;refine ⟨_,rfl,?_⟩;refine hK.out _ _ ⟨⟨below_step hHeld.1.out hb3⟩,⟨MV_below hHeld.2.1.out hb3⟩,⟨(hb3.block _ (blk_lt hHeld.2.2.1.out)).trans hHeld.2.2.1.out⟩,(pw_cell_below hb3 hHeld.2.2.2.1),(pw_cell_below hb3 hHeld.2.2.2.2.1),(pw_cell_below hb3 hHeld.2.2.2.2.2.1),(pw_cell_below hb3 hHeld.2.2.2.2.2.2.1),(pw_cell_below hb3 hHeld.2.2.2.2.2.2.2.1),(pw_cell_below hb3 hHeld.2.2.2.2.2.2.2.2.1),(pw_cell_below hb3 hHeld.2.2.2.2.2.2.2.2.2.1),(pw_cell_below hb3 hHeld.2.2.2.2.2.2.2.2.2.2)⟩ (fun hHeld=>?_);clear hK K;refine nS 55 ?_;refine pS 16 56 (lA 36 131071) ?_;refine pS 17 57 (lA 36 262143) ?_;refine pS 18 58 (lA 36 524287) ?_;refine pS 19 59 (lA 36 1048575) ?_;refine pS 25 65 (lA 36 34603007) ?_;refine pS 30 70 (lA 36 1108344831) ?_;refine tS 20 60 (lA 36 1109393407) rfl rfl (by kernel_rfl) hHeld zz16 ?_;refine pS 21 61 (lA 36 1111490559) ?_;refine pS 22 62 (lA 36 1115684863) ?_;refine pS 23 63 (lA 36 1124073471) ?_;refine tS 24 64 (lA 36 1140850687) rfl rfl (by kernel_rfl) hHeld zz16 ?_;refine tS 26 66 (lA 36 1207959551) rfl rfl (by kernel_rfl) hHeld zz16 ?_;refine pS 27 67 (lA 36 1342177279) ?_
         refine pS 28 68 (lA 36 1610612735) ?_;refine tS 29 69 (lA 36 2147483647) rfl rfl (by kernel_rfl) hHeld zz16 ?_;refine oS 31 71 (lA 36 4294967295) rfl rfl (fun K hK=>?_);refine gO Try.func75 #[.agg #[.slice (some ad) m.words.length cW,.int .i64 m.young,.int .i64 m.top,.int .i64 m.old,.slice (some ad4) m.cards.length cC],.int .i64 x] ?_;(with_reducible refine (Mem_card.calls (some ad) m.words.length cW m.young m.top m.old (some ad4) m.cards.length cC x cj ci _ O3.out O4.out).mono ?_);rintro e w9 ⟨rfl,hb3⟩;refine ⟨_,rfl,?_⟩;refine hK.out _ _ ⟨⟨below_step hHeld.1.out hb3⟩,⟨MV_below hHeld.2.1.out hb3⟩,⟨(hb3.block _ (blk_lt hHeld.2.2.1.out)).trans hHeld.2.2.1.out⟩,(pw_cell_below hb3 hHeld.2.2.2.1),(pw_cell_below hb3 hHeld.2.2.2.2.1),(pw_cell_below hb3 hHeld.2.2.2.2.2.1),(pw_cell_below hb3 hHeld.2.2.2.2.2.2.1),(pw_cell_below hb3 hHeld.2.2.2.2.2.2.2.1),(pw_cell_below hb3 hHeld.2.2.2.2.2.2.2.2.1),(pw_cell_below hb3 hHeld.2.2.2.2.2.2.2.2.2.1),(pw_cell_below hb3 hHeld.2.2.2.2.2.2.2.2.2.2)⟩ (fun hHeld=>?_);clear hK K;refine nS 71 ?_;refine pS 32 72 (lA 36 8589934591) ?_;refine tS 33 73 (lA 36 17179869183) rfl rfl (by kernel_rfl) hHeld zz16 ?_;refine pS 34 74 (lA 36 34359738367) ?_;refine pS 35 75 (lA 36 68719476735) ?_;refine done_ (by kernel_rfl) ?_;have HBn:=hHeld.1;have HXn:=hHeld.2.2.1;clear hHeld HB HX;have HB:=HBn;have HX:=HXn;clear HBn HXn;go_wp2
         go_roundw
         case rel=>exact ⟨j1,k1,rfl,HZ,⟨by have:=HK1.out;have:=HK.out;omega⟩,HX,HB⟩
         case measure=>have:=HK1.out;have:=HC0.out;have:=HK.out;show (n - k1).toNat<(n - k).toNat;omega
      ·rw [if_neg c2] at hq
       have O1:=aK (decide_eq_false c2);have HQ2:=aK (Option.some.inj hq);clear hq c2;obtain rfl:=HQ2.out;have HZ:=aK (show wordsOk.l q m at_ n j1 k1=some r by have:=HH.out;rw [if_pos rfl] at this;exact this);clear HH;have b0:=(blk_cell HX.out 0).trans rfl;have b1:=(blk_cell HX.out 1).trans rfl
       go_wp2_with fail
       go_at_call 72;refine (thing_first.calls g m at_ a _ (MV_below HM.out HB.out) HFi.out).mono ?_;rintro e w2 ⟨rfl,hb⟩;clear b0 b1;have HBn:=aK (below_step HB.out hb);have HXn:=aK ((hb.block _ (blk_lt HX.out)).trans HX.out);clear hb HB HX;have HB:=HBn;have HX:=HXn;clear HBn HXn;have b0:=(blk_cell HX.out 0).trans rfl;have b1:=(blk_cell HX.out 1).trans rfl;obtain ⟨AW,cW,AC,cC,AF,cF,AB,cB,h0,hW,hC,_⟩:=MV_below HM.out HB.out;obtain ⟨ad,e0,hcell⟩:=Kd.at_int hW x (by have:=HXw.out;omega) (by have:=HXw.out;omega)
       cases e0
       rw [←HV.out] at hcell;have g0:=(blk_cell h0 0).trans rfl;have G0:=aK h0;have HCc:=aK hC;clear h0 hW hC
       go_wp2_with fail
       go_at_call 73;refine (thing_leads.calls g m at_ k true _ (MV_below HM.out HB.out) HLe.out).mono ?_;rintro e w3 ⟨rfl,hb⟩;clear b0 b1 hcell g0;have G0n:=aK ((hb.block _ (blk_lt G0.out)).trans G0.out);have HCn:=aK (Kd.C_below HCc.out hb);clear G0 HCc;have G0:=G0n;have HCc:=HCn;clear G0n HCn;have HBn:=aK (below_step HB.out hb);have HXn:=aK ((hb.block _ (blk_lt HX.out)).trans HX.out);clear hb HB HX;have HB:=HBn;have HX:=HXn;clear HBn HXn;have b0:=(blk_cell HX.out 0).trans rfl;have b1:=(blk_cell HX.out 1).trans rfl
       go_wp2_with (go_at_call 53;refine (memory_has.calls q g m v true _ (MV_below HM.out HB.out) HHa.out).mono ?_;rintro e w5 ⟨rfl,hd⟩;have hb:=hd.below;have HBn:=aK (below_step HB.out hb);have HXn:=aK ((hb.block _ (blk_lt HX.out)).trans HX.out);have G0n:=aK ((hb.block _ (blk_lt G0.out)).trans G0.out);have HCn:=aK (Kd.C_below HCc.out hb);clear hd hb HB HX G0 HCc b0 b1;have HB:=HBn;have HX:=HXn;have G0:=G0n;have HCc:=HCn;clear HBn HXn G0n HCn;have b0:=(blk_cell HX.out 0).trans rfl;have b1:=(blk_cell HX.out 1).trans rfl;have g0:=(blk_cell G0.out 0).trans rfl;have g1:=(blk_cell G0.out 1).trans rfl;have g2:=(blk_cell G0.out 2).trans rfl;have g3:=(blk_cell G0.out 3).trans rfl;have g4:=(blk_cell G0.out 4).trans rfl;have HM1:=aK (MV_below HM.out HB.out);try clear HCc)
       refine sT 36 (S:=fun w'=>Aside0 (Below w.heap.size w w')∧Aside0 (MV w' g (m))∧Aside0 (w'.heap[w.heap.size]? =some (.cells #[.pointer (some ⟨g,0,none⟩),.int .i64 at_] 86 (0,0)))∧w'.cell? (⟨w.heap.size,0,none⟩)=some (.pointer (some ⟨g,0,none⟩))∧w'.cell? (⟨w.heap.size,1,none⟩)=some (.int .i64 at_)∧w'.cell? (⟨g,0,none⟩)=some (.slice (some ad) m.words.length cW)∧w'.cell? (⟨g,1,none⟩)=some (.int .i64 m.young)∧w'.cell? (⟨g,2,none⟩)=some (.int .i64 m.top)∧w'.cell? (⟨g,3,none⟩)=some (.int .i64 m.old)∧w'.cell? (⟨g,4,none⟩)=some (.slice AC m.cards.length cC)) (ds:=[]) ⟨⟨below_drew1 HB.out⟩,⟨MV_below HM1.out (below_drew1 (Below.refl _ _))⟩,⟨blk_drew HX.out⟩,(by go_simp),(by go_simp),(by go_simp),(by go_simp),(by go_simp),(by go_simp),(by go_simp)⟩ (fun hHeld=>?_);refine pS 0 40 (lA 36 1) ?_;refine pS 5 45 (lA 36 33) ?_;refine tS 1 41 (lA 36 35) rfl rfl (by kernel_rfl) hHeld zz43 ?_;refine pS 2 42 (lA 36 39) ?_;refine pS 3 43 (lA 36 47) ?_;refine tS 4 44 (lA 36 63) rfl rfl (by kernel_rfl) hHeld zz43 ?_;refine tS 6 46 (lA 36 127) rfl rfl (by kernel_rfl) hHeld zz43 ?_;refine oS 7 47 (lA 36 255) rfl rfl (fun K hK=>?_);refine gO Try.func74 #[.agg #[.slice (some ad) m.words.length cW,.int .i64 m.young,.int .i64 m.top,.int .i64 m.old,.slice AC m.cards.length cC],.int .i64 at_] ?_;(with_reducible refine (Mem_isOld.calls (some ad) m.words.length cW m.young m.top m.old AC m.cards.length cC at_ false _ O1.out).mono ?_);rintro e w9 ⟨rfl,hb3⟩;refine ⟨_,rfl,?_⟩;refine hK.out _ _ ⟨⟨below_step hHeld.1.out hb3⟩,⟨MV_below hHeld.2.1.out hb3⟩,⟨(hb3.block _ (blk_lt hHeld.2.2.1.out)).trans hHeld.2.2.1.out⟩,(pw_cell_below hb3 hHeld.2.2.2.1),(pw_cell_below hb3 hHeld.2.2.2.2.1),(pw_cell_below hb3 hHeld.2.2.2.2.2.1),(pw_cell_below hb3 hHeld.2.2.2.2.2.2.1),(pw_cell_below hb3 hHeld.2.2.2.2.2.2.2.1),(pw_cell_below hb3 hHeld.2.2.2.2.2.2.2.2.1),(pw_cell_below hb3 hHeld.2.2.2.2.2.2.2.2.2)⟩ (fun hHeld=>?_);clear hK K;refine nS 47 ?_;refine pS 8 48 (lA 36 511) ?_;refine pU 9 49 (lA 36 1023) ?_;refine pU 10 50 (lA 36 2047) ?_;refine pU 11 51 (lA 36 4095) ?_;refine pU 12 52 (lA 36 8191) ?_;refine pU 13 53 (lA 36 16383) ?_;refine pU 14 54 (lA 36 32767) ?_;refine pU 15 55 (lA 36 65535) ?_;refine pU 16 56 (lA 36 131071) ?_;refine pS 17 57 (lA 36 262143) ?_;refine pS 18 58 (lA 36 524287) ?_;refine pU 19 59 (lA 36 1048575) ?_;refine pU 20 60 (lA 36 2097151) ?_;refine pU 21 61 (lA 36 4194303) ?_;refine pU 22 62 (lA 36 8388607) ?_;refine pU 23 63 (lA 36 16777215) ?_;refine pU 24 64 (lA 36 33554431) ?_;refine pU 25 65 (lA 36 67108863) ?_;refine pU 26 66 (lA 36 134217727) ?_;refine pU 27 67 (lA 36 268435455) ?_;refine pU 28 68 (lA 36 536870911) ?_;refine pU 29 69 (lA 36 1073741823) ?_;refine pU 30 70 (lA 36 2147483647) ?_;refine pU 31 71 (lA 36 4294967295) ?_;refine pU 32 72 (lA 36 8589934591) ?_;refine pU 33 73 (lA 36 17179869183) ?_;refine pU 34 74 (lA 36 34359738367) ?_;refine pS 35 75 (lA 36 68719476735) ?_;refine done_ (by kernel_rfl) ?_;have HBn:=hHeld.1;have HXn:=hHeld.2.2.1;clear hHeld HB HX;have HB:=HBn;have HX:=HXn;clear HBn HXn;go_wp2
       go_roundw
       case rel=>exact ⟨j1,k1,rfl,HZ,⟨by have:=HK1.out;have:=HK.out;omega⟩,HX,HB⟩
       case measure=>have:=HK1.out;have:=HC0.out;have:=HK.out;show (n - k1).toNat<(n - k).toNat;omega
def thingsOk (q:Nat) (m:Mm):List Int→Option Bool
  |[]=>some true
  |a::r=>(wordsOk.f q m a).bind fun ok=>if ok=true then thingsOk q m r else some false
def mopen (k q : Nat) (l0 : List S112) (ws : List Int) (y t o : Int) (cs : List Bool) : Option (Option Mm) :=
  (impl_ClassesOk.f k l0).bind fun c=>if c=true then ((impl_partsOk.f ws y t o cs).bind fun p=>if p=true then ((impl_allFields.f k l0).bind fun F=>
    if F.all (fun r=>decide (r.length≤4294967296))=true∧ws.length≤1048576∧cs.length≤1048576 then ((mwalk ws F t q 0 []).bind fun r1=>if r1.1=true then (if r1.2.length≤1048576 then ((mwalk ws F o q y r1.2).bind fun r2=>if r2.1=true then (if r2.2.length≤1048576 then ((thingsOk q ⟨ws,y,t,o,cs,F,r2.2⟩ r2.2).bind fun ok=>if ok=true then some (some ⟨ws,y,t,o,cs,F,r2.2⟩) else some none) else none) else some none) else none) else some none) else none) else some none) else some none
def OpenPost (w:World) (r:Option Mm) (e:Ending) (w':World):Prop:=
  match r with
  |none=>e= .returned (.tuple #[.pointer none,.bool false])∧Below w.heap.size w w'
  |some m=> ∃g,e= .returned (.tuple #[.pointer (some ⟨g,0,none⟩),.bool true])∧MO w' w.heap.size g m∧Below w.heap.size w w'
theorem fshort_of {F:List (List Int)} (h:F.all (fun r=>decide (r.length≤4294967296))=true):FShort F:=by
 intro c h0 h1;have h2:c.toNat<F.length:=by omega
 have h3:=List.all_eq_true.mp h (F[c.toNat]) (List.getElem_mem h2);have h4:rdL F c=F[c.toNat]:=by unfold rdL;rw [List.getD_eq_getElem?_getD,List.getElem?_eq_getElem h2];rfl
 rw [h4];exact of_decide_eq_true h3
theorem parts_true {ws:List Int} {y t o:Int} {cs:List Bool} (h:impl_partsOk.f ws y t o cs=some true):0≤y∧y≤40∧0≤t∧t≤y∧y≤o∧o≤ws.length:=by
 unfold impl_partsOk.f at h
 split at h
 case isFalse=>simp at h
 case isTrue=>
 have h:=Option.some.inj h;simp only [Bool.and_eq_true] at h;obtain ⟨⟨⟨⟨⟨⟨h0,h1⟩,h2⟩,h3⟩,h4⟩,h5⟩,h6⟩:=h;unfold pOk at h0 h2 h3;have h0:=of_decide_eq_true h0;have h2:=of_decide_eq_true h2;have h3:=of_decide_eq_true h3;exact ⟨h0.1,h0.2,h2.1,h2.2,h3.1,h3.2⟩
theorem MO_cells {w:World} {b g:Nat} {m:Mm} (h:MO w b g m):w.cell? ⟨g,1,none⟩=some (.int .i64 m.young)∧w.cell? ⟨g,2,none⟩=some (.int .i64 m.top)∧w.cell? ⟨g,3,none⟩=some (.int .i64 m.old):=by
  obtain ⟨_,_,_,_,_,_,_,_,h0,_⟩:=h;exact ⟨(blk_cell h0 1).trans rfl,(blk_cell h0 2).trans rfl,(blk_cell h0 3).trans rfl⟩
theorem MO_new {w3 w4:World} {b:Nat} {AU AV AF:Option Addr} {cU cV cF:Nat} {l0:List Int} {l4:List Bool} {F:List (List Int)} {a1 a2 a3:Int} (hb:b≤w3.heap.size) (hw:Below w3.heap.size w3 w4)
  (h1:Kd.R (Kd.int .i64) 3 w3 b (fun k=>some k≠(Value.slice AV l4.length cV).ownBlock) (.slice AU l0.length cU) l0)
  (h2:Kd.R Kd.bool 4 w3 b (fun k=>some k≠(Value.slice AU l0.length cU).ownBlock) (.slice AV l4.length cV) l4)
  (h3:Kd.S (Kd.slice 3 (Kd.int .i64)) 24 w4 w3.heap.size (fun _=>True) (.slice AF F.length cF) F):
  MO (w4.alloc (.cells #[.slice AU l0.length cU,.int .i64 a1,.int .i64 a2,.int .i64 a3,.slice AV l4.length cV,.slice AF F.length cF,.slice none 0 0] 72 (0,0))) b w4.heap.size ⟨l0,a1,a2,a3,l4,F,[]⟩:=by
 have hs:=hw.size;have u1:=Kd.R_lt h1;have u2:=Kd.R_lt h2;have nn: ∀k:Nat,some k≠(Value.slice none 0 0).ownBlock:=fun k=>by simp [Value.ownBlock]
 have al:=below_alloc (Below.refl w4.heap.size w4) (.cells #[.slice AU l0.length cU,.int .i64 a1,.int .i64 a2,.int .i64 a3,.slice AV l4.length cV,.slice AF F.length cF,.slice none 0 0] 72 (0,0));refine ⟨AU,cU,AV,cV,AF,cF,none,0,blk_new _ _,by show b≤w4.heap.size;omega,(Kd.R_reads' (Kd.S_R h3)).2.1,?_,?_,?_,?_⟩
 ·exact Kd.R_below (Kd.R_mono (Kd.R_below (Kd.R_bound h1) hw) (fun k hk=>⟨⟨by have:=hk.2.2.1;omega,hk.1⟩,nn k⟩)) al
 ·exact Kd.R_below (Kd.R_mono (Kd.R_below (Kd.R_bound h2) hw) (fun k hk=>⟨⟨by have:=hk.2.2.1;omega,hk.1⟩,nn k⟩)) al
 ·exact Kd.F_below (Kd.F_mono (Kd.R_F (Kd.R_bound (Kd.S_R h3))) (fun k hk=>⟨⟨⟨by have:=hk.2.2.1;omega,fun e=>by have:=u1 k e.symm;have:=hk.2.1;omega⟩,fun e=>by have:=u2 k e.symm;have:=hk.2.1;omega⟩,nn k⟩)) al
 ·exact Kd.R_nil _ _ _ _ _
set_option maxHeartbeats 32000000 in
set_option maxRecDepth 100000 in
theorem memOpen.calls (k q:Nat) (A0:Option Addr) (c0:Nat) (l0:List S112) (AW:Option Addr) (cW:Nat) (ws:List Int) (y t o:Int) (AC:Option Addr) (cC:Nat) (cs:List Bool) (r:Option Mm) (w:World)
  (hr0:Kd.C k112 w A0 l0.length l0) (hc0:l0.length≤c0) (hrW:Kd.C (Kd.int .i64) w AW ws.length ws) (hcW:ws.length≤cW) (hrC:Kd.C Kd.bool w AC cs.length cs) (hcC:cs.length≤cC) (h:mopen k q l0 ws y t o cs=some r):
  Calls Try.prog 35 #[.slice A0 l0.length c0,.agg #[.slice AW ws.length cW,.int .i64 y,.int .i64 t,.int .i64 o,.slice AC cs.length cC]] w (OpenPost w r):=by
 have HR0:=aK hr0;have HC0:=aK hc0;have HRW:=aK hrW;have HCW:=aK hcW;have HRC:=aK hrC;have HCC:=aK hcC;clear hr0 hc0 hrW hcW hrC hcC;unfold mopen at h;obtain ⟨c,hc,h⟩:=Option.bind_eq_some_iff.mp h;have H1:=aK hc;clear hc;have HB0:=aK (below_alloc (Below.refl w.heap.size w) (.cells #[.slice AW ws.length cW,.int .i64 y,.int .i64 t,.int .i64 o,.slice AC cs.length cC] 27 (0,0)));have HX0:=aK (blk_new w (.cells #[.slice AW ws.length cW,.int .i64 y,.int .i64 t,.int .i64 o,.slice AC cs.length cC] 27 (0,0)))
 cases c with
 |false=>
  rw [if_neg (by simp)] at h;have HR:=aK (Option.some.inj h);clear h;go_enter Try.func35,Try.ntmps35
  go_wp2_with (go_at_call 65;refine (impl_ClassesOk.calls k A0 c0 l0 false _ (Kd.C_below HR0.out HB0.out) HC0.out H1.out).mono ?_;rintro e w1 ⟨rfl,hb⟩;have HB:=aK (below_step HB0.out hb);have HX:=aK ((hb.block _ (blk_lt HX0.out)).trans HX0.out);clear hb HB0 HX0;have x0:=(blk_cell HX.out 0).trans rfl;have x1:=(blk_cell HX.out 1).trans rfl;have x2:=(blk_cell HX.out 2).trans rfl;have x3:=(blk_cell HX.out 3).trans rfl;have x4:=(blk_cell HX.out 4).trans rfl)
  go_ret2
  rw [←HR.out];exact ⟨rfl,HB.out⟩
 |true=>
 rw [if_pos rfl] at h;obtain ⟨p,hp,h⟩:=Option.bind_eq_some_iff.mp h;have H2:=aK hp;clear hp
 cases p with
 |false=>
  rw [if_neg (by simp)] at h;have HR:=aK (Option.some.inj h);clear h;go_enter Try.func35,Try.ntmps35
  go_wp2_with first|(go_at_call 65;refine (impl_ClassesOk.calls k A0 c0 l0 true _ (Kd.C_below HR0.out HB0.out) HC0.out H1.out).mono ?_;rintro e w1 ⟨rfl,hb⟩;have HB:=aK (below_step HB0.out hb);have HX:=aK ((hb.block _ (blk_lt HX0.out)).trans HX0.out);clear hb HB0 HX0;have x0:=(blk_cell HX.out 0).trans rfl;have x1:=(blk_cell HX.out 1).trans rfl;have x2:=(blk_cell HX.out 2).trans rfl;have x3:=(blk_cell HX.out 3).trans rfl;have x4:=(blk_cell HX.out 4).trans rfl)|(go_at_call 66;refine (impl_partsOk.calls AW cW ws y t o AC cC cs false _ (Kd.C_below HRW.out HB.out) HCW.out H2.out).mono ?_;rintro e w2 ⟨rfl,hb⟩;have HBn:=aK (below_step HB.out hb);have HXn:=aK ((hb.block _ (blk_lt HX.out)).trans HX.out);clear hb HB HX x0 x1 x2 x3 x4;have HB:=HBn;have HX:=HXn;clear HBn HXn;have x0:=(blk_cell HX.out 0).trans rfl;have x1:=(blk_cell HX.out 1).trans rfl;have x2:=(blk_cell HX.out 2).trans rfl;have x3:=(blk_cell HX.out 3).trans rfl;have x4:=(blk_cell HX.out 4).trans rfl)
  go_ret2
  rw [←HR.out];exact ⟨rfl,HB.out⟩
 |true=>
 rw [if_pos rfl] at h;obtain ⟨F,hF,h⟩:=Option.bind_eq_some_iff.mp h;have H3:=aK hF;clear hF
 split at h
 case isFalse=>simp at h
 case isTrue hl=>
 have HL1:=aK (fshort_of hl.1);have HL2:=aK hl.2.1;have HL3:=aK hl.2.2;clear hl;have HP:=aK (parts_true H2.out);obtain ⟨r1,hr1,h⟩:=Option.bind_eq_some_iff.mp h;have H4:=aK hr1;clear hr1;have H:=aK h;clear h;go_enter Try.func35,Try.ntmps35
 go_wp2_with first|(go_at_call 65;refine (impl_ClassesOk.calls k A0 c0 l0 true _ (Kd.C_below HR0.out HB0.out) HC0.out H1.out).mono ?_;rintro e w1 ⟨rfl,hb⟩;have HB:=aK (below_step HB0.out hb);have HX:=aK ((hb.block _ (blk_lt HX0.out)).trans HX0.out);clear hb HB0 HX0;have x0:=(blk_cell HX.out 0).trans rfl;have x1:=(blk_cell HX.out 1).trans rfl;have x2:=(blk_cell HX.out 2).trans rfl;have x3:=(blk_cell HX.out 3).trans rfl;have x4:=(blk_cell HX.out 4).trans rfl)|(go_at_call 66;refine (impl_partsOk.calls AW cW ws y t o AC cC cs true _ (Kd.C_below HRW.out HB.out) HCW.out H2.out).mono ?_;rintro e w2 ⟨rfl,hb⟩;have HBn:=aK (below_step HB.out hb);have HXn:=aK ((hb.block _ (blk_lt HX.out)).trans HX.out);clear hb HB HX x0 x1 x2 x3 x4;have HB:=HBn;have HX:=HXn;clear HBn HXn;have x0:=(blk_cell HX.out 0).trans rfl;have x1:=(blk_cell HX.out 1).trans rfl;have x2:=(blk_cell HX.out 2).trans rfl;have x3:=(blk_cell HX.out 3).trans rfl;have x4:=(blk_cell HX.out 4).trans rfl)|fail
 go_at_call 67;refine (impl_memClone.calls AW cW ws y t o AC cC cs _ (Kd.C_below HRW.out HB.out) HCW.out (Kd.C_below HRC.out HB.out) HCC.out (by have:=HL2.out;omega) (by have:=HL3.out;omega)).mono ?_;rintro e w3 ⟨u,v,rfl,hu,hv,hb⟩;have HS2:=aK (below_size HB.out);have HBn:=aK (below_step HB.out hb);have HU:=aK (Kd.R_lower hu HS2.out);have HV:=aK (Kd.R_lower hv HS2.out);obtain ⟨AU,cU,rfl⟩:=Kd.R_slice hu;obtain ⟨AV,cV,rfl⟩:=Kd.R_slice hv;clear hu hv hb HB HX HS2 x0 x1 x2 x3 x4;have HB:=HBn;clear HBn
 go_wp2_with fail
 go_at_call 68;refine (impl_allFields.calls k A0 c0 l0 F _ (Kd.C_below HR0.out HB.out) HC0.out H3.out).mono ?_;rintro e w4 ⟨vf,rfl,hf,hb⟩;obtain ⟨AF,cF,rfl⟩:=Kd.S_slice hf;have HM0:=aK (MO_new (a1:=y) (a2:=t) (a3:=o) (below_size HB.out) hb HU.out HV.out hf);have HBn:=aK (below_alloc (below_step HB.out hb) (.cells #[.slice AU ws.length cU,.int .i64 y,.int .i64 t,.int .i64 o,.slice AV cs.length cV,.slice AF F.length cF,.slice none 0 0] 72 (0,0)));clear hf hb HB HU HV;have HB:=HBn;clear HBn;obtain ⟨g,hg⟩: ∃g,g=w4.heap.size:=⟨_,rfl⟩;have HG:=aK hg;go_wp2;rw [←hg] at HM0 ⊢;clear hg;generalize w4.alloc (.cells #[.slice AU ws.length cU,.int .i64 y,.int .i64 t,.int .i64 o,.slice AV cs.length cV,.slice AF F.length cF,.slice none 0 0] 72 (0,0))=W5 at HB HM0 ⊢;obtain ⟨k1,k2,k3⟩:=MO_cells HM0.out;dsimp only at k1 k2 k3;obtain ⟨r1b,r1l⟩:=r1;have hh:=H.out
 cases r1b with
 |false=>
  rw [if_neg (by simp)] at hh;have HR:=aK (Option.some.inj hh);clear hh H;refine sT 23 (S:=fun w'=>Aside0 (Below w.heap.size w w')∧w'.cell? ⟨g,1,none⟩=some (.int .i64 y)∧w'.cell? ⟨g,2,none⟩=some (.int .i64 t)∧w'.cell? ⟨g,3,none⟩=some (.int .i64 o)) (ds:=[]) ⟨⟨below_drew1 HB.out⟩,(by go_simp),(by go_simp),(by go_simp)⟩ (fun hHeld=>?_);refine pS 0 23 (lA 23 1) ?_;refine pS 1 24 (lA 23 3) ?_;refine pS 2 25 (lA 23 7) ?_;refine pS 3 26 (lA 23 15) ?_;refine pS 4 27 (lA 23 31) ?_;refine tS 5 28 (lA 23 63) rfl rfl (by kernel_rfl) hHeld zz32 ?_;refine oS 6 29 (lA 23 127) rfl rfl (fun K hK=>?_);refine gO Try.func69 #[.pointer (some ⟨g,0,none⟩),.int .i64 0,.int .i64 t] ?_;(with_reducible refine (memory_walk.calls w.heap.size g _ 0 t q (false,r1l) _ (MO_below HM0.out (below_drew1 (Below.refl _ _))) hHeld.1.out.size (by decide) (by have:=HP.out;show t≤(ws.length:Int);omega) HL2.out (Nat.zero_le _) HL1.out H4.out).mono ?_);rintro e w5 ⟨rfl,ho1,hb1⟩;have hMO1:=aK ho1;have hB1:=aK hb1;obtain ⟨c1_,c2_,c3_⟩:=MO_cells ho1;dsimp only at c1_ c2_ c3_;refine ⟨_,rfl,?_⟩;refine hK.out _ _ ⟨⟨hHeld.1.out.trans hB1.out⟩,c1_,c2_,c3_⟩ (fun hHeld=>?_);clear hK K;refine nS 29 ?_;refine pS 7 30 (lA 23 255) ?_;refine pS 8 31 (lA 23 511) ?_;refine pU 9 32 (lA 23 1023) ?_;refine pU 10 33 (lA 23 2047) ?_;refine pU 11 34 (lA 23 4095) ?_;refine pU 12 35 (lA 23 8191) ?_;refine pU 13 36 (lA 23 16383) ?_;refine pU 14 37 (lA 23 32767) ?_;refine pU 15 38 (lA 23 65535) ?_;refine pU 16 39 (lA 23 131071) ?_;refine pU 17 40 (lA 23 262143) ?_;refine pU 18 41 (lA 23 524287) ?_;refine pU 19 42 (lA 23 1048575) ?_;refine pU 20 43 (lA 23 2097151) ?_;refine pU 21 44 (lA 23 4194303) ?_;refine pS 22 45 (lA 23 8388607) ?_;refine done_ (by kernel_rfl) ?_;go_wp2
  go_ret2
  rw [←HR.out];exact ⟨rfl,hHeld.1.out⟩
 |true=>
 rw [if_pos rfl] at hh
 split at hh
 case isFalse=>simp at hh
 case isTrue hl=>
 have HL4:=aK hl;clear hl;obtain ⟨r2,hr2,hh⟩:=Option.bind_eq_some_iff.mp hh;have H5:=aK hr2;clear hr2 H;obtain ⟨r2b,r2l⟩:=r2
 cases r2b with
 |false=>
  rw [if_neg (by simp)] at hh;have HR:=aK (Option.some.inj hh);clear hh;refine sT 23 (S:=fun w'=>Aside0 (Below w.heap.size w w')∧w'.cell? ⟨g,1,none⟩=some (.int .i64 y)∧w'.cell? ⟨g,2,none⟩=some (.int .i64 t)∧w'.cell? ⟨g,3,none⟩=some (.int .i64 o)) (ds:=[]) ⟨⟨below_drew1 HB.out⟩,(by go_simp),(by go_simp),(by go_simp)⟩ (fun hHeld=>?_);refine pS 0 23 (lA 23 1) ?_;refine pS 1 24 (lA 23 3) ?_;refine pS 2 25 (lA 23 7) ?_;refine pS 3 26 (lA 23 15) ?_;refine pS 4 27 (lA 23 31) ?_;refine tS 5 28 (lA 23 63) rfl rfl (by kernel_rfl) hHeld zz32 ?_;refine oS 6 29 (lA 23 127) rfl rfl (fun K hK=>?_);refine gO Try.func69 #[.pointer (some ⟨g,0,none⟩),.int .i64 0,.int .i64 t] ?_;(with_reducible refine (memory_walk.calls w.heap.size g _ 0 t q (true,r1l) _ (MO_below HM0.out (below_drew1 (Below.refl _ _))) hHeld.1.out.size (by decide) (by have:=HP.out;show t≤(ws.length:Int);omega) HL2.out (Nat.zero_le _) HL1.out H4.out).mono ?_);rintro e w5 ⟨rfl,ho1,hb1⟩;have hMO1:=aK ho1;have hB1:=aK hb1;obtain ⟨c1_,c2_,c3_⟩:=MO_cells ho1;dsimp only at c1_ c2_ c3_;refine ⟨_,rfl,?_⟩;refine hK.out _ _ ⟨⟨hHeld.1.out.trans hB1.out⟩,c1_,c2_,c3_⟩ (fun hHeld=>?_);clear hK K;refine nS 29 ?_;refine pS 7 30 (lA 23 255) ?_;refine pS 8 31 (lA 23 511) ?_;refine pS 9 32 (lA 23 1023) ?_;refine pS 10 33 (lA 23 2047) ?_;refine pS 11 34 (lA 23 4095) ?_;refine pS 12 35 (lA 23 8191) ?_;refine pS 13 36 (lA 23 16383) ?_;refine pS 15 38 (lA 23 49151) ?_;refine pS 16 39 (lA 23 114687) ?_;refine pS 17 40 (lA 23 245759) ?_;refine pS 18 41 (lA 23 507903) ?_;refine tS 14 37 (lA 23 524287) rfl rfl (by kernel_rfl) hHeld zz32 ?_;refine tS 19 42 (lA 23 1048575) rfl rfl (by kernel_rfl) hHeld zz32 ?_;refine oS 20 43 (lA 23 2097151) rfl rfl (fun K hK=>?_);refine gO Try.func69 #[.pointer (some ⟨g,0,none⟩),.int .i64 y,.int .i64 o] ?_;(with_reducible refine (memory_walk.calls w.heap.size g _ y o q (false,r2l) _ hMO1.out hHeld.1.out.size HP.out.1 (by have:=HP.out;show o≤(ws.length:Int);omega) HL2.out HL4.out HL1.out H5.out).mono ?_);rintro e w6 ⟨rfl,ho2,hb2⟩;have hMO2:=aK ho2;have hB2:=aK hb2;obtain ⟨d1_,d2_,d3_⟩:=MO_cells ho2;dsimp only at d1_ d2_ d3_;refine ⟨_,rfl,?_⟩;refine hK.out _ _ ⟨⟨hHeld.1.out.trans hB2.out⟩,d1_,d2_,d3_⟩ (fun hHeld=>?_);clear hK K;refine nS 43 ?_;refine pS 21 44 (lA 23 4194303) ?_;refine pS 22 45 (lA 23 8388607) ?_;refine done_ (by kernel_rfl) ?_;go_wp2
  go_ret2
  rw [←HR.out];exact ⟨rfl,hHeld.1.out⟩
 |true=>
 rw [if_pos rfl] at hh
 split at hh
 case isFalse=>simp at hh
 case isTrue hl=>
 have HL5:=aK hl;clear hl;obtain ⟨ok,hok,hh⟩:=Option.bind_eq_some_iff.mp hh;have H6:=aK hok;have H7:=aK hh;clear hok hh;refine sT 23 (S:=fun w'=>Aside0 (Below w.heap.size w w')∧w'.cell? ⟨g,1,none⟩=some (.int .i64 y)∧w'.cell? ⟨g,2,none⟩=some (.int .i64 t)∧w'.cell? ⟨g,3,none⟩=some (.int .i64 o)) (ds:=[]) ⟨⟨below_drew1 HB.out⟩,(by go_simp),(by go_simp),(by go_simp)⟩ (fun hHeld=>?_);refine pS 0 23 (lA 23 1) ?_;refine pS 1 24 (lA 23 3) ?_;refine pS 2 25 (lA 23 7) ?_;refine pS 3 26 (lA 23 15) ?_;refine pS 4 27 (lA 23 31) ?_;refine tS 5 28 (lA 23 63) rfl rfl (by kernel_rfl) hHeld zz32 ?_;refine oS 6 29 (lA 23 127) rfl rfl (fun K hK=>?_);refine gO Try.func69 #[.pointer (some ⟨g,0,none⟩),.int .i64 0,.int .i64 t] ?_;(with_reducible refine (memory_walk.calls w.heap.size g _ 0 t q (true,r1l) _ (MO_below HM0.out (below_drew1 (Below.refl _ _))) hHeld.1.out.size (by decide) (by have:=HP.out;show t≤(ws.length:Int);omega) HL2.out (Nat.zero_le _) HL1.out H4.out).mono ?_);rintro e w5 ⟨rfl,ho1,hb1⟩;have hMO1:=aK ho1;have hB1:=aK hb1;obtain ⟨c1_,c2_,c3_⟩:=MO_cells ho1;dsimp only at c1_ c2_ c3_;refine ⟨_,rfl,?_⟩;refine hK.out _ _ ⟨⟨hHeld.1.out.trans hB1.out⟩,c1_,c2_,c3_⟩ (fun hHeld=>?_);clear hK K;refine nS 29 ?_;refine pS 7 30 (lA 23 255) ?_;refine pS 8 31 (lA 23 511) ?_;refine pS 9 32 (lA 23 1023) ?_;refine pS 10 33 (lA 23 2047) ?_;refine pS 11 34 (lA 23 4095) ?_;refine pS 12 35 (lA 23 8191) ?_;refine pS 13 36 (lA 23 16383) ?_;refine pS 15 38 (lA 23 49151) ?_;refine pS 16 39 (lA 23 114687) ?_;refine pS 17 40 (lA 23 245759) ?_;refine pS 18 41 (lA 23 507903) ?_;refine tS 14 37 (lA 23 524287) rfl rfl (by kernel_rfl) hHeld zz32 ?_;refine tS 19 42 (lA 23 1048575) rfl rfl (by kernel_rfl) hHeld zz32 ?_;refine oS 20 43 (lA 23 2097151) rfl rfl (fun K hK=>?_);refine gO Try.func69 #[.pointer (some ⟨g,0,none⟩),.int .i64 y,.int .i64 o] ?_;(with_reducible refine (memory_walk.calls w.heap.size g _ y o q (true,r2l) _ hMO1.out hHeld.1.out.size HP.out.1 (by have:=HP.out;show o≤(ws.length:Int);omega) HL2.out HL4.out HL1.out H5.out).mono ?_);rintro e w6 ⟨rfl,ho2,hb2⟩;have hMO2:=aK ho2;have hB2:=aK hb2;obtain ⟨d1_,d2_,d3_⟩:=MO_cells ho2;dsimp only at d1_ d2_ d3_;refine ⟨_,rfl,?_⟩;refine hK.out _ _ ⟨⟨hHeld.1.out.trans hB2.out⟩,d1_,d2_,d3_⟩ (fun hHeld=>?_);clear hK K;refine nS 43 ?_;refine pS 21 44 (lA 23 4194303) ?_;refine pS 22 45 (lA 23 8388607) ?_;refine done_ (by kernel_rfl) ?_;have HB:=hHeld.1;clear hHeld;obtain ⟨AW6,cW6,AC6,cC6,AF6,cF6,AB,cB,g0,hg1,_,_,_,_,rB⟩:=hMO2.out;have k6:=(blk_cell g0 6).trans rfl;have HCB:=aK (Kd.R_reads' rB).2.2;clear g0 rB hg1;go_wp2
 go_loopw [51] (fun i wr=> ∃j:Nat,i= .int .i64 j∧j≤r2l.length∧Aside0 (thingsOk q ⟨ws,y,t,o,cs,F,r2l⟩ (r2l.drop j)=some ok)∧Aside0 (Below w6.heap.size w6 wr)) (fun i _=>r2l.length - (intOf i).toNat)
 case atStart=>exact ⟨0,rfl,Nat.zero_le _,⟨by rw [List.drop_zero];exact H6.out⟩,⟨Below.refl _ _⟩⟩
 case round=>
  clear H6;obtain ⟨j,rfl,hj,HT,HB6⟩:=hrel;by_cases hlt:j<r2l.length
  ·have hd := List.drop_eq_getElem_cons hlt
   have hg:r2l[j]=rd r2l j:=by unfold rd;rw [Int.toNat_natCast,List.getD_eq_getElem?_getD,List.getElem?_eq_getElem hlt];rfl
   obtain ⟨ad,e0,hcell⟩:=Kd.at_int (Kd.C_below HCB.out HB6.out) j (by omega) (by omega)
   cases e0
   rw [Int.toNat_natCast] at hcell;have ht:=HT.out;rw [hd,hg] at ht;unfold thingsOk at ht;obtain ⟨o1,ho1,ht⟩:=Option.bind_eq_some_iff.mp ht;have HO1:=aK ho1;clear hd hg HT ho1;generalize rd r2l j=x at*
   cases o1 with
   |false=>
    rw [if_neg (by simp)] at ht;have h7:=H7.out;rw [←Option.some.inj ht,if_neg (by simp)] at h7;have HR:=aK (Option.some.inj h7);clear ht h7
    go_wp2_with fail
    go_at_call 54;refine (memory_thing.calls g x _).mono ?_;rintro e w7 ⟨rfl,hb⟩;have HB7:=aK (below_step HB6.out hb);clear hb
    go_wp2_with fail
    go_at_call 70;refine (thing_wordsOk.calls q g _ x false _ (MV_below (MO_MV hMO2.out) HB7.out) HO1.out).mono ?_;rintro e w8 ⟨rfl,hb⟩;have HB8:=aK (below_step HB7.out hb);clear hb HB7;go_wp2
    go_ret2
    rw [←HR.out];exact ⟨rfl,below_then HB.out (Nat.le_trans (Nat.le_refl _) HB.out.size) HB8.out⟩
   |true=>
    rw [if_pos rfl] at ht;have HT2:=aK ht;clear ht
    go_wp2_with fail
    go_at_call 54;refine (memory_thing.calls g x _).mono ?_;rintro e w7 ⟨rfl,hb⟩;have HB7:=aK (below_step HB6.out hb);clear hb
    go_wp2_with fail
    go_at_call 70;refine (thing_wordsOk.calls q g _ x true _ (MV_below (MO_MV hMO2.out) HB7.out) HO1.out).mono ?_;rintro e w8 ⟨rfl,hb⟩;have HB8:=aK (below_step HB7.out hb);clear hb HB7;go_wp2
    go_roundw
    case rel=>exact ⟨j+1,by rw [show wrap64 ((j:Int)+1)=((j+1:Nat):Int) by have:=HL5.out;unfold wrap64;omega],by omega,HT2,HB8⟩
    case measure=>rw [show wrap64 ((j:Int)+1)=((j+1:Nat):Int) by have:=HL5.out;unfold wrap64;omega];simp only [intOf,Int.toNat_natCast];omega
  ·have d0 : decide ((j : Int) < r2l.length) = false := decide_eq_false (by omega)
   have ht:=HT.out;rw [List.drop_eq_nil_of_le (by omega)] at ht;have h7:=H7.out;rw [←Option.some.inj ht,if_pos rfl] at h7;have HR:=aK (Option.some.inj h7);clear ht h7;go_wp2
   go_ret2
   rw [←HR.out];exact ⟨g,rfl,MO_below hMO2.out HB6.out,below_then HB.out HB.out.size HB6.out⟩
def walkOf:Option Mm→List Int
  |none=>[]
  |some m=>m.begins
def impl_MemWalk.f (k:Nat) (l0:List (S112)) (l1_0:List Int) (a1_1:Int) (a1_2:Int) (a1_3:Int) (l1_4:List Bool):Option (List Int):=(mopen k k l0 l1_0 a1_1 a1_2 a1_3 l1_4).bind fun r=>some (walkOf r)
set_option maxHeartbeats 8000000 in
set_option maxRecDepth 100000 in
theorem impl_MemWalk.calls (k:Nat) (A0:Option Addr) (c0:Nat) (l0:List (S112)) (A1_0:Option Addr) (c1_0:Nat) (l1_0:List Int) (a1_1:Int) (a1_2:Int) (a1_3:Int) (A1_4:Option Addr) (c1_4:Nat) (l1_4:List Bool) (r:List Int) (w:World) (hr0:Kd.C k112 w A0 l0.length l0) (hc0:l0.length≤c0) (hr1_0:Kd.C (Kd.int .i64) w A1_0 l1_0.length l1_0) (hc1_0:l1_0.length≤c1_0) (hr1_4:Kd.C Kd.bool w A1_4 l1_4.length l1_4) (hc1_4:l1_4.length≤c1_4) (h:impl_MemWalk.f k l0 l1_0 a1_1 a1_2 a1_3 l1_4=some r):
  Calls Try.prog 17 #[.slice A0 l0.length c0,.agg #[.slice A1_0 l1_0.length c1_0,.int .i64 a1_1,.int .i64 a1_2,.int .i64 a1_3,.slice A1_4 l1_4.length c1_4]] w fun e w'=> ∃v0_:Value,e= .returned (v0_)∧Kd.R (Kd.int .i64) 3 w' w.heap.size (fun _=>True) v0_ r∧Below w.heap.size w w':=by
 unfold impl_MemWalk.f at h;obtain ⟨m,hm,h⟩:=Option.bind_eq_some_iff.mp h;have HM:=aK hm;have HR0:=aK hr0;have HC0:=aK hc0;have HR1:=aK hr1_0;have HC1:=aK hc1_0;have HR4:=aK hr1_4;have HC4:=aK hc1_4;have HB:=aK (below_alloc (Below.refl w.heap.size w) (.cells #[.slice A1_0 l1_0.length c1_0,.int .i64 a1_1,.int .i64 a1_2,.int .i64 a1_3,.slice A1_4 l1_4.length c1_4] 27 (0,0)));have HH:=aK h;clear hr0 hc0 hr1_0 hc1_0 hr1_4 hc1_4 h hm;go_enter Try.func17,Try.ntmps17
 go_wp2_with fail
 go_at_call 35;refine (memOpen.calls k k A0 c0 l0 A1_0 c1_0 l1_0 a1_1 a1_2 a1_3 A1_4 c1_4 l1_4 m _ (Kd.C_below HR0.out HB.out) HC0.out (Kd.C_below HR1.out HB.out) HC1.out (Kd.C_below HR4.out HB.out) HC4.out HM.out).mono ?_
 cases m with
 |none=>
  rintro e w1 ⟨rfl,hb⟩;have HB1:=aK (below_step HB.out hb);have hh:=Option.some.inj HH.out;subst hh;clear hb HM HH;go_wp2;go_ret;exact ⟨_,rfl,Kd.R_nil _ _ _ _ _,HB1.out⟩
 |some m=>
  rintro e w1 ⟨g,rfl,hmo,hb⟩;have HB1:=aK (below_step HB.out hb);have hs:=below_size HB.out;have hh:=Option.some.inj HH.out;subst hh;obtain ⟨AW,cW,AC,cC,AF,cF,AB,cB,g0,_,_,_,_,_,rB⟩:=hmo;have k6:=(blk_cell g0 6).trans rfl;have RB:=aK (Kd.R_mono (ok':=fun _=>True) (Kd.R_lower rB hs) (fun _ _=>trivial));clear hb HM HH g0 rB hs;go_wp2;go_ret;exact ⟨_,rfl,RB.out,HB1.out⟩
end Go.Proofs.Ytnlieahdakafbaa.K
namespace Go.Proofs.Ytnlieahdakafbaa.Pure
open Go.RowKit Go.Proofs.Ytnlieahdakafbaa.K Go.Proofs.YtnlieahdakafbaaW.PrintWords Go.Proofs.YtnlieahdakafbaaW.PrintLast Go.Proofs.YtnlieahdakafbaaW.PrintMore
set_option linter.unusedVariables false
set_option linter.unusedSimpArgs false
theorem all_drop (fs:List Int) (P:Int→Bool) (i:Nat) (h:i<fs.length):(fs.drop i).all P=(P (fs.getD i 0)&&(fs.drop (i+1)).all P):=by
  rw [drop_getD fs i 0 h,List.all_cons]
theorem spec_l2Field_eq (cs:Cs) (t:Int) (hl:cs.length≤1000):spec_l2Field.f cs t=some (fldOk cs.length t):=by
 unfold spec_l2Field.f fldOk;by_cases c1:t=1
 ·rw [if_pos c1];simp [c1]
 rw [if_neg c1];by_cases c2:t=3
 ·rw [if_pos c2];simp [c2]
 rw [if_neg c2];by_cases c3:t=4
 ·rw [if_pos c3];simp [c3]
 rw [if_neg c3,wrap64_of (n:=8+(cs.length:Int)) (by omega) (by omega),wrap64_of (by omega) (by omega),spec_l6In_eq];simp only [Option.bind_some,Option.some.injEq]
 rw [Bool.eq_iff_iff];simp only [decide_eq_true_eq];omega
def clsTail (cs:Cs) (i su:Int) (fs:List Int):Bool:=
  if i=0 then decide (su= -1∧fs=[]) else if i=1 then decide (su=0∧fs=[1]) else decide ((0≤su∧su<i)∧fs.length≤2)
theorem len_nil (fs:List Int):((fs.length:Int)==0)=decide (fs=[]):=by cases fs<;>simp;omega
theorem spec_l2Class_l0 (cs:Cs) (c su:Int) (fs:List Int) (hl:cs.length≤1000) (hf:fs.length≤140737488355328) (hc:0≤c∧c<1000) (d:Nat): ∀(k i:Nat),i≤fs.length→fs.length - i=d→d<k→
  spec_l2Class.l0 k cs c i su fs=some ((fs.drop i).all (fldOk cs.length)&&clsTail cs c su fs):=by
 induction d with
 | zero =>
  intro k i hi hd hk;obtain ⟨k,rfl⟩: ∃m,k=m+1:=⟨k - 1,by omega⟩;have:i=fs.length:=by omega
  subst this;simp only [spec_l2Class.l0]
  rw [if_neg (by omega),List.drop_length];simp only [List.all_nil,Bool.true_and]
  unfold clsTail;by_cases c0:c=0
  ·rw [if_pos c0, if_pos c0]
   by_cases s0:su= -1
   ·rw [if_pos s0,len_nil];simp [s0]
   ·rw [if_neg s0];simp [s0]
  rw [if_neg c0,if_neg c0];by_cases c1:c=1
  ·rw [if_pos c1, if_pos c1]
   by_cases s0:su=0
   ·rw [if_pos s0]
    by_cases l1:(fs.length:Int)=1
    ·rw [if_pos l1, if_pos (by omega)]
     obtain ⟨x,rfl⟩:=List.length_eq_one_iff.1 (show fs.length=1 by omega);by_cases e:x=1
     ·simp [rd,s0,e]
     ·simp [rd,s0,e]
    ·rw [if_neg l1]
     have:fs≠[1]:=fun e=>l1 (by rw [e];rfl)
     simp [this]
   ·rw [if_neg s0];simp [s0]
  rw [if_neg c1,if_neg c1,wrap64_of (by omega) (by omega),spec_l6In_eq];simp only [Option.bind_some,decide_eq_true_eq]
  by_cases z:0≤su∧su≤c - 1
  ·rw [if_pos z]
   congr 1
   rw [Bool.eq_iff_iff];simp only [decide_eq_true_eq];omega
  ·rw [if_neg z]
   congr 1
   rw [Bool.eq_iff_iff];simp only [decide_eq_true_eq,Bool.false_eq_true,false_iff];omega
 | succ d ih =>
  intro k i hi hd hk;obtain ⟨k,rfl⟩: ∃m,k=m+1:=⟨k - 1,by omega⟩;simp only [spec_l2Class.l0]
  rw [if_pos (by omega),if_pos (by omega),spec_l2Field_eq cs _ hl,rd_cast,all_drop fs _ i (by omega)];simp only [Option.bind_some]
  cases hq:fldOk cs.length (fs.getD i 0) with
  |false=>simp
  |true=>
   simp only [if_true,Bool.true_and]
   rw [wrap_inc (n:=fs.length) (by omega) (by omega) (by omega),show ((i:Int)+1)=((i+1:Nat):Int) from by omega];exact ih k (i+1) (by omega) (by omega) (by omega)
def fewF (cs:Cs):Prop:= ∀i:Int,(flds cs i).length≤1048576
theorem spec_l2Class_eq {cs:Cs} (hl:cs.length≤1000) (hf:fewF cs) {i:Int} (h0:0≤i) (h1:i<cs.length) (k:Nat) (hk:1048577≤k):spec_l2Class.f k cs i=some (clsOk cs i):=by
 unfold spec_l2Class.f;rw [if_pos h0,if_pos h1];have:=hf i
 have e:=spec_l2Class_l0 cs i (sup cs i) (flds cs i) hl (by omega) ⟨h0,by omega⟩ (flds cs i).length k 0 (by omega) (by omega) (by omega)
 have e2:spec_l2Class.l0 k cs i 0 (sup cs i) (flds cs i)=some (clsOk cs i):=by
  rw [show ((0:Nat):Int)=0 from rfl] at e;rw [e,List.drop_zero];unfold clsOk clsTail;by_cases c0:i=0
  ·subst c0;rfl
  by_cases c1:i=1
  ·subst c1;rfl
  rw [if_neg c0,if_neg c1,if_neg c0,if_neg c1]
 exact e2
theorem range_all_drop (n i:Nat) (P:Nat→Bool) (h:i<n):((List.range n).drop i).all P=(P i&&((List.range n).drop (i+1)).all P):=by
  rw [List.drop_eq_getElem_cons (by simpa using h),List.all_cons];simp
theorem spec_ClassesOk_l0 {cs:Cs} (hl:cs.length≤1000) (hf:fewF cs) (d:Nat): ∀(k i:Nat),i≤cs.length→cs.length - i=d→d+1048577≤k→
  spec_ClassesOk.l0 k cs i=some (((List.range cs.length).drop i).all (fun j:Nat=>clsOk cs j)):=by
 induction d with
 |zero=>
  intro k i hi hd hk;obtain ⟨k,rfl⟩: ∃m,k=m+1:=⟨k - 1,by omega⟩;have:i=cs.length:=by omega
  subst this;simp only [spec_ClassesOk.l0]
  rw [if_neg (by omega),List.drop_of_length_le (by simp)];rfl
 | succ d ih =>
  intro k i hi hd hk;obtain ⟨k,rfl⟩: ∃m,k=m+1:=⟨k - 1,by omega⟩;simp only [spec_ClassesOk.l0]
  rw [if_pos (by omega),spec_l2Class_eq hl hf (by omega) (by omega) k (by omega),range_all_drop _ _ _ (by omega)];simp only [Option.bind_some]
  cases hq:clsOk cs i with
  |false=>simp
  |true=>
   simp only [if_true,Bool.true_and]
   rw [wrap_inc (n:=cs.length) (by omega) (by omega) (by omega),show ((i:Int)+1)=((i+1:Nat):Int) from by omega];exact ih k (i+1) (by omega) (by omega) (by omega)
theorem spec_ClassesOk_eq {cs:Cs} (hf:fewF cs) (k:Nat) (hk:2000000≤k):spec_ClassesOk.f k cs=some (csOk cs):=by
 unfold spec_ClassesOk.f csOk;rw [spec_l6In_eq];simp only [Option.bind_some,decide_eq_true_eq]
 by_cases hl:(2:Int)≤cs.length∧(cs.length:Int)≤5
 ·rw [if_pos hl, show decide (2 ≤ cs.length ∧ cs.length ≤ 5) = true from decide_eq_true (by omega)]
  have:=spec_ClassesOk_l0 (cs:=cs) (by omega) hf cs.length k 0 (by omega) (by omega) (by omega)
  rw [show ((0:Nat):Int)=0 from rfl] at this;rw [this,List.drop_zero,Bool.true_and]
 ·rw [if_neg hl,show decide (2≤cs.length∧cs.length≤5)=false from decide_eq_false (by omega),Bool.false_and]
theorem impl_fieldType_eq (cs:Cs) (t:Int) (hl:cs.length≤1000):impl_fieldType.f cs.length t=some (fldOk cs.length t):=by
 unfold impl_fieldType.f kOk fldOk;rw [if_pos (by omega)]
 congr 1
 rw [Bool.eq_iff_iff];simp only [Bool.and_eq_true,decide_eq_true_eq];omega
def clsQ (cs:Cs) (i:Int):Bool:=(decide (i≤1)||decide (0≤sup cs i∧sup cs i<i))&&(decide ((flds cs i).length≤2)&&(flds cs i).all (fldOk cs.length))
theorem impl_ClassesOk_l1 (cs:Cs) (hl:cs.length≤1000) (i:Nat) (hi:i<1000) (fs:List Int) (hf:fs.length≤2) (R:Bool) (K:Nat) (hR: ∀k,K≤k→impl_ClassesOk.l0 k cs cs cs.length ((i+1:Nat):Int)=some R) (d:Nat): ∀(k j:Nat),j≤fs.length→fs.length - j=d→K+d+1≤k→
  impl_ClassesOk.l1 k cs cs cs.length i fs fs.length j=some ((fs.drop j).all (fldOk cs.length)&&R):=by
 induction d with
 |zero=>
  intro k j hj hd hk;obtain ⟨k,rfl⟩: ∃m,k=m+1:=⟨k - 1,by omega⟩;have:j=fs.length:=by omega
  subst this;simp only [impl_ClassesOk.l1]
  rw [if_neg (by omega),List.drop_length,wrap_inc (n:=1000) (by omega) (by omega) (by omega),show ((i:Int)+1)=((i+1:Nat):Int) from by omega,hR k (by omega)];simp
 | succ d ih =>
  intro k j hj hd hk;obtain ⟨k,rfl⟩: ∃m,k=m+1:=⟨k - 1,by omega⟩;simp only [impl_ClassesOk.l1]
  rw [if_pos (by omega),if_pos (by omega),if_pos (by omega),rd_cast,impl_fieldType_eq cs _ hl,all_drop fs _ j (by omega)];simp only [Option.bind_some]
  cases hq:fldOk cs.length (fs.getD j 0) with
  |false=>simp
  |true=>
   simp only [if_true,Bool.true_and]
   rw [wrap_inc (n:=fs.length) (by omega) (by omega) (by omega),show ((j:Int)+1)=((j+1:Nat):Int) from by omega];exact ih k (j+1) (by omega) (by omega) (by omega)
theorem impl_ClassesOk_l0 (cs:Cs) (hl:cs.length≤5) (d:Nat): ∀(i:Nat),i≤cs.length→cs.length - i=d→∀k,10*d+10≤k→
  impl_ClassesOk.l0 k cs cs cs.length i=some (((List.range cs.length).drop i).all (fun j:Nat=>clsQ cs j)):=by
 induction d with
 |zero=>
  intro i hi hd k hk;obtain ⟨k,rfl⟩: ∃m,k=m+1:=⟨k - 1,by omega⟩;have:i=cs.length:=by omega
  subst this;simp only [impl_ClassesOk.l0]
  rw [if_neg (by omega),List.drop_of_length_le (by simp)];rfl
 | succ d ih =>
  intro i hi hd k hk;obtain ⟨k,rfl⟩: ∃m,k=m+1:=⟨k - 1,by omega⟩;obtain ⟨k,rfl⟩: ∃m,k=m+1:=⟨k - 1,by omega⟩;rw [range_all_drop _ _ _ (by omega)]
  have hj:impl_ClassesOk.j4 (k+1) cs cs cs.length i false (sup cs i) (flds cs i)=some (decide ((flds cs i).length≤2)&&((flds cs i).all (fldOk cs.length)&&((List.range cs.length).drop (i+1)).all (fun j:Nat=>clsQ cs j))):=by
   simp only [impl_ClassesOk.j4]
   rw [if_neg (by simp)];by_cases h2:((flds cs i).length:Int)>2
   ·rw [if_pos h2,decide_eq_false (by omega)];rfl
   ·rw [if_neg h2, decide_eq_true (show (flds cs i).length ≤ 2 by omega), Bool.true_and]
    have:=impl_ClassesOk_l1 cs (by omega) i (by omega) (flds cs i) (by omega) _ (10*d+10) (fun k hk=>ih (i+1) (by omega) (by omega) k hk) (flds cs i).length k 0 (by omega) (by omega) (by omega)
    rw [show ((0:Nat):Int)=0 from rfl,List.drop_zero] at this;exact this
  have hjt:impl_ClassesOk.j4 (k+1) cs cs cs.length i true (sup cs i) (flds cs i)=some false:=by simp [impl_ClassesOk.j4]
  simp only [impl_ClassesOk.l0]
  rw [if_pos (by omega),if_pos (by omega),if_pos (by omega)];rw [show (rd_T112 cs (i:Int)).f0=sup cs i from rfl,show (rd_T112 cs (i:Int)).f1=flds cs i from rfl];have hQ:clsQ cs i=((decide ((i:Int)≤1)||decide (0≤sup cs i∧sup cs i<i))&&(decide ((flds cs i).length≤2)&&(flds cs i).all (fldOk cs.length))):=rfl
  rw [hQ];generalize ((List.range cs.length).drop (i+1)).all (fun j:Nat=>clsQ cs j)=T at*;by_cases h1:(i:Int)>1
  ·rw [if_pos h1]
   by_cases hs:sup cs i<0
   ·rw [if_pos hs,hjt,decide_eq_false (show¬(i:Int)≤1 by omega),decide_eq_false (show¬(0≤sup cs i∧sup cs i<i) by omega)];rfl
   ·rw [if_neg hs]
    by_cases hs2:sup cs i≥i
    ·rw [decide_eq_true hs2,hjt,decide_eq_false (show¬(i:Int)≤1 by omega),decide_eq_false (show¬(0≤sup cs i∧sup cs i<i) by omega)];rfl
    ·rw [decide_eq_false hs2, hj, decide_eq_true (show (0 ≤ sup cs i ∧ sup cs i < i) by omega)]
     simp [Bool.and_assoc]
  ·rw [if_neg h1, hj, decide_eq_true (show (i : Int) ≤ 1 by omega)]
   simp [Bool.and_assoc]
theorem impl_ClassesOk_eq (cs:Cs) (k:Nat) (hk:1000≤k):impl_ClassesOk.f k cs=some (csOk cs):=by
 obtain ⟨k,rfl⟩: ∃m,k=m+1:=⟨k - 1,by omega⟩;obtain ⟨k,rfl⟩: ∃m,k=m+1:=⟨k - 1,by omega⟩;obtain ⟨k,rfl⟩: ∃m,k=m+1:=⟨k - 1,by omega⟩;unfold impl_ClassesOk.f;by_cases h2:(cs.length:Int)<2
 ·rw [if_pos h2]
  simp only [impl_ClassesOk.j0,if_true]
  unfold csOk;rw [decide_eq_false (by omega),Bool.false_and]
 rw [if_neg h2];by_cases h5:(cs.length:Int)>5
 ·rw [decide_eq_true h5]
  simp only [impl_ClassesOk.j0,if_true]
  unfold csOk;rw [decide_eq_false (by omega),Bool.false_and]
 rw [decide_eq_false h5]
 have no: ∀i:Int,0≤i→i<cs.length→clsOk cs i=false→csOk cs=false:=by
  intro i h0 h1 hc
  cases hq:csOk cs with
  |false=>rfl
  |true=>rw [csOk_at hq h0 h1] at hc;cases hc
 simp only [impl_ClassesOk.j0,Bool.false_eq_true,if_false]
 rw [if_pos (by omega)];rw [show (rd_T112 cs 0).f0=sup cs 0 from rfl,show (rd_T112 cs 0).f1=flds cs 0 from rfl];by_cases r0:sup cs 0= -1
 case neg=>
  rw [if_neg r0];simp only [impl_ClassesOk.j1,if_true]
  rw [no 0 (by omega) (by omega) (by unfold clsOk;simp [r0])]
 rw [if_pos r0];by_cases f0:flds cs 0=[]
 case neg=>
  have:(((flds cs 0).length:Int) !=0)=true:=by
   cases hq:flds cs 0 with
   |nil=>exact absurd hq f0
   |cons x t=>simp;omega
  rw [this];simp only [impl_ClassesOk.j1,if_true]
  rw [no 0 (by omega) (by omega) (by unfold clsOk;simp [f0])]
 rw [show (((flds cs 0).length:Int) !=0)=false by rw [f0];rfl];simp only [impl_ClassesOk.j1,Bool.false_eq_true,if_false]
 rw [if_pos (by omega)];rw [show (rd_T112 cs 1).f0=sup cs 1 from rfl,show (rd_T112 cs 1).f1=flds cs 1 from rfl];have n1: ¬(sup cs 1=0∧flds cs 1=[1])→csOk cs=false:=fun z=>no 1 (by omega) (by omega) (by unfold clsOk;rw [if_neg (by omega),if_pos rfl,decide_eq_false z,Bool.and_false])
 by_cases r1:sup cs 1=0
 case neg=>
  rw [if_neg r1];simp only [impl_ClassesOk.j2,if_true]
  rw [n1 (fun z=>r1 z.1)]
 rw [if_pos r1];by_cases l1:((flds cs 1).length:Int)=1
 case neg=>
  rw [if_neg l1];simp only [impl_ClassesOk.j2,if_true]
  rw [n1 (fun z=>l1 (by rw [z.2];rfl))]
 rw [if_pos l1,if_pos (by omega)];obtain ⟨x,hx⟩:=List.length_eq_one_iff.1 (show (flds cs 1).length=1 by omega);by_cases e1:x=1
 case neg=>
  rw [show (rd (flds cs 1) 0 !=1)=true by rw [hx];simp [rd,e1]];simp only [impl_ClassesOk.j2,if_true]
  rw [n1 (fun z=>e1 (by rw [hx] at z;simpa using z.2))]
 rw [show (rd (flds cs 1) 0 !=1)=false by rw [hx];simp [rd,e1]];simp only [impl_ClassesOk.j2,Bool.false_eq_true,if_false]
 have:=impl_ClassesOk_l0 cs (by omega) cs.length 0 (by omega) (by omega) k (by omega)
 rw [show ((0:Nat):Int)=0 from rfl,List.drop_zero] at this;rw [this]
 congr 1
 unfold csOk;rw [decide_eq_true (show 2≤cs.length∧cs.length≤5 by omega),Bool.true_and,Bool.eq_iff_iff];simp only [List.all_eq_true,List.mem_range]
 refine forall_congr' fun i=>forall_congr' fun hi=>?_
 unfold clsQ clsOk;simp only [Bool.and_eq_true,Bool.or_eq_true,decide_eq_true_eq]
 by_cases i0:(i:Int)=0
 ·rw [i0,if_pos rfl,decide_eq_true_eq,r0,f0];simp
 by_cases i1:(i:Int)=1
 ·rw [i1,if_neg (by omega),if_pos rfl,decide_eq_true_eq,r1,hx,e1];simp
 rw [if_neg i0,if_neg i1,decide_eq_true_eq]
 constructor
 ·rintro ⟨h1 | h1, h3, h4⟩
  ·omega
  ·exact ⟨h4,h1,h3⟩
 ·rintro ⟨h4, h1, h3⟩
  exact ⟨Or.inr h1,h3,h4⟩
theorem mem_map1 (W:List Int) (v:Int):v∈W.map (· +1)↔v - 1∈W:=by
 rw [List.mem_map]
 constructor
 ·rintro ⟨a,ha,rfl⟩;rw [show a+1 - 1=a by omega];exact ha
 ·intro h;exact ⟨v - 1,h,by omega⟩
theorem map1_sorted {W:List Int} (h:W.Pairwise (· < ·)):(W.map (· +1)).Pairwise (· < ·):=by
  rw [List.pairwise_map];exact h.imp (fun hab=>by omega)
theorem has_eq {cs:Cs} {ws W:List Int} (hw:Wlk cs ws W) (m:Mm) (hm:m.begins=W.map (· +1)) (v:Int): ∀q,300≤q→memory_has.f q m v=some (decide (v - 1∈W)):=by
 intro q hq;have hl:=hw.len;obtain ⟨p,_,h,_,_⟩:=search_eq (map1_sorted hw.srt) (by rw [List.length_map];omega) v;unfold memory_has.f;rw [hm,h q (by rw [List.length_map];omega),Option.bind_some];simp only [mem_map1]
theorem wlk_range {cs:Cs} {ws W:List Int} (hw:Wlk cs ws W) {x:Int} (hx:x∈W):0≤x∧x<ws.length:=by
  obtain ⟨e,h1,h2,h3,_⟩:=hw.mem x hx;omega
theorem lead_eq {cs:Cs} {ws W:List Int} (hw:Wlk cs ws W) (hn:ws.length≤1048576) (v:Int):spec_l21Lead.f (startsL W ws.length) v=some (decide (v=0)||decide (v - 1∈W)):=by
 unfold spec_l21Lead.f;by_cases c0:v=0
 ·rw [if_pos c0,decide_eq_true c0];rfl
 rw [if_neg c0,spec_l6In_eq,startsL_len,decide_eq_false c0,Bool.false_or];simp only [Option.bind_some,decide_eq_true_eq]
 by_cases c1:1≤v∧v≤(ws.length:Int)
 ·rw [if_pos c1,wrap64_of (n:=v - 1) (by omega) (by omega),if_pos (by omega),if_pos (by omega),startsL_at W ws.length (by omega) (by omega)]
 ·rw [if_neg c1,decide_eq_false (fun hv=>c1 (by have:=wlk_range hw hv;omega))]
theorem word_eq {cs:Cs} {ws:List Int} {y t o:Int} {cards:List Bool} (hb:Bnd cs ws y t o cards) {W:List Int} (hw:Wlk cs ws W) (m:Mm) (hm:m=⟨ws,y,t,o,cards,allF cs,W.map (· +1)⟩)
  {x hd cnt c:Int} (h0:0≤x) (hhd:hd=1∨hd=2) (hcn:0≤cnt) (hsz:x+hd+cnt≤ws.length) (hfi:thing_first.f m (x+1)=some (x+hd)) (hle: ∀k,0≤k→k<cnt→thing_leads.f m (x+1) k=some (ldB cs c k))
  (R:List Bool) (hR:R=refsL cs c hd (hd+cnt)) {k:Int} (k0:0≤k) (k1:k<cnt):
  ∃b,(∀q,300≤q→wordAt q m (x+1) k=some b)∧∀κ:Nat,spec_l21Thing.l0 (κ+2) (startsL W ws.length) x R (hd+k) ws y t o cards=if b=true then spec_l21Thing.l0 κ (startsL W ws.length) x R (hd+k+1) ws y t o cards else some false:=by
 have n0:=hb.n0;have n1:=hb.n1;have y0:=hb.y0;have y1:=hb.y1;have cd:=hb.cd;have hRl:(R.length:Int)=hd+cnt:=by rw [hR];unfold refsL;rw [List.length_map,List.length_range];omega
 have hRk:rdOf false R (hd+k)=ldB cs c k:=by rw [hR,refsL_at cs c hd (hd+cnt) (by omega) (by omega) (by omega),show hd+k - hd=k by omega]
 obtain ⟨v,hv⟩: ∃v,v=rd ws (x+(hd+k)):=⟨_,rfl⟩;have hmw:m.words=ws:=by rw [hm]
 have hA: ∀q,wordAt q m (x+1) k=if ldB cs c k=true then (if v=0 then some true else (memory_has.f q m v).bind fun h=>if h=true then cardOk m (x+1) v (x+(hd+k)) else some false) else impl_isWord.f v:=fun q=>by
  unfold wordAt;rw [hfi,Option.bind_some,hmw,if_pos (by omega),hle k k0 k1,Option.bind_some,show x+hd+k=x+(hd+k) by omega,←hv]
 have w1:wrap64 (x+(hd+k))=x+(hd+k):=wrap64_of (by omega) (by omega)
 have w2:wrap64 (hd+k+1)=hd+k+1:=wrap64_of (by omega) (by omega)
 have hB: ∀κ:Nat,spec_l21Thing.l0 (κ+2) (startsL W ws.length) x R (hd+k) ws y t o cards=if ldB cs c k=true then spec_l21Thing.j1 (κ+1) (startsL W ws.length) x R (hd+k) v (!(decide (v=0)||decide (v - 1∈W))) ws y t o cards else spec_l21Thing.j1 (κ+1) (startsL W ws.length) x R (hd+k) v (!(decide (-128≤v∧v≤127))) ws y t o cards:=fun κ=>by
  rw [spec_l21Thing.l0,if_pos (by omega),w1,if_pos (by omega),if_pos (by omega),if_pos (by omega),hRk,←hv,lead_eq hw (by omega)];simp only [Option.bind_some]
  by_cases c0:ldB cs c k=true
  ·rw [if_pos c0, if_pos c0]
   cases (decide (v=0)||decide (v - 1∈W))<;>rfl
  ·rw [if_neg c0, if_neg c0]
   unfold spec_l1Word.f;rw [spec_l6In_eq];rfl
 have hJ: ∀(κ:Nat) (bad:Bool),spec_l21Thing.j1 (κ+1) (startsL W ws.length) x R (hd+k) v bad ws y t o cards=if bad=true then some false else (if ldB cs c k=true then (if x≥y then (if 1≤v∧v≤y then (if rdOf false cards ((x+(hd+k) - y)/4)=true then spec_l21Thing.l0 κ (startsL W ws.length) x R (hd+k+1) ws y t o cards else some false) else spec_l21Thing.l0 κ (startsL W ws.length) x R (hd+k+1) ws y t o cards) else spec_l21Thing.l0 κ (startsL W ws.length) x R (hd+k+1) ws y t o cards) else spec_l21Thing.l0 κ (startsL W ws.length) x R (hd+k+1) ws y t o cards):=fun κ bad=>by
  rw [spec_l21Thing.j1,w2,w1]
  cases bad with
  |true=>rw [if_pos rfl,if_pos rfl]
  | false =>
   simp only [Bool.false_eq_true,if_false]
   rw [if_pos (show 0≤hd+k by omega),if_pos (show hd+k<(R.length:Int) by omega),hRk];by_cases c0:ldB cs c k=true
   ·rw [if_pos c0, if_pos c0]
    by_cases c1:x≥y
    ·rw [if_pos c1, if_pos c1, spec_l6In_eq]
     simp only [Option.bind_some,decide_eq_true_eq]
     by_cases c2:1≤v∧v≤y
     ·rw [if_pos c2,if_pos c2,wrap64_of (n:=x+(hd+k) - y) (by omega) (by omega),Int.tdiv_eq_ediv_of_nonneg (by omega),wrap64_of (n:=(x+(hd+k) - y)/4) (by omega) (by omega),if_pos (by omega),if_pos (by omega)]
     ·rw [if_neg c2,if_neg c2]
    ·rw [if_neg c1,if_neg c1]
   ·rw [if_neg c0,if_neg c0]
 by_cases c0:ldB cs c k=true
 case neg=>
  refine ⟨decide (-128≤v∧v≤127),fun q hq=>?_,fun κ=>?_⟩
  ·rw [hA, if_neg c0]
   unfold impl_isWord.f;by_cases z:v≥ -128
   ·rw [if_pos z];simp [show -128≤v from z]
   ·rw [if_neg z];simp [show¬ -128≤v from z]
  ·rw [hB, if_neg c0, hJ, if_neg c0]
   cases decide (-128≤v∧v≤127)<;>rfl
 case pos=>
 by_cases c1:v=0
 ·refine ⟨true, fun q hq => by rw [hA, if_pos c0, if_pos c1], fun κ => ?_⟩
  rw [hB,if_pos c0,hJ,decide_eq_true c1,if_pos c0];rw [if_neg (by simp),if_pos rfl];by_cases c2:x≥y
  ·rw [if_pos c2,if_neg (by omega)]
  ·rw [if_neg c2]
 have hq0:=has_eq hw m (by rw [hm]) v;by_cases c2:v - 1∈W
 case neg=>
  refine ⟨false,fun q hq=>by rw [hA,if_pos c0,if_neg c1,hq0 q hq,decide_eq_false c2];rfl,fun κ=>?_⟩;rw [hB,if_pos c0,hJ,decide_eq_false c1,decide_eq_false c2];rfl
 case pos=>
 have hvr:=wlk_range hw c2
 have hA2: ∀q,300≤q→wordAt q m (x+1) k=cardOk m (x+1) v (x+(hd+k)):=fun q hq=>by
  rw [hA,if_pos c0,if_neg c1,hq0 q hq,decide_eq_true c2];rfl
 have hB2: ∀κ:Nat,spec_l21Thing.l0 (κ+2) (startsL W ws.length) x R (hd+k) ws y t o cards=(if x≥y then (if 1≤v∧v≤y then (if rdOf false cards ((x+(hd+k) - y)/4)=true then spec_l21Thing.l0 κ (startsL W ws.length) x R (hd+k+1) ws y t o cards else some false) else spec_l21Thing.l0 κ (startsL W ws.length) x R (hd+k+1) ws y t o cards) else spec_l21Thing.l0 κ (startsL W ws.length) x R (hd+k+1) ws y t o cards):=fun κ=>by
  rw [hB,if_pos c0,hJ,decide_eq_true c2,if_pos c0];rw [if_neg (by simp)]
 have hC:cardOk m (x+1) v (x+(hd+k))=if x≥y then (if 1≤v∧v≤y then some (rdOf false cards ((x+(hd+k) - y)/4)) else some true) else some true:=by
  unfold cardOk;rw [hm];show (if x+1>y then (if v>y then some true else (if 0≤wrap64 (Int.tdiv (wrap64 (x+(hd+k) - y)) 4)∧wrap64 (Int.tdiv (wrap64 (x+(hd+k) - y)) 4)<(cards.length:Int) then some (rdOf false cards (wrap64 (Int.tdiv (wrap64 (x+(hd+k) - y)) 4))) else none)) else some true)=_
  by_cases z1:x≥y
  ·rw [if_pos (show x + 1 > y by omega), if_pos z1]
   by_cases z2:v>y
   ·rw [if_pos z2,if_neg (by omega)]
   ·rw [if_neg z2,if_pos (show 1≤v∧v≤y by omega),wrap64_of (n:=x+(hd+k) - y) (by omega) (by omega),Int.tdiv_eq_ediv_of_nonneg (by omega),wrap64_of (n:=(x+(hd+k) - y)/4) (by omega) (by omega),if_pos (by omega)]
  ·rw [if_neg (show¬x+1>y by omega),if_neg z1]
 by_cases z1:x≥y
 ·by_cases z2 : 1 ≤ v ∧ v ≤ y
  ·refine ⟨rdOf false cards ((x+(hd+k) - y)/4),fun q hq=>by rw [hA2 q hq,hC,if_pos z1,if_pos z2],fun κ=>by rw [hB2,if_pos z1,if_pos z2]⟩
  ·exact ⟨true,fun q hq=>by rw [hA2 q hq,hC,if_pos z1,if_neg z2],fun κ=>by rw [hB2,if_pos z1,if_neg z2,if_pos rfl]⟩
 ·exact ⟨true,fun q hq=>by rw [hA2 q hq,hC,if_neg z1],fun κ=>by rw [hB2,if_neg z1,if_pos rfl]⟩
theorem thing_eq {cs:Cs} {ws:List Int} {y t o:Int} {cards:List Bool} (hb:Bnd cs ws y t o cards) {W:List Int} (hw:Wlk cs ws W) (m:Mm) (hm:m=⟨ws,y,t,o,cards,allF cs,W.map (· +1)⟩) {x:Int} (hx:x∈W):
  ∃b,(∀q,300≤q→wordsOk.f q m (x+1)=some b)∧∀k,200≤k→spec_l21Thing.f k cs ws y t o cards (startsL W ws.length) x=some b:=by
 obtain ⟨c,hd,cnt,hc,h0,hhd,hcn,hcn8,hsz,hco,hfi,hhe,hl21,hle,hcc⟩:=thing_facts hb hw m hm hx;have n0:=hb.n0;have n1:=hb.n1;have y0:=hb.y0;have y1:=hb.y1
 have key: ∀d:Nat,∀k:Int,0≤k→k+d=cnt→∃b,(∀q,300≤q→∀j:Nat,d+1≤j→wordsOk.l q m (x+1) cnt j k=some b)∧∀κ:Nat,2*d+1≤κ→spec_l21Thing.l0 κ (startsL W ws.length) x (refsL cs c hd (hd+cnt)) (hd+k) ws y t o cards=some b:=by
  intro d
  induction d with
  | zero =>
   intro k k0 kd;refine ⟨true,fun q hq j hj=>?_,fun κ hκ=>?_⟩
   ·obtain ⟨j, rfl⟩ : ∃ i, j = i + 1 := ⟨j - 1, by omega⟩
    rw [wordsOk.l,if_neg (by omega)]
   ·obtain ⟨κ, rfl⟩ : ∃ i, κ = i + 1 := ⟨κ - 1, by omega⟩
    have hRl:((refsL cs c hd (hd+cnt)).length:Int)=hd+cnt:=by unfold refsL;rw [List.length_map,List.length_range];omega
    rw [spec_l21Thing.l0,if_neg (by omega)]
  | succ d ih =>
   intro k k0 kd;obtain ⟨b,hb1,hb2⟩:=word_eq hb hw m hm h0 hhd hcn hsz hfi hle _ rfl k0 (show k<cnt by omega);obtain ⟨b',h1,h2⟩:=ih (k+1) (by omega) (by omega)
   cases b with
   | true =>
    refine ⟨b',fun q hq j hj=>?_,fun κ hκ=>?_⟩
    ·obtain ⟨j, rfl⟩ : ∃ i, j = i + 1 := ⟨j - 1, by omega⟩
     rw [wordsOk.l,if_pos (by omega),hb1 q hq,Option.bind_some,if_pos rfl];exact h1 q hq j (by omega)
    ·obtain ⟨κ, rfl⟩ : ∃ i, κ = i + 2 := ⟨κ - 2, by omega⟩
     rw [hb2 κ,if_pos rfl,show hd+k+1=hd+(k+1) by omega];exact h2 κ (by omega)
   | false =>
    refine ⟨false,fun q hq j hj=>?_,fun κ hκ=>?_⟩
    ·obtain ⟨j, rfl⟩ : ∃ i, j = i + 1 := ⟨j - 1, by omega⟩
     rw [wordsOk.l,if_pos (by omega),hb1 q hq,Option.bind_some,if_neg (by simp)]
    ·obtain ⟨κ, rfl⟩ : ∃ i, κ = i + 2 := ⟨κ - 2, by omega⟩
     rw [hb2 κ,if_neg (by simp)]
 obtain ⟨b,h1,h2⟩:=key cnt.toNat 0 (by omega) (by omega);refine ⟨b,fun q hq=>?_,fun k hk=>?_⟩
 ·unfold wordsOk.f
  rw [hco,Option.bind_some,if_pos (by omega)];exact h1 q hq _ (by omega)
 ·unfold spec_l21Thing.f spec_l21Refs.f
  rw [hl21 k (by omega)];simp only [Option.bind_some]
  rw [if_pos (by omega),if_pos (by omega),if_pos h0,if_pos (by omega),←hc,hhe];simp only [Option.bind_some]
  have hr:=refs_l0 (cs:=cs) hb.ok (c:=c) (hd:=hd) (s:=(hd+cnt).toNat) (by omega) hhd (by rcases hcc with z|z|z;exact Or.inl z;exact Or.inr (Or.inl z);exact Or.inr (Or.inr ⟨z.1,z.2.1,z.2.2.1,by omega⟩)) cnt.toNat k hd.toNat (List.replicate (hd+cnt).toNat false) (by omega) (by omega) (by omega) (by simp) (fun i hi=>by
   rw [decide_eq_false (show¬(hd≤(i:Int)∧i<hd.toNat) by omega)]
   simp [List.getD_eq_getElem?_getD,hi])
  rw [show ((hd.toNat:Nat):Int)=hd by omega] at hr;rw [hr];simp only [Option.bind_some]
  rw [if_pos (by omega),if_pos (by omega)];have:=h2 k (by omega)
  rw [show hd+0=hd by omega,show ((hd+cnt).toNat:Int)=hd+cnt by omega] at*;exact this
end Go.Proofs.Ytnlieahdakafbaa.Pure
