import Derived.Test.YtnlieahdakafbaaPc24
import Derived.Test.YtnlieahdakafbaaPc29
import Derived.Test.YtnlieahdakafbaaPc26
import Derived.Test.YtnlieahdakafbaaPc27
import Derived.Test.YtnlieahdakafbaaPc28
namespace Go.Proofs.Ytnlieahdakafbaa.K
open Go.RowKit Go.Proofs.YtnlieahdakafbaaW.PrintWords Go.Proofs.YtnlieahdakafbaaW.PrintLast Go.Proofs.YtnlieahdakafbaaW.PrintMore
attribute [local go_sem] max2_int min2_int max_two min_two max_three min_three max_four min_four
set_option linter.unusedVariables false
set_option linter.unusedSimpArgs false
def cardOk (m:Mm) (at_ v x:Int):Option Bool:=if at_>m.young then (if v>m.young then some true else (if 0≤wrap64 (Int.tdiv (wrap64 (x - m.young)) 4)∧wrap64 (Int.tdiv (wrap64 (x - m.young)) 4)<m.cards.length then some (rdOf false m.cards (wrap64 (Int.tdiv (wrap64 (x - m.young)) 4))) else none)) else some true
def wordAt (q:Nat) (m:Mm) (at_ k:Int):Option Bool:=(thing_first.f m at_).bind fun a=>if 0≤a+k∧a+k<m.words.length then (thing_leads.f m at_ k).bind fun b=>if b=true then (if rd m.words (a+k)=0 then some true else (memory_has.f q m (rd m.words (a+k))).bind fun h=>if h=true then cardOk m at_ (rd m.words (a+k)) (a+k) else some false) else impl_isWord.f (rd m.words (a+k)) else none
def wordsOk.l (q:Nat) (m:Mm) (at_ n:Int):Nat→Int→Option Bool
  |0,_=>none
  |j+1,k=>if k<n then (wordAt q m at_ k).bind fun ok=>if ok=true then wordsOk.l q m at_ n j (k+1) else some false else some true
def wordsOk.f (q:Nat) (m:Mm) (at_:Int):Option Bool:=(thing_count.f m at_).bind fun n=>if n≤1099511627776 then wordsOk.l q m at_ n (n.toNat+1) 0 else none
set_option maxHeartbeats 32000000 in
set_option maxRecDepth 100000 in
theorem thing_wordsOk.calls (q g : Nat) (m : Mm) (at_ : Int) (r : Bool) (w : World) (hm : MV w g m) (h : wordsOk.f q m at_ = some r) :
  Calls Try.prog 70 #[thV g at_] w fun e w'=>e= .returned (.bool r)∧Below w.heap.size w w':=by
 unfold wordsOk.f at h;obtain ⟨n,hn,h⟩:=Option.bind_eq_some_iff.mp h
 split at h
 case isFalse=>simp at h
 case isTrue hn2=>
 have HN:=aK hn;have HM:=aK hm;have HA:=aK h;have HN2:=aK hn2;clear hm hn h hn2;unfold thV;go_enter Try.func70,Try.ntmps70
 go_wp2_with fail
 go_at_call 71;refine (thing_count.calls g m at_ n _ (MV_below HM.out (below_alloc (Below.refl _ _) _)) HN.out).mono ?_;rintro e w1 ⟨rfl,hb⟩;have HB1:=aK (below_step (below_alloc (Below.refl _ _) _) hb:Below w.heap.size w w1);have HX1:=aK (box_new hb);clear hb;go_wp2
 go_loopw [8] (fun i wr=> ∃(j:Nat) (k:Int),i= .int .i64 k∧Aside0 (wordsOk.l q m at_ n j k=some r)∧Aside0 (0≤k)∧Aside0 (wr.heap[w.heap.size]? =some (.cells #[.pointer (some ⟨g,0,none⟩),.int .i64 at_] 86 (0,0)))∧Aside0 (Below w.heap.size w wr)) (fun i _=>(n - intOf i).toNat)
 case atStart=>exact ⟨n.toNat+1,0,rfl,HA,⟨Int.le_refl _⟩,HX1,HB1⟩
 case round =>
  clear HA HX1 HB1;obtain ⟨j,k,rfl,HA,HK,HX,HB⟩:=hrel
  cases j with
  |zero=>exact absurd HA.out (by simp [wordsOk.l])
  | succ j1 =>
   have H:=HA.out;clear HA;unfold wordsOk.l at H;by_cases c0:k<n
   case neg=>
    rw [if_neg c0] at H;have d0:decide (k<n)=false:=decide_eq_false c0
    have HR:=aK (Option.some.inj H);clear H c0;go_wp2;go_ret;exact ⟨by rw [←HR.out];rfl,HB.out⟩
   case pos =>
    rw [if_pos c0] at H;have d0:decide (k<n)=true:=decide_eq_true c0
    obtain ⟨ok,hk,H⟩:=Option.bind_eq_some_iff.mp H;unfold wordAt at hk;obtain ⟨a,ha,hk⟩:=Option.bind_eq_some_iff.mp hk
    split at hk
    case isFalse=>simp at hk
    case isTrue hx=>
    obtain ⟨b,hb,hk⟩:=Option.bind_eq_some_iff.mp hk;have lf:=thing_first_lt ha;have HFi:=aK ha;have HLe:=aK hb;obtain ⟨x,hx0⟩: ∃x,x=a+k:=⟨_,rfl⟩;have q1:IntKind.i64.wrap (a+k)=x:=by rw [hx0];exact IntWalk.i64_in _ ⟨by omega,by omega⟩
    rw [←hx0] at hk hx;obtain ⟨v,hv⟩: ∃v,v=rd m.words x:=⟨_,rfl⟩;rw [←hv] at hk;have HV:=aK hv;have p1:=eq_true hx.1;have p2:=eq_true hx.2;have HXw:=aK (show x<(m.words.length:Int)∧0≤x from ⟨hx.2,hx.1⟩);have HLf:=aK lf;have HC0:=aK c0;obtain ⟨k1,hk1⟩: ∃k1,k1=k+1:=⟨_,rfl⟩;have q2:IntKind.i64.wrap (k+1)=k1:=by rw [hk1];exact IntWalk.i64_in _ ⟨by have:=HK.out;omega,by have:=HN2.out;omega⟩
    have HK1:=aK hk1;rw [←hk1] at H;have HH:=aK H;have HQ:=aK hk;clear ha hb hx0 hx hv lf c0 hk1 H hk
    cases b with
    | false =>
     have hq:=HQ.out;rw [if_neg (by simp)] at hq;have HQ2:=aK hq;clear hq HQ
     cases ok with
     |false=>
      have HZ:=aK (show false=r by have:=HH.out;rw [if_neg (by simp)] at this;exact Option.some.inj this);clear HH;have b0:=(blk_cell HX.out 0).trans rfl;have b1:=(blk_cell HX.out 1).trans rfl
      go_wp2_with fail
      go_at_call 72;refine (thing_first.calls g m at_ a _ (MV_below HM.out HB.out) HFi.out).mono ?_;rintro e w2 ⟨rfl,hb⟩;clear b0 b1;have HBn:=aK (below_step HB.out hb);have HXn:=aK ((hb.block _ (blk_lt HX.out)).trans HX.out);clear hb HB HX;have HB:=HBn;have HX:=HXn;clear HBn HXn;have b0:=(blk_cell HX.out 0).trans rfl;have b1:=(blk_cell HX.out 1).trans rfl;obtain ⟨AW,cW,AC,cC,AF,cF,AB,cB,h0,hW,hC,_⟩:=MV_below HM.out HB.out;obtain ⟨ad,e0,hcell⟩:=Kd.at_int hW x (by have:=HXw.out;omega) (by have:=HXw.out;omega)
      cases e0
      rw [←HV.out] at hcell;have g0:=(blk_cell h0 0).trans rfl;have G0:=aK h0;have HCc:=aK hC;clear h0 hW hC
      go_wp2_with fail
      go_at_call 73;refine (thing_leads.calls g m at_ k false _ (MV_below HM.out HB.out) HLe.out).mono ?_;rintro e w3 ⟨rfl,hb⟩;clear b0 b1 hcell g0;have G0n:=aK ((hb.block _ (blk_lt G0.out)).trans G0.out);have HCn:=aK (Kd.C_below HCc.out hb);clear G0 HCc;have G0:=G0n;have HCc:=HCn;clear G0n HCn;have HBn:=aK (below_step HB.out hb);have HXn:=aK ((hb.block _ (blk_lt HX.out)).trans HX.out);clear hb HB HX;have HB:=HBn;have HX:=HXn;clear HBn HXn
      go_wp2_with (go_at_call 76;refine (impl_isWord.calls v false _ HQ2.out).mono ?_;rintro e w4 ⟨rfl,hd⟩;have hb:=hd.below;have HBn:=aK (below_step HB.out hb);have HXn:=aK ((hb.block _ (blk_lt HX.out)).trans HX.out);clear hd hb HB HX;have HB:=HBn;have HX:=HXn;clear HBn HXn)
      go_ret;exact ⟨by rw [←HZ.out];rfl,HB.out⟩
     |true=>
      have HZ:=aK (show wordsOk.l q m at_ n j1 k1=some r by have:=HH.out;rw [if_pos rfl] at this;exact this);clear HH;have b0:=(blk_cell HX.out 0).trans rfl;have b1:=(blk_cell HX.out 1).trans rfl
      go_wp2_with fail
      go_at_call 72;refine (thing_first.calls g m at_ a _ (MV_below HM.out HB.out) HFi.out).mono ?_;rintro e w2 ⟨rfl,hb⟩;clear b0 b1;have HBn:=aK (below_step HB.out hb);have HXn:=aK ((hb.block _ (blk_lt HX.out)).trans HX.out);clear hb HB HX;have HB:=HBn;have HX:=HXn;clear HBn HXn;have b0:=(blk_cell HX.out 0).trans rfl;have b1:=(blk_cell HX.out 1).trans rfl;obtain ⟨AW,cW,AC,cC,AF,cF,AB,cB,h0,hW,hC,_⟩:=MV_below HM.out HB.out;obtain ⟨ad,e0,hcell⟩:=Kd.at_int hW x (by have:=HXw.out;omega) (by have:=HXw.out;omega)
      cases e0
      rw [←HV.out] at hcell;have g0:=(blk_cell h0 0).trans rfl;have G0:=aK h0;have HCc:=aK hC;clear h0 hW hC
      go_wp2_with fail
      go_at_call 73;refine (thing_leads.calls g m at_ k false _ (MV_below HM.out HB.out) HLe.out).mono ?_;rintro e w3 ⟨rfl,hb⟩;clear b0 b1 hcell g0;have G0n:=aK ((hb.block _ (blk_lt G0.out)).trans G0.out);have HCn:=aK (Kd.C_below HCc.out hb);clear G0 HCc;have G0:=G0n;have HCc:=HCn;clear G0n HCn;have HBn:=aK (below_step HB.out hb);have HXn:=aK ((hb.block _ (blk_lt HX.out)).trans HX.out);clear hb HB HX;have HB:=HBn;have HX:=HXn;clear HBn HXn
      go_wp2_with (go_at_call 76;refine (impl_isWord.calls v true _ HQ2.out).mono ?_;rintro e w4 ⟨rfl,hd⟩;have hb:=hd.below;have HBn:=aK (below_step HB.out hb);have HXn:=aK ((hb.block _ (blk_lt HX.out)).trans HX.out);clear hd hb HB HX;have HB:=HBn;have HX:=HXn;clear HBn HXn)
      go_roundw
      case rel=>exact ⟨j1,k1,rfl,HZ,⟨by have:=HK1.out;have:=HK.out;omega⟩,HX,HB⟩
      case measure=>have:=HK1.out;have:=HC0.out;have:=HK.out;show (n - k1).toNat<(n - k).toNat;omega
    | true =>
     have hq:=HQ.out;rw [if_pos rfl] at hq;by_cases c1:v=0
     ·rw [if_pos c1] at hq
      have e1:(v !=0)=false:=by rw [c1];rfl
      have HQ2:=aK (Option.some.inj hq);clear hq HQ c1;obtain rfl:=HQ2.out;have HZ:=aK (show wordsOk.l q m at_ n j1 k1=some r by have:=HH.out;rw [if_pos rfl] at this;exact this);clear HH;have b0:=(blk_cell HX.out 0).trans rfl;have b1:=(blk_cell HX.out 1).trans rfl
      go_wp2_with fail
      go_at_call 72;refine (thing_first.calls g m at_ a _ (MV_below HM.out HB.out) HFi.out).mono ?_;rintro e w2 ⟨rfl,hb⟩;clear b0 b1;have HBn:=aK (below_step HB.out hb);have HXn:=aK ((hb.block _ (blk_lt HX.out)).trans HX.out);clear hb HB HX;have HB:=HBn;have HX:=HXn;clear HBn HXn;have b0:=(blk_cell HX.out 0).trans rfl;have b1:=(blk_cell HX.out 1).trans rfl;obtain ⟨AW,cW,AC,cC,AF,cF,AB,cB,h0,hW,hC,_⟩:=MV_below HM.out HB.out;obtain ⟨ad,e0,hcell⟩:=Kd.at_int hW x (by have:=HXw.out;omega) (by have:=HXw.out;omega)
      cases e0
      rw [←HV.out] at hcell;have g0:=(blk_cell h0 0).trans rfl;have G0:=aK h0;have HCc:=aK hC;clear h0 hW hC
      go_wp2_with fail
      go_at_call 73;refine (thing_leads.calls g m at_ k true _ (MV_below HM.out HB.out) HLe.out).mono ?_;rintro e w3 ⟨rfl,hb⟩;clear b0 b1 hcell g0;have G0n:=aK ((hb.block _ (blk_lt G0.out)).trans G0.out);have HCn:=aK (Kd.C_below HCc.out hb);clear G0 HCc;have G0:=G0n;have HCc:=HCn;clear G0n HCn;have HBn:=aK (below_step HB.out hb);have HXn:=aK ((hb.block _ (blk_lt HX.out)).trans HX.out);clear hb HB HX;have HB:=HBn;have HX:=HXn;clear HBn HXn;go_wp2
      go_roundw
      case rel=>exact ⟨j1,k1,rfl,HZ,⟨by have:=HK1.out;have:=HK.out;omega⟩,HX,HB⟩
      case measure=>have:=HK1.out;have:=HC0.out;have:=HK.out;show (n - k1).toNat<(n - k).toNat;omega
     rw [if_neg c1] at hq;have e1:(v !=0)=true:=bne_iff_ne.mpr c1
     obtain ⟨h,hh,hq⟩:=Option.bind_eq_some_iff.mp hq;have HHa:=aK hh;clear hh c1 HQ
     cases h with
     |false=>
      rw [if_neg (by simp)] at hq;have HQ2:=aK (Option.some.inj hq);clear hq;obtain rfl:=HQ2.out;have HZ:=aK (show false=r by have:=HH.out;rw [if_neg (by simp)] at this;exact Option.some.inj this);clear HH;have b0:=(blk_cell HX.out 0).trans rfl;have b1:=(blk_cell HX.out 1).trans rfl
      go_wp2_with fail
      go_at_call 72;refine (thing_first.calls g m at_ a _ (MV_below HM.out HB.out) HFi.out).mono ?_;rintro e w2 ⟨rfl,hb⟩;clear b0 b1;have HBn:=aK (below_step HB.out hb);have HXn:=aK ((hb.block _ (blk_lt HX.out)).trans HX.out);clear hb HB HX;have HB:=HBn;have HX:=HXn;clear HBn HXn;have b0:=(blk_cell HX.out 0).trans rfl;have b1:=(blk_cell HX.out 1).trans rfl;obtain ⟨AW,cW,AC,cC,AF,cF,AB,cB,h0,hW,hC,_⟩:=MV_below HM.out HB.out;obtain ⟨ad,e0,hcell⟩:=Kd.at_int hW x (by have:=HXw.out;omega) (by have:=HXw.out;omega)
      cases e0
      rw [←HV.out] at hcell;have g0:=(blk_cell h0 0).trans rfl;have G0:=aK h0;have HCc:=aK hC;clear h0 hW hC
      go_wp2_with fail
      go_at_call 73;refine (thing_leads.calls g m at_ k true _ (MV_below HM.out HB.out) HLe.out).mono ?_;rintro e w3 ⟨rfl,hb⟩;clear b0 b1 hcell g0;have G0n:=aK ((hb.block _ (blk_lt G0.out)).trans G0.out);have HCn:=aK (Kd.C_below HCc.out hb);clear G0 HCc;have G0:=G0n;have HCc:=HCn;clear G0n HCn;have HBn:=aK (below_step HB.out hb);have HXn:=aK ((hb.block _ (blk_lt HX.out)).trans HX.out);clear hb HB HX;have HB:=HBn;have HX:=HXn;clear HBn HXn;have b0:=(blk_cell HX.out 0).trans rfl;have b1:=(blk_cell HX.out 1).trans rfl
      go_wp2_with (go_at_call 53;refine (memory_has.calls q g m v false _ (MV_below HM.out HB.out) HHa.out).mono ?_;rintro e w5 ⟨rfl,hd⟩;have hb:=hd.below;have HBn:=aK (below_step HB.out hb);have HXn:=aK ((hb.block _ (blk_lt HX.out)).trans HX.out);have G0n:=aK ((hb.block _ (blk_lt G0.out)).trans G0.out);have HCn:=aK (Kd.C_below HCc.out hb);clear hd hb HB HX G0 HCc b0 b1;have HB:=HBn;have HX:=HXn;have G0:=G0n;have HCc:=HCn;clear HBn HXn G0n HCn)
      go_ret;exact ⟨by rw [←HZ.out];rfl,HB.out⟩
     | true =>
      rw [if_pos rfl] at hq;unfold cardOk at hq;by_cases c2:at_>m.young
      ·rw [if_pos c2] at hq
       have O1:=aK (decide_eq_true c2);clear c2;by_cases c3:v>m.young
       ·rw [if_pos c3] at hq
        have O2:=aK (decide_eq_true c3);have HQ2:=aK (Option.some.inj hq);clear hq c3;obtain rfl:=HQ2.out;have HZ:=aK (show wordsOk.l q m at_ n j1 k1=some r by have:=HH.out;rw [if_pos rfl] at this;exact this);clear HH;have b0:=(blk_cell HX.out 0).trans rfl;have b1:=(blk_cell HX.out 1).trans rfl
        go_wp2_with fail
        go_at_call 72;refine (thing_first.calls g m at_ a _ (MV_below HM.out HB.out) HFi.out).mono ?_;rintro e w2 ⟨rfl,hb⟩;clear b0 b1;have HBn:=aK (below_step HB.out hb);have HXn:=aK ((hb.block _ (blk_lt HX.out)).trans HX.out);clear hb HB HX;have HB:=HBn;have HX:=HXn;clear HBn HXn;have b0:=(blk_cell HX.out 0).trans rfl;have b1:=(blk_cell HX.out 1).trans rfl;obtain ⟨AW,cW,AC,cC,AF,cF,AB,cB,h0,hW,hC,_⟩:=MV_below HM.out HB.out;obtain ⟨ad,e0,hcell⟩:=Kd.at_int hW x (by have:=HXw.out;omega) (by have:=HXw.out;omega)
        cases e0
        rw [←HV.out] at hcell;have g0:=(blk_cell h0 0).trans rfl;have G0:=aK h0;have HCc:=aK hC;clear h0 hW hC
        go_wp2_with fail
        go_at_call 73;refine (thing_leads.calls g m at_ k true _ (MV_below HM.out HB.out) HLe.out).mono ?_;rintro e w3 ⟨rfl,hb⟩;clear b0 b1 hcell g0;have G0n:=aK ((hb.block _ (blk_lt G0.out)).trans G0.out);have HCn:=aK (Kd.C_below HCc.out hb);clear G0 HCc;have G0:=G0n;have HCc:=HCn;clear G0n HCn;have HBn:=aK (below_step HB.out hb);have HXn:=aK ((hb.block _ (blk_lt HX.out)).trans HX.out);clear hb HB HX;have HB:=HBn;have HX:=HXn;clear HBn HXn;have b0:=(blk_cell HX.out 0).trans rfl;have b1:=(blk_cell HX.out 1).trans rfl
        go_wp2_with (go_at_call 53;refine (memory_has.calls q g m v true _ (MV_below HM.out HB.out) HHa.out).mono ?_;rintro e w5 ⟨rfl,hd⟩;have hb:=hd.below;have HBn:=aK (below_step HB.out hb);have HXn:=aK ((hb.block _ (blk_lt HX.out)).trans HX.out);have G0n:=aK ((hb.block _ (blk_lt G0.out)).trans G0.out);have HCn:=aK (Kd.C_below HCc.out hb);clear hd hb HB HX G0 HCc b0 b1;have HB:=HBn;have HX:=HXn;have G0:=G0n;have HCc:=HCn;clear HBn HXn G0n HCn;have b0:=(blk_cell HX.out 0).trans rfl;have b1:=(blk_cell HX.out 1).trans rfl;have g0:=(blk_cell G0.out 0).trans rfl;have g1:=(blk_cell G0.out 1).trans rfl;have g2:=(blk_cell G0.out 2).trans rfl;have g3:=(blk_cell G0.out 3).trans rfl;have g4:=(blk_cell G0.out 4).trans rfl;have HM1:=aK (MV_below HM.out HB.out);try clear HCc)
        refine sT 36 (S:=fun w'=>Aside0 (Below w.heap.size w w')∧Aside0 (MV w' g (m))∧Aside0 (w'.heap[w.heap.size]? =some (.cells #[.pointer (some ⟨g,0,none⟩),.int .i64 at_] 86 (0,0)))∧w'.cell? (⟨w.heap.size,0,none⟩)=some (.pointer (some ⟨g,0,none⟩))∧w'.cell? (⟨w.heap.size,1,none⟩)=some (.int .i64 at_)∧w'.cell? (⟨g,0,none⟩)=some (.slice (some ad) m.words.length cW)∧w'.cell? (⟨g,1,none⟩)=some (.int .i64 m.young)∧w'.cell? (⟨g,2,none⟩)=some (.int .i64 m.top)∧w'.cell? (⟨g,3,none⟩)=some (.int .i64 m.old)∧w'.cell? (⟨g,4,none⟩)=some (.slice AC m.cards.length cC)) (ds:=[]) ⟨⟨below_drew1 HB.out⟩,⟨MV_below HM1.out (below_drew1 (Below.refl _ _))⟩,⟨blk_drew HX.out⟩,(by go_simp),(by go_simp),(by go_simp),(by go_simp),(by go_simp),(by go_simp),(by go_simp)⟩ (fun hHeld=>?_);refine pS 0 40 (lA 36 1) ?_;refine pS 5 45 (lA 36 33) ?_;refine tS 1 41 (lA 36 35) rfl rfl (by kernel_rfl) hHeld zz44 ?_;refine pS 2 42 (lA 36 39) ?_;refine pS 3 43 (lA 36 47) ?_;refine tS 4 44 (lA 36 63) rfl rfl (by kernel_rfl) hHeld zz44 ?_;refine tS 6 46 (lA 36 127) rfl rfl (by kernel_rfl) hHeld zz44 ?_;refine oS 7 47 (lA 36 255) rfl rfl (fun K hK=>?_);refine gO Try.func74 #[.agg #[.slice (some ad) m.words.length cW,.int .i64 m.young,.int .i64 m.top,.int .i64 m.old,.slice AC m.cards.length cC],.int .i64 at_] ?_;(with_reducible refine (Mem_isOld.calls (some ad) m.words.length cW m.young m.top m.old AC m.cards.length cC at_ true _ O1.out).mono ?_);rintro e w9 ⟨rfl,hb3⟩;refine ⟨_,rfl,?_⟩;refine hK.out _ _ ⟨⟨below_step hHeld.1.out hb3⟩,⟨MV_below hHeld.2.1.out hb3⟩,⟨(hb3.block _ (blk_lt hHeld.2.2.1.out)).trans hHeld.2.2.1.out⟩,(pw_cell_below hb3 hHeld.2.2.2.1),(pw_cell_below hb3 hHeld.2.2.2.2.1),(pw_cell_below hb3 hHeld.2.2.2.2.2.1),(pw_cell_below hb3 hHeld.2.2.2.2.2.2.1),(pw_cell_below hb3 hHeld.2.2.2.2.2.2.2.1),(pw_cell_below hb3 hHeld.2.2.2.2.2.2.2.2.1),(pw_cell_below hb3 hHeld.2.2.2.2.2.2.2.2.2)⟩ (fun hHeld=>?_);clear hK K;refine nS 47 ?_;refine pS 8 48 (lA 36 511) ?_;refine pS 9 49 (lA 36 1023) ?_;refine pS 14 54 (lA 36 17407) ?_;refine tS 10 50 (lA 36 18431) rfl rfl (by kernel_rfl) hHeld zz44 ?_;refine pS 11 51 (lA 36 20479) ?_;refine pS 12 52 (lA 36 24575) ?_;refine tS 13 53 (lA 36 32767) rfl rfl (by kernel_rfl) hHeld zz44 ?_;refine oS 15 55 (lA 36 65535) rfl rfl (fun K hK=>?_);refine gO Try.func74 #[.agg #[.slice (some ad) m.words.length cW,.int .i64 m.young,.int .i64 m.top,.int .i64 m.old,.slice AC m.cards.length cC],.int .i64 v] ?_;(with_reducible refine (Mem_isOld.calls (some ad) m.words.length cW m.young m.top m.old AC m.cards.length cC v true _ O2.out).mono ?_);rintro e w9 ⟨rfl,hb3⟩;refine ⟨_,rfl,?_⟩;refine hK.out _ _ ⟨⟨below_step hHeld.1.out hb3⟩,⟨MV_below hHeld.2.1.out hb3⟩,⟨(hb3.block _ (blk_lt hHeld.2.2.1.out)).trans hHeld.2.2.1.out⟩,(pw_cell_below hb3 hHeld.2.2.2.1),(pw_cell_below hb3 hHeld.2.2.2.2.1),(pw_cell_below hb3 hHeld.2.2.2.2.2.1),(pw_cell_below hb3 hHeld.2.2.2.2.2.2.1),(pw_cell_below hb3 hHeld.2.2.2.2.2.2.2.1),(pw_cell_below hb3 hHeld.2.2.2.2.2.2.2.2.1),(pw_cell_below hb3 hHeld.2.2.2.2.2.2.2.2.2)⟩ (fun hHeld=>?_);clear hK K;refine nS 55 ?_;refine pS 16 56 (lA 36 131071) ?_;refine pS 17 57 (lA 36 262143) ?_;refine pS 18 58 (lA 36 524287) ?_;refine pU 19 59 (lA 36 1048575) ?_;refine pU 20 60 (lA 36 2097151) ?_;refine pU 21 61 (lA 36 4194303) ?_;refine pU 22 62 (lA 36 8388607) ?_;refine pU 23 63 (lA 36 16777215) ?_;refine pU 24 64 (lA 36 33554431) ?_;refine pU 25 65 (lA 36 67108863) ?_;refine pU 26 66 (lA 36 134217727) ?_;refine pU 27 67 (lA 36 268435455) ?_;refine pU 28 68 (lA 36 536870911) ?_;refine pU 29 69 (lA 36 1073741823) ?_;refine pU 30 70 (lA 36 2147483647) ?_;refine pU 31 71 (lA 36 4294967295) ?_;refine pU 32 72 (lA 36 8589934591) ?_;refine pU 33 73 (lA 36 17179869183) ?_;refine pU 34 74 (lA 36 34359738367) ?_;refine pS 35 75 (lA 36 68719476735) ?_;refine done_ (by kernel_rfl) ?_;have HBn:=hHeld.1;have HXn:=hHeld.2.2.1
        clear hHeld HB HX;have HB:=HBn;have HX:=HXn;clear HBn HXn;go_wp2
        go_roundw
        case rel=>exact ⟨j1,k1,rfl,HZ,⟨by have:=HK1.out;have:=HK.out;omega⟩,HX,HB⟩
        case measure=>have:=HK1.out;have:=HC0.out;have:=HK.out;show (n - k1).toNat<(n - k).toNat;omega
       ·rw [if_neg c3] at hq
        have O2:=aK (decide_eq_false c3);clear c3;obtain ⟨cj,hcj⟩: ∃cj,cj=wrap64 (x - m.young):=⟨_,rfl⟩;obtain ⟨ci,hci⟩: ∃ci,ci=wrap64 (Int.tdiv cj 4):=⟨_,rfl⟩;rw [←hcj,←hci] at hq;have O3:=aK (show IntKind.i64.wrap (x - m.young)=cj by rw [hcj,i64_w]);have O4:=aK (show wrap64 (Int.tdiv cj 4)=ci from hci.symm);clear hcj hci
        split at hq
        case isFalse=>simp at hq
        case isTrue ht=>
        have t1:=eq_true ht.1;have t2:=eq_true ht.2;obtain ⟨cv,hcv⟩: ∃cv,cv=rdOf false m.cards ci:=⟨_,rfl⟩;rw [←hcv] at hq;have O5:=aK hcv.symm;have HQ2:=aK (Option.some.inj hq);clear hq ht hcv;obtain rfl:=HQ2.out
        cases cv with
        |false=>
         have HZ:=aK (show false=r by have:=HH.out;rw [if_neg (by simp)] at this;exact Option.some.inj this);clear HH;have b0:=(blk_cell HX.out 0).trans rfl;have b1:=(blk_cell HX.out 1).trans rfl
         go_wp2_with fail
         go_at_call 72;refine (thing_first.calls g m at_ a _ (MV_below HM.out HB.out) HFi.out).mono ?_;rintro e w2 ⟨rfl,hb⟩;clear b0 b1;have HBn:=aK (below_step HB.out hb);have HXn:=aK ((hb.block _ (blk_lt HX.out)).trans HX.out);clear hb HB HX;have HB:=HBn;have HX:=HXn;clear HBn HXn;have b0:=(blk_cell HX.out 0).trans rfl;have b1:=(blk_cell HX.out 1).trans rfl;obtain ⟨AW,cW,AC,cC,AF,cF,AB,cB,h0,hW,hC,_⟩:=MV_below HM.out HB.out;obtain ⟨ad,e0,hcell⟩:=Kd.at_int hW x (by have:=HXw.out;omega) (by have:=HXw.out;omega)
         cases e0
         rw [←HV.out] at hcell;have g0:=(blk_cell h0 0).trans rfl;have G0:=aK h0;have HCc:=aK hC;clear h0 hW hC
         go_wp2_with fail
         go_at_call 73;refine (thing_leads.calls g m at_ k true _ (MV_below HM.out HB.out) HLe.out).mono ?_;rintro e w3 ⟨rfl,hb⟩;clear b0 b1 hcell g0;have G0n:=aK ((hb.block _ (blk_lt G0.out)).trans G0.out);have HCn:=aK (Kd.C_below HCc.out hb);clear G0 HCc;have G0:=G0n;have HCc:=HCn;clear G0n HCn;have HBn:=aK (below_step HB.out hb);have HXn:=aK ((hb.block _ (blk_lt HX.out)).trans HX.out);clear hb HB HX;have HB:=HBn;have HX:=HXn;clear HBn HXn;have b0:=(blk_cell HX.out 0).trans rfl;have b1:=(blk_cell HX.out 1).trans rfl
         go_wp2_with (go_at_call 53;refine (memory_has.calls q g m v true _ (MV_below HM.out HB.out) HHa.out).mono ?_;rintro e w5 ⟨rfl,hd⟩;have hb:=hd.below;have HBn:=aK (below_step HB.out hb);have HXn:=aK ((hb.block _ (blk_lt HX.out)).trans HX.out);have G0n:=aK ((hb.block _ (blk_lt G0.out)).trans G0.out);have HCn:=aK (Kd.C_below HCc.out hb);clear hd hb HB HX G0 HCc b0 b1;have HB:=HBn;have HX:=HXn;have G0:=G0n;have HCc:=HCn;clear HBn HXn G0n HCn;have b0:=(blk_cell HX.out 0).trans rfl;have b1:=(blk_cell HX.out 1).trans rfl;have g0:=(blk_cell G0.out 0).trans rfl;have g1:=(blk_cell G0.out 1).trans rfl;have g2:=(blk_cell G0.out 2).trans rfl;have g3:=(blk_cell G0.out 3).trans rfl;have g4:=(blk_cell G0.out 4).trans rfl;have HM1:=aK (MV_below HM.out HB.out);obtain ⟨ad4,e4,hc4⟩:=Kd.at_bool HCc.out ci (of_eq_true t1) (of_eq_true t2);cases e4;rw [O5.out] at hc4;try clear HCc)
         refine sT 36 (S:=fun w'=>Aside0 (Below w.heap.size w w')∧Aside0 (MV w' g (m))∧Aside0 (w'.heap[w.heap.size]? =some (.cells #[.pointer (some ⟨g,0,none⟩),.int .i64 at_] 86 (0,0)))∧w'.cell? (⟨w.heap.size,0,none⟩)=some (.pointer (some ⟨g,0,none⟩))∧w'.cell? (⟨w.heap.size,1,none⟩)=some (.int .i64 at_)∧w'.cell? (⟨g,0,none⟩)=some (.slice (some ad) m.words.length cW)∧w'.cell? (⟨g,1,none⟩)=some (.int .i64 m.young)∧w'.cell? (⟨g,2,none⟩)=some (.int .i64 m.top)∧w'.cell? (⟨g,3,none⟩)=some (.int .i64 m.old)∧w'.cell? (⟨g,4,none⟩)=some (.slice (some ad4) m.cards.length cC)∧w'.cell? (ad4.add ci.toNat)=some (.bool false)) (ds:=[]) ⟨⟨below_drew1 HB.out⟩,⟨MV_below HM1.out (below_drew1 (Below.refl _ _))⟩,⟨blk_drew HX.out⟩,(by go_simp),(by go_simp),(by go_simp),(by go_simp),(by go_simp),(by go_simp),(by go_simp),(by go_simp)⟩ (fun hHeld=>?_);refine pS 0 40 (lA 36 1) ?_;refine pS 5 45 (lA 36 33) ?_;refine tS 1 41 (lA 36 35) rfl rfl (by kernel_rfl) hHeld zz18 ?_;refine pS 2 42 (lA 36 39) ?_;refine pS 3 43 (lA 36 47) ?_;refine tS 4 44 (lA 36 63) rfl rfl (by kernel_rfl) hHeld zz18 ?_;refine tS 6 46 (lA 36 127) rfl rfl (by kernel_rfl) hHeld zz18 ?_;refine oS 7 47 (lA 36 255) rfl rfl (fun K hK=>?_);refine gO Try.func74 #[.agg #[.slice (some ad) m.words.length cW,.int .i64 m.young,.int .i64 m.top,.int .i64 m.old,.slice (some ad4) m.cards.length cC],.int .i64 at_] ?_;(with_reducible refine (Mem_isOld.calls (some ad) m.words.length cW m.young m.top m.old (some ad4) m.cards.length cC at_ true _ O1.out).mono ?_);rintro e w9 ⟨rfl,hb3⟩;refine ⟨_,rfl,?_⟩;refine hK.out _ _ ⟨⟨below_step hHeld.1.out hb3⟩,⟨MV_below hHeld.2.1.out hb3⟩,⟨(hb3.block _ (blk_lt hHeld.2.2.1.out)).trans hHeld.2.2.1.out⟩,(pw_cell_below hb3 hHeld.2.2.2.1),(pw_cell_below hb3 hHeld.2.2.2.2.1),(pw_cell_below hb3 hHeld.2.2.2.2.2.1),(pw_cell_below hb3 hHeld.2.2.2.2.2.2.1),(pw_cell_below hb3 hHeld.2.2.2.2.2.2.2.1),(pw_cell_below hb3 hHeld.2.2.2.2.2.2.2.2.1),(pw_cell_below hb3 hHeld.2.2.2.2.2.2.2.2.2.1),(pw_cell_below hb3 hHeld.2.2.2.2.2.2.2.2.2.2)⟩ (fun hHeld=>?_);clear hK K;refine nS 47 ?_;refine pS 8 48 (lA 36 511) ?_;refine pS 9 49 (lA 36 1023) ?_;refine pS 14 54 (lA 36 17407) ?_;refine tS 10 50 (lA 36 18431) rfl rfl (by kernel_rfl) hHeld zz18 ?_;refine pS 11 51 (lA 36 20479) ?_;refine pS 12 52 (lA 36 24575) ?_;refine tS 13 53 (lA 36 32767) rfl rfl (by kernel_rfl) hHeld zz18 ?_;refine oS 15 55 (lA 36 65535) rfl rfl (fun K hK=>?_);refine gO Try.func74 #[.agg #[.slice (some ad) m.words.length cW,.int .i64 m.young,.int .i64 m.top,.int .i64 m.old,.slice (some ad4) m.cards.length cC],.int .i64 v] ?_;(with_reducible refine (Mem_isOld.calls (some ad) m.words.length cW m.young m.top m.old (some ad4) m.cards.length cC v false _ O2.out).mono ?_);rintro e w9 ⟨rfl,hb3⟩;refine ⟨_,rfl,?_⟩;refine hK.out _ _ ⟨⟨below_step hHeld.1.out hb3⟩,⟨MV_below hHeld.2.1.out hb3⟩,⟨(hb3.block _ (blk_lt hHeld.2.2.1.out)).trans hHeld.2.2.1.out⟩,(pw_cell_below hb3 hHeld.2.2.2.1),(pw_cell_below hb3 hHeld.2.2.2.2.1),(pw_cell_below hb3 hHeld.2.2.2.2.2.1),(pw_cell_below hb3 hHeld.2.2.2.2.2.2.1),(pw_cell_below hb3 hHeld.2.2.2.2.2.2.2.1),(pw_cell_below hb3 hHeld.2.2.2.2.2.2.2.2.1),(pw_cell_below hb3 hHeld.2.2.2.2.2.2.2.2.2.1),(pw_cell_below hb3 hHeld.2.2.2.2.2.2.2.2.2.2)⟩ (fun hHeld=>?_);clear hK K;refine nS 55 ?_;refine pS 16 56 (lA 36 131071) ?_;refine pS 17 57 (lA 36 262143) ?_;refine pS 18 58 (lA 36 524287) ?_;refine pS 19 59 (lA 36 1048575) ?_;refine pS 25 65 (lA 36 34603007) ?_;refine pS 30 70 (lA 36 1108344831) ?_;refine tS 20 60 (lA 36 1109393407) rfl rfl (by kernel_rfl) hHeld zz18 ?_;refine pS 21 61 (lA 36 1111490559) ?_;refine pS 22 62 (lA 36 1115684863) ?_;refine pS 23 63 (lA 36 1124073471) ?_;refine tS 24 64 (lA 36 1140850687) rfl rfl (by kernel_rfl) hHeld zz18 ?_;refine tS 26 66 (lA 36 1207959551) rfl rfl (by kernel_rfl) hHeld zz18 ?_;refine pS 27 67 (lA 36 1342177279) ?_
         refine pS 28 68 (lA 36 1610612735) ?_;refine tS 29 69 (lA 36 2147483647) rfl rfl (by kernel_rfl) hHeld zz18 ?_;refine oS 31 71 (lA 36 4294967295) rfl rfl (fun K hK=>?_);refine gO Try.func75 #[.agg #[.slice (some ad) m.words.length cW,.int .i64 m.young,.int .i64 m.top,.int .i64 m.old,.slice (some ad4) m.cards.length cC],.int .i64 x] ?_;(with_reducible refine (Mem_card.calls (some ad) m.words.length cW m.young m.top m.old (some ad4) m.cards.length cC x cj ci _ O3.out O4.out).mono ?_);rintro e w9 ⟨rfl,hb3⟩;refine ⟨_,rfl,?_⟩;refine hK.out _ _ ⟨⟨below_step hHeld.1.out hb3⟩,⟨MV_below hHeld.2.1.out hb3⟩,⟨(hb3.block _ (blk_lt hHeld.2.2.1.out)).trans hHeld.2.2.1.out⟩,(pw_cell_below hb3 hHeld.2.2.2.1),(pw_cell_below hb3 hHeld.2.2.2.2.1),(pw_cell_below hb3 hHeld.2.2.2.2.2.1),(pw_cell_below hb3 hHeld.2.2.2.2.2.2.1),(pw_cell_below hb3 hHeld.2.2.2.2.2.2.2.1),(pw_cell_below hb3 hHeld.2.2.2.2.2.2.2.2.1),(pw_cell_below hb3 hHeld.2.2.2.2.2.2.2.2.2.1),(pw_cell_below hb3 hHeld.2.2.2.2.2.2.2.2.2.2)⟩ (fun hHeld=>?_);clear hK K;refine nS 71 ?_;refine pS 32 72 (lA 36 8589934591) ?_;refine tS 33 73 (lA 36 17179869183) rfl rfl (by kernel_rfl) hHeld zz18 ?_;refine pS 34 74 (lA 36 34359738367) ?_;refine pS 35 75 (lA 36 68719476735) ?_;refine done_ (by kernel_rfl) ?_;have HBn:=hHeld.1;have HXn:=hHeld.2.2.1;clear hHeld HB HX;have HB:=HBn;have HX:=HXn;clear HBn HXn;go_wp2;go_ret;exact ⟨by rw [←HZ.out];rfl,HB.out⟩
        |true=>
         have HZ:=aK (show wordsOk.l q m at_ n j1 k1=some r by have:=HH.out;rw [if_pos rfl] at this;exact this);clear HH;have b0:=(blk_cell HX.out 0).trans rfl;have b1:=(blk_cell HX.out 1).trans rfl
         go_wp2_with fail
         go_at_call 72;refine (thing_first.calls g m at_ a _ (MV_below HM.out HB.out) HFi.out).mono ?_;rintro e w2 ⟨rfl,hb⟩;clear b0 b1;have HBn:=aK (below_step HB.out hb);have HXn:=aK ((hb.block _ (blk_lt HX.out)).trans HX.out);clear hb HB HX;have HB:=HBn;have HX:=HXn;clear HBn HXn;have b0:=(blk_cell HX.out 0).trans rfl;have b1:=(blk_cell HX.out 1).trans rfl;obtain ⟨AW,cW,AC,cC,AF,cF,AB,cB,h0,hW,hC,_⟩:=MV_below HM.out HB.out;obtain ⟨ad,e0,hcell⟩:=Kd.at_int hW x (by have:=HXw.out;omega) (by have:=HXw.out;omega)
         cases e0
         rw [←HV.out] at hcell;have g0:=(blk_cell h0 0).trans rfl;have G0:=aK h0;have HCc:=aK hC;clear h0 hW hC
         go_wp2_with fail
         go_at_call 73;refine (thing_leads.calls g m at_ k true _ (MV_below HM.out HB.out) HLe.out).mono ?_;rintro e w3 ⟨rfl,hb⟩;clear b0 b1 hcell g0;have G0n:=aK ((hb.block _ (blk_lt G0.out)).trans G0.out);have HCn:=aK (Kd.C_below HCc.out hb);clear G0 HCc;have G0:=G0n;have HCc:=HCn;clear G0n HCn;have HBn:=aK (below_step HB.out hb);have HXn:=aK ((hb.block _ (blk_lt HX.out)).trans HX.out);clear hb HB HX;have HB:=HBn;have HX:=HXn;clear HBn HXn;have b0:=(blk_cell HX.out 0).trans rfl;have b1:=(blk_cell HX.out 1).trans rfl
         go_wp2_with (go_at_call 53;refine (memory_has.calls q g m v true _ (MV_below HM.out HB.out) HHa.out).mono ?_;rintro e w5 ⟨rfl,hd⟩;have hb:=hd.below;have HBn:=aK (below_step HB.out hb);have HXn:=aK ((hb.block _ (blk_lt HX.out)).trans HX.out);have G0n:=aK ((hb.block _ (blk_lt G0.out)).trans G0.out);have HCn:=aK (Kd.C_below HCc.out hb);clear hd hb HB HX G0 HCc b0 b1;have HB:=HBn;have HX:=HXn;have G0:=G0n;have HCc:=HCn;clear HBn HXn G0n HCn;have b0:=(blk_cell HX.out 0).trans rfl;have b1:=(blk_cell HX.out 1).trans rfl;have g0:=(blk_cell G0.out 0).trans rfl;have g1:=(blk_cell G0.out 1).trans rfl;have g2:=(blk_cell G0.out 2).trans rfl;have g3:=(blk_cell G0.out 3).trans rfl;have g4:=(blk_cell G0.out 4).trans rfl;have HM1:=aK (MV_below HM.out HB.out);obtain ⟨ad4,e4,hc4⟩:=Kd.at_bool HCc.out ci (of_eq_true t1) (of_eq_true t2);cases e4;rw [O5.out] at hc4;try clear HCc)
         refine sT 36 (S:=fun w'=>Aside0 (Below w.heap.size w w')∧Aside0 (MV w' g (m))∧Aside0 (w'.heap[w.heap.size]? =some (.cells #[.pointer (some ⟨g,0,none⟩),.int .i64 at_] 86 (0,0)))∧w'.cell? (⟨w.heap.size,0,none⟩)=some (.pointer (some ⟨g,0,none⟩))∧w'.cell? (⟨w.heap.size,1,none⟩)=some (.int .i64 at_)∧w'.cell? (⟨g,0,none⟩)=some (.slice (some ad) m.words.length cW)∧w'.cell? (⟨g,1,none⟩)=some (.int .i64 m.young)∧w'.cell? (⟨g,2,none⟩)=some (.int .i64 m.top)∧w'.cell? (⟨g,3,none⟩)=some (.int .i64 m.old)∧w'.cell? (⟨g,4,none⟩)=some (.slice (some ad4) m.cards.length cC)∧w'.cell? (ad4.add ci.toNat)=some (.bool true)) (ds:=[]) ⟨⟨below_drew1 HB.out⟩,⟨MV_below HM1.out (below_drew1 (Below.refl _ _))⟩,⟨blk_drew HX.out⟩,(by go_simp),(by go_simp),(by go_simp),(by go_simp),(by go_simp),(by go_simp),(by go_simp),(by go_simp)⟩ (fun hHeld=>?_);refine pS 0 40 (lA 36 1) ?_;refine pS 5 45 (lA 36 33) ?_;refine tS 1 41 (lA 36 35) rfl rfl (by kernel_rfl) hHeld zz18 ?_;refine pS 2 42 (lA 36 39) ?_;refine pS 3 43 (lA 36 47) ?_;refine tS 4 44 (lA 36 63) rfl rfl (by kernel_rfl) hHeld zz18 ?_;refine tS 6 46 (lA 36 127) rfl rfl (by kernel_rfl) hHeld zz18 ?_;refine oS 7 47 (lA 36 255) rfl rfl (fun K hK=>?_);refine gO Try.func74 #[.agg #[.slice (some ad) m.words.length cW,.int .i64 m.young,.int .i64 m.top,.int .i64 m.old,.slice (some ad4) m.cards.length cC],.int .i64 at_] ?_;(with_reducible refine (Mem_isOld.calls (some ad) m.words.length cW m.young m.top m.old (some ad4) m.cards.length cC at_ true _ O1.out).mono ?_);rintro e w9 ⟨rfl,hb3⟩;refine ⟨_,rfl,?_⟩;refine hK.out _ _ ⟨⟨below_step hHeld.1.out hb3⟩,⟨MV_below hHeld.2.1.out hb3⟩,⟨(hb3.block _ (blk_lt hHeld.2.2.1.out)).trans hHeld.2.2.1.out⟩,(pw_cell_below hb3 hHeld.2.2.2.1),(pw_cell_below hb3 hHeld.2.2.2.2.1),(pw_cell_below hb3 hHeld.2.2.2.2.2.1),(pw_cell_below hb3 hHeld.2.2.2.2.2.2.1),(pw_cell_below hb3 hHeld.2.2.2.2.2.2.2.1),(pw_cell_below hb3 hHeld.2.2.2.2.2.2.2.2.1),(pw_cell_below hb3 hHeld.2.2.2.2.2.2.2.2.2.1),(pw_cell_below hb3 hHeld.2.2.2.2.2.2.2.2.2.2)⟩ (fun hHeld=>?_);clear hK K;refine nS 47 ?_;refine pS 8 48 (lA 36 511) ?_;refine pS 9 49 (lA 36 1023) ?_;refine pS 14 54 (lA 36 17407) ?_;refine tS 10 50 (lA 36 18431) rfl rfl (by kernel_rfl) hHeld zz18 ?_;refine pS 11 51 (lA 36 20479) ?_;refine pS 12 52 (lA 36 24575) ?_;refine tS 13 53 (lA 36 32767) rfl rfl (by kernel_rfl) hHeld zz18 ?_;refine oS 15 55 (lA 36 65535) rfl rfl (fun K hK=>?_);refine gO Try.func74 #[.agg #[.slice (some ad) m.words.length cW,.int .i64 m.young,.int .i64 m.top,.int .i64 m.old,.slice (some ad4) m.cards.length cC],.int .i64 v] ?_;(with_reducible refine (Mem_isOld.calls (some ad) m.words.length cW m.young m.top m.old (some ad4) m.cards.length cC v false _ O2.out).mono ?_);rintro e w9 ⟨rfl,hb3⟩;refine ⟨_,rfl,?_⟩;refine hK.out _ _ ⟨⟨below_step hHeld.1.out hb3⟩,⟨MV_below hHeld.2.1.out hb3⟩,⟨(hb3.block _ (blk_lt hHeld.2.2.1.out)).trans hHeld.2.2.1.out⟩,(pw_cell_below hb3 hHeld.2.2.2.1),(pw_cell_below hb3 hHeld.2.2.2.2.1),(pw_cell_below hb3 hHeld.2.2.2.2.2.1),(pw_cell_below hb3 hHeld.2.2.2.2.2.2.1),(pw_cell_below hb3 hHeld.2.2.2.2.2.2.2.1),(pw_cell_below hb3 hHeld.2.2.2.2.2.2.2.2.1),(pw_cell_below hb3 hHeld.2.2.2.2.2.2.2.2.2.1),(pw_cell_below hb3 hHeld.2.2.2.2.2.2.2.2.2.2)⟩ (fun hHeld=>?_);clear hK K;refine nS 55 ?_;refine pS 16 56 (lA 36 131071) ?_;refine pS 17 57 (lA 36 262143) ?_;refine pS 18 58 (lA 36 524287) ?_;refine pS 19 59 (lA 36 1048575) ?_;refine pS 25 65 (lA 36 34603007) ?_;refine pS 30 70 (lA 36 1108344831) ?_;refine tS 20 60 (lA 36 1109393407) rfl rfl (by kernel_rfl) hHeld zz18 ?_;refine pS 21 61 (lA 36 1111490559) ?_;refine pS 22 62 (lA 36 1115684863) ?_;refine pS 23 63 (lA 36 1124073471) ?_;refine tS 24 64 (lA 36 1140850687) rfl rfl (by kernel_rfl) hHeld zz18 ?_;refine tS 26 66 (lA 36 1207959551) rfl rfl (by kernel_rfl) hHeld zz18 ?_;refine pS 27 67 (lA 36 1342177279) ?_
         refine pS 28 68 (lA 36 1610612735) ?_;refine tS 29 69 (lA 36 2147483647) rfl rfl (by kernel_rfl) hHeld zz18 ?_;refine oS 31 71 (lA 36 4294967295) rfl rfl (fun K hK=>?_);refine gO Try.func75 #[.agg #[.slice (some ad) m.words.length cW,.int .i64 m.young,.int .i64 m.top,.int .i64 m.old,.slice (some ad4) m.cards.length cC],.int .i64 x] ?_;(with_reducible refine (Mem_card.calls (some ad) m.words.length cW m.young m.top m.old (some ad4) m.cards.length cC x cj ci _ O3.out O4.out).mono ?_);rintro e w9 ⟨rfl,hb3⟩;refine ⟨_,rfl,?_⟩;refine hK.out _ _ ⟨⟨below_step hHeld.1.out hb3⟩,⟨MV_below hHeld.2.1.out hb3⟩,⟨(hb3.block _ (blk_lt hHeld.2.2.1.out)).trans hHeld.2.2.1.out⟩,(pw_cell_below hb3 hHeld.2.2.2.1),(pw_cell_below hb3 hHeld.2.2.2.2.1),(pw_cell_below hb3 hHeld.2.2.2.2.2.1),(pw_cell_below hb3 hHeld.2.2.2.2.2.2.1),(pw_cell_below hb3 hHeld.2.2.2.2.2.2.2.1),(pw_cell_below hb3 hHeld.2.2.2.2.2.2.2.2.1),(pw_cell_below hb3 hHeld.2.2.2.2.2.2.2.2.2.1),(pw_cell_below hb3 hHeld.2.2.2.2.2.2.2.2.2.2)⟩ (fun hHeld=>?_);clear hK K;refine nS 71 ?_;refine pS 32 72 (lA 36 8589934591) ?_;refine tS 33 73 (lA 36 17179869183) rfl rfl (by kernel_rfl) hHeld zz18 ?_;refine pS 34 74 (lA 36 34359738367) ?_;refine pS 35 75 (lA 36 68719476735) ?_;refine done_ (by kernel_rfl) ?_;have HBn:=hHeld.1;have HXn:=hHeld.2.2.1;clear hHeld HB HX;have HB:=HBn;have HX:=HXn;clear HBn HXn;go_wp2
         go_roundw
         case rel=>exact ⟨j1,k1,rfl,HZ,⟨by have:=HK1.out;have:=HK.out;omega⟩,HX,HB⟩
         case measure=>have:=HK1.out;have:=HC0.out;have:=HK.out;show (n - k1).toNat<(n - k).toNat;omega
      ·rw [if_neg c2] at hq
       have O1:=aK (decide_eq_false c2);have HQ2:=aK (Option.some.inj hq);clear hq c2;obtain rfl:=HQ2.out;have HZ:=aK (show wordsOk.l q m at_ n j1 k1=some r by have:=HH.out;rw [if_pos rfl] at this;exact this);clear HH;have b0:=(blk_cell HX.out 0).trans rfl;have b1:=(blk_cell HX.out 1).trans rfl
       go_wp2_with fail
       go_at_call 72;refine (thing_first.calls g m at_ a _ (MV_below HM.out HB.out) HFi.out).mono ?_;rintro e w2 ⟨rfl,hb⟩;clear b0 b1;have HBn:=aK (below_step HB.out hb);have HXn:=aK ((hb.block _ (blk_lt HX.out)).trans HX.out);clear hb HB HX;have HB:=HBn;have HX:=HXn;clear HBn HXn;have b0:=(blk_cell HX.out 0).trans rfl;have b1:=(blk_cell HX.out 1).trans rfl;obtain ⟨AW,cW,AC,cC,AF,cF,AB,cB,h0,hW,hC,_⟩:=MV_below HM.out HB.out;obtain ⟨ad,e0,hcell⟩:=Kd.at_int hW x (by have:=HXw.out;omega) (by have:=HXw.out;omega)
       cases e0
       rw [←HV.out] at hcell;have g0:=(blk_cell h0 0).trans rfl;have G0:=aK h0;have HCc:=aK hC;clear h0 hW hC
       go_wp2_with fail
       go_at_call 73;refine (thing_leads.calls g m at_ k true _ (MV_below HM.out HB.out) HLe.out).mono ?_;rintro e w3 ⟨rfl,hb⟩;clear b0 b1 hcell g0;have G0n:=aK ((hb.block _ (blk_lt G0.out)).trans G0.out);have HCn:=aK (Kd.C_below HCc.out hb);clear G0 HCc;have G0:=G0n;have HCc:=HCn;clear G0n HCn;have HBn:=aK (below_step HB.out hb);have HXn:=aK ((hb.block _ (blk_lt HX.out)).trans HX.out);clear hb HB HX;have HB:=HBn;have HX:=HXn;clear HBn HXn;have b0:=(blk_cell HX.out 0).trans rfl;have b1:=(blk_cell HX.out 1).trans rfl
       go_wp2_with (go_at_call 53;refine (memory_has.calls q g m v true _ (MV_below HM.out HB.out) HHa.out).mono ?_;rintro e w5 ⟨rfl,hd⟩;have hb:=hd.below;have HBn:=aK (below_step HB.out hb);have HXn:=aK ((hb.block _ (blk_lt HX.out)).trans HX.out);have G0n:=aK ((hb.block _ (blk_lt G0.out)).trans G0.out);have HCn:=aK (Kd.C_below HCc.out hb);clear hd hb HB HX G0 HCc b0 b1;have HB:=HBn;have HX:=HXn;have G0:=G0n;have HCc:=HCn;clear HBn HXn G0n HCn;have b0:=(blk_cell HX.out 0).trans rfl;have b1:=(blk_cell HX.out 1).trans rfl;have g0:=(blk_cell G0.out 0).trans rfl;have g1:=(blk_cell G0.out 1).trans rfl;have g2:=(blk_cell G0.out 2).trans rfl;have g3:=(blk_cell G0.out 3).trans rfl;have g4:=(blk_cell G0.out 4).trans rfl;have HM1:=aK (MV_below HM.out HB.out);try clear HCc)
       refine sT 36 (S:=fun w'=>Aside0 (Below w.heap.size w w')∧Aside0 (MV w' g (m))∧Aside0 (w'.heap[w.heap.size]? =some (.cells #[.pointer (some ⟨g,0,none⟩),.int .i64 at_] 86 (0,0)))∧w'.cell? (⟨w.heap.size,0,none⟩)=some (.pointer (some ⟨g,0,none⟩))∧w'.cell? (⟨w.heap.size,1,none⟩)=some (.int .i64 at_)∧w'.cell? (⟨g,0,none⟩)=some (.slice (some ad) m.words.length cW)∧w'.cell? (⟨g,1,none⟩)=some (.int .i64 m.young)∧w'.cell? (⟨g,2,none⟩)=some (.int .i64 m.top)∧w'.cell? (⟨g,3,none⟩)=some (.int .i64 m.old)∧w'.cell? (⟨g,4,none⟩)=some (.slice AC m.cards.length cC)) (ds:=[]) ⟨⟨below_drew1 HB.out⟩,⟨MV_below HM1.out (below_drew1 (Below.refl _ _))⟩,⟨blk_drew HX.out⟩,(by go_simp),(by go_simp),(by go_simp),(by go_simp),(by go_simp),(by go_simp),(by go_simp)⟩ (fun hHeld=>?_);refine pS 0 40 (lA 36 1) ?_;refine pS 5 45 (lA 36 33) ?_;refine tS 1 41 (lA 36 35) rfl rfl (by kernel_rfl) hHeld zz44 ?_;refine pS 2 42 (lA 36 39) ?_;refine pS 3 43 (lA 36 47) ?_;refine tS 4 44 (lA 36 63) rfl rfl (by kernel_rfl) hHeld zz44 ?_;refine tS 6 46 (lA 36 127) rfl rfl (by kernel_rfl) hHeld zz44 ?_;refine oS 7 47 (lA 36 255) rfl rfl (fun K hK=>?_);refine gO Try.func74 #[.agg #[.slice (some ad) m.words.length cW,.int .i64 m.young,.int .i64 m.top,.int .i64 m.old,.slice AC m.cards.length cC],.int .i64 at_] ?_;(with_reducible refine (Mem_isOld.calls (some ad) m.words.length cW m.young m.top m.old AC m.cards.length cC at_ false _ O1.out).mono ?_);rintro e w9 ⟨rfl,hb3⟩;refine ⟨_,rfl,?_⟩;refine hK.out _ _ ⟨⟨below_step hHeld.1.out hb3⟩,⟨MV_below hHeld.2.1.out hb3⟩,⟨(hb3.block _ (blk_lt hHeld.2.2.1.out)).trans hHeld.2.2.1.out⟩,(pw_cell_below hb3 hHeld.2.2.2.1),(pw_cell_below hb3 hHeld.2.2.2.2.1),(pw_cell_below hb3 hHeld.2.2.2.2.2.1),(pw_cell_below hb3 hHeld.2.2.2.2.2.2.1),(pw_cell_below hb3 hHeld.2.2.2.2.2.2.2.1),(pw_cell_below hb3 hHeld.2.2.2.2.2.2.2.2.1),(pw_cell_below hb3 hHeld.2.2.2.2.2.2.2.2.2)⟩ (fun hHeld=>?_);clear hK K;refine nS 47 ?_;refine pS 8 48 (lA 36 511) ?_;refine pU 9 49 (lA 36 1023) ?_;refine pU 10 50 (lA 36 2047) ?_;refine pU 11 51 (lA 36 4095) ?_;refine pU 12 52 (lA 36 8191) ?_;refine pU 13 53 (lA 36 16383) ?_;refine pU 14 54 (lA 36 32767) ?_;refine pU 15 55 (lA 36 65535) ?_;refine pU 16 56 (lA 36 131071) ?_;refine pS 17 57 (lA 36 262143) ?_;refine pS 18 58 (lA 36 524287) ?_;refine pU 19 59 (lA 36 1048575) ?_;refine pU 20 60 (lA 36 2097151) ?_;refine pU 21 61 (lA 36 4194303) ?_;refine pU 22 62 (lA 36 8388607) ?_;refine pU 23 63 (lA 36 16777215) ?_;refine pU 24 64 (lA 36 33554431) ?_;refine pU 25 65 (lA 36 67108863) ?_;refine pU 26 66 (lA 36 134217727) ?_;refine pU 27 67 (lA 36 268435455) ?_;refine pU 28 68 (lA 36 536870911) ?_;refine pU 29 69 (lA 36 1073741823) ?_;refine pU 30 70 (lA 36 2147483647) ?_;refine pU 31 71 (lA 36 4294967295) ?_;refine pU 32 72 (lA 36 8589934591) ?_;refine pU 33 73 (lA 36 17179869183) ?_;refine pU 34 74 (lA 36 34359738367) ?_;refine pS 35 75 (lA 36 68719476735) ?_;refine done_ (by kernel_rfl) ?_;have HBn:=hHeld.1;have HXn:=hHeld.2.2.1;clear hHeld HB HX;have HB:=HBn;have HX:=HXn;clear HBn HXn;go_wp2
       go_roundw
       case rel=>exact ⟨j1,k1,rfl,HZ,⟨by have:=HK1.out;have:=HK.out;omega⟩,HX,HB⟩
       case measure=>have:=HK1.out;have:=HC0.out;have:=HK.out;show (n - k1).toNat<(n - k).toNat;omega
def thingsOk (q:Nat) (m:Mm):List Int→Option Bool
  |[]=>some true
  |a::r=>(wordsOk.f q m a).bind fun ok=>if ok=true then thingsOk q m r else some false
def mopen (k q : Nat) (l0 : List S112) (ws : List Int) (y t o : Int) (cs : List Bool) : Option (Option Mm) :=
  (impl_ClassesOk.f k l0).bind fun c=>if c=true then ((impl_partsOk.f ws y t o cs).bind fun p=>if p=true then ((impl_allFields.f k l0).bind fun F=>
    if F.all (fun r=>decide (r.length≤4294967296))=true∧ws.length≤1048576∧cs.length≤1048576 then ((mwalk ws F t q 0 []).bind fun r1=>if r1.1=true then (if r1.2.length≤1048576 then ((mwalk ws F o q y r1.2).bind fun r2=>if r2.1=true then (if r2.2.length≤1048576 then ((thingsOk q ⟨ws,y,t,o,cs,F,r2.2⟩ r2.2).bind fun ok=>if ok=true then some (some ⟨ws,y,t,o,cs,F,r2.2⟩) else some none) else none) else some none) else none) else some none) else none) else some none) else some none
def OpenPost (w:World) (r:Option Mm) (e:Ending) (w':World):Prop:=
  match r with
  |none=>e= .returned (.tuple #[.pointer none,.bool false])∧Below w.heap.size w w'
  |some m=> ∃g,e= .returned (.tuple #[.pointer (some ⟨g,0,none⟩),.bool true])∧MO w' w.heap.size g m∧Below w.heap.size w w'
theorem fshort_of {F:List (List Int)} (h:F.all (fun r=>decide (r.length≤4294967296))=true):FShort F:=by
 intro c h0 h1;have h2:c.toNat<F.length:=by omega
 have h3:=List.all_eq_true.mp h (F[c.toNat]) (List.getElem_mem h2);have h4:rdL F c=F[c.toNat]:=by unfold rdL;rw [List.getD_eq_getElem?_getD,List.getElem?_eq_getElem h2];rfl
 rw [h4];exact of_decide_eq_true h3
theorem parts_true {ws:List Int} {y t o:Int} {cs:List Bool} (h:impl_partsOk.f ws y t o cs=some true):0≤y∧y≤40∧0≤t∧t≤y∧y≤o∧o≤ws.length:=by
 unfold impl_partsOk.f at h
 split at h
 case isFalse=>simp at h
 case isTrue=>
 have h:=Option.some.inj h;simp only [Bool.and_eq_true] at h;obtain ⟨⟨⟨⟨⟨⟨h0,h1⟩,h2⟩,h3⟩,h4⟩,h5⟩,h6⟩:=h;unfold pOk at h0 h2 h3;have h0:=of_decide_eq_true h0;have h2:=of_decide_eq_true h2;have h3:=of_decide_eq_true h3;exact ⟨h0.1,h0.2,h2.1,h2.2,h3.1,h3.2⟩
theorem MO_cells {w:World} {b g:Nat} {m:Mm} (h:MO w b g m):w.cell? ⟨g,1,none⟩=some (.int .i64 m.young)∧w.cell? ⟨g,2,none⟩=some (.int .i64 m.top)∧w.cell? ⟨g,3,none⟩=some (.int .i64 m.old):=by
  obtain ⟨_,_,_,_,_,_,_,_,h0,_⟩:=h;exact ⟨(blk_cell h0 1).trans rfl,(blk_cell h0 2).trans rfl,(blk_cell h0 3).trans rfl⟩
theorem MO_new {w3 w4:World} {b:Nat} {AU AV AF:Option Addr} {cU cV cF:Nat} {l0:List Int} {l4:List Bool} {F:List (List Int)} {a1 a2 a3:Int} (hb:b≤w3.heap.size) (hw:Below w3.heap.size w3 w4)
  (h1:Kd.R (Kd.int .i64) 3 w3 b (fun k=>some k≠(Value.slice AV l4.length cV).ownBlock) (.slice AU l0.length cU) l0)
  (h2:Kd.R Kd.bool 4 w3 b (fun k=>some k≠(Value.slice AU l0.length cU).ownBlock) (.slice AV l4.length cV) l4)
  (h3:Kd.S (Kd.slice 3 (Kd.int .i64)) 24 w4 w3.heap.size (fun _=>True) (.slice AF F.length cF) F):
  MO (w4.alloc (.cells #[.slice AU l0.length cU,.int .i64 a1,.int .i64 a2,.int .i64 a3,.slice AV l4.length cV,.slice AF F.length cF,.slice none 0 0] 72 (0,0))) b w4.heap.size ⟨l0,a1,a2,a3,l4,F,[]⟩:=by
 have hs:=hw.size;have u1:=Kd.R_lt h1;have u2:=Kd.R_lt h2;have nn: ∀k:Nat,some k≠(Value.slice none 0 0).ownBlock:=fun k=>by simp [Value.ownBlock]
 have al:=below_alloc (Below.refl w4.heap.size w4) (.cells #[.slice AU l0.length cU,.int .i64 a1,.int .i64 a2,.int .i64 a3,.slice AV l4.length cV,.slice AF F.length cF,.slice none 0 0] 72 (0,0));refine ⟨AU,cU,AV,cV,AF,cF,none,0,blk_new _ _,by show b≤w4.heap.size;omega,(Kd.R_reads' (Kd.S_R h3)).2.1,?_,?_,?_,?_⟩
 ·exact Kd.R_below (Kd.R_mono (Kd.R_below (Kd.R_bound h1) hw) (fun k hk=>⟨⟨by have:=hk.2.2.1;omega,hk.1⟩,nn k⟩)) al
 ·exact Kd.R_below (Kd.R_mono (Kd.R_below (Kd.R_bound h2) hw) (fun k hk=>⟨⟨by have:=hk.2.2.1;omega,hk.1⟩,nn k⟩)) al
 ·exact Kd.F_below (Kd.F_mono (Kd.R_F (Kd.R_bound (Kd.S_R h3))) (fun k hk=>⟨⟨⟨by have:=hk.2.2.1;omega,fun e=>by have:=u1 k e.symm;have:=hk.2.1;omega⟩,fun e=>by have:=u2 k e.symm;have:=hk.2.1;omega⟩,nn k⟩)) al
 ·exact Kd.R_nil _ _ _ _ _
set_option maxHeartbeats 32000000 in
set_option maxRecDepth 100000 in
theorem memOpen.calls (k q:Nat) (A0:Option Addr) (c0:Nat) (l0:List S112) (AW:Option Addr) (cW:Nat) (ws:List Int) (y t o:Int) (AC:Option Addr) (cC:Nat) (cs:List Bool) (r:Option Mm) (w:World)
  (hr0:Kd.C k112 w A0 l0.length l0) (hc0:l0.length≤c0) (hrW:Kd.C (Kd.int .i64) w AW ws.length ws) (hcW:ws.length≤cW) (hrC:Kd.C Kd.bool w AC cs.length cs) (hcC:cs.length≤cC) (h:mopen k q l0 ws y t o cs=some r):
  Calls Try.prog 35 #[.slice A0 l0.length c0,.agg #[.slice AW ws.length cW,.int .i64 y,.int .i64 t,.int .i64 o,.slice AC cs.length cC]] w (OpenPost w r):=by
 have HR0:=aK hr0;have HC0:=aK hc0;have HRW:=aK hrW;have HCW:=aK hcW;have HRC:=aK hrC;have HCC:=aK hcC;clear hr0 hc0 hrW hcW hrC hcC;unfold mopen at h;obtain ⟨c,hc,h⟩:=Option.bind_eq_some_iff.mp h;have H1:=aK hc;clear hc;have HB0:=aK (below_alloc (Below.refl w.heap.size w) (.cells #[.slice AW ws.length cW,.int .i64 y,.int .i64 t,.int .i64 o,.slice AC cs.length cC] 27 (0,0)));have HX0:=aK (blk_new w (.cells #[.slice AW ws.length cW,.int .i64 y,.int .i64 t,.int .i64 o,.slice AC cs.length cC] 27 (0,0)))
 cases c with
 |false=>
  rw [if_neg (by simp)] at h;have HR:=aK (Option.some.inj h);clear h;go_enter Try.func35,Try.ntmps35
  go_wp2_with (go_at_call 65;refine (impl_ClassesOk.calls k A0 c0 l0 false _ (Kd.C_below HR0.out HB0.out) HC0.out H1.out).mono ?_;rintro e w1 ⟨rfl,hb⟩;have HB:=aK (below_step HB0.out hb);have HX:=aK ((hb.block _ (blk_lt HX0.out)).trans HX0.out);clear hb HB0 HX0;have x0:=(blk_cell HX.out 0).trans rfl;have x1:=(blk_cell HX.out 1).trans rfl;have x2:=(blk_cell HX.out 2).trans rfl;have x3:=(blk_cell HX.out 3).trans rfl;have x4:=(blk_cell HX.out 4).trans rfl)
  go_ret2
  rw [←HR.out];exact ⟨rfl,HB.out⟩
 |true=>
 rw [if_pos rfl] at h;obtain ⟨p,hp,h⟩:=Option.bind_eq_some_iff.mp h;have H2:=aK hp;clear hp
 cases p with
 |false=>
  rw [if_neg (by simp)] at h;have HR:=aK (Option.some.inj h);clear h;go_enter Try.func35,Try.ntmps35
  go_wp2_with first|(go_at_call 65;refine (impl_ClassesOk.calls k A0 c0 l0 true _ (Kd.C_below HR0.out HB0.out) HC0.out H1.out).mono ?_;rintro e w1 ⟨rfl,hb⟩;have HB:=aK (below_step HB0.out hb);have HX:=aK ((hb.block _ (blk_lt HX0.out)).trans HX0.out);clear hb HB0 HX0;have x0:=(blk_cell HX.out 0).trans rfl;have x1:=(blk_cell HX.out 1).trans rfl;have x2:=(blk_cell HX.out 2).trans rfl;have x3:=(blk_cell HX.out 3).trans rfl;have x4:=(blk_cell HX.out 4).trans rfl)|(go_at_call 66;refine (impl_partsOk.calls AW cW ws y t o AC cC cs false _ (Kd.C_below HRW.out HB.out) HCW.out H2.out).mono ?_;rintro e w2 ⟨rfl,hb⟩;have HBn:=aK (below_step HB.out hb);have HXn:=aK ((hb.block _ (blk_lt HX.out)).trans HX.out);clear hb HB HX x0 x1 x2 x3 x4;have HB:=HBn;have HX:=HXn;clear HBn HXn;have x0:=(blk_cell HX.out 0).trans rfl;have x1:=(blk_cell HX.out 1).trans rfl;have x2:=(blk_cell HX.out 2).trans rfl;have x3:=(blk_cell HX.out 3).trans rfl;have x4:=(blk_cell HX.out 4).trans rfl)
  go_ret2
  rw [←HR.out];exact ⟨rfl,HB.out⟩
 |true=>
 rw [if_pos rfl] at h;obtain ⟨F,hF,h⟩:=Option.bind_eq_some_iff.mp h;have H3:=aK hF;clear hF
 split at h
 case isFalse=>simp at h
 case isTrue hl=>
 have HL1:=aK (fshort_of hl.1);have HL2:=aK hl.2.1;have HL3:=aK hl.2.2;clear hl;have HP:=aK (parts_true H2.out);obtain ⟨r1,hr1,h⟩:=Option.bind_eq_some_iff.mp h;have H4:=aK hr1;clear hr1;have H:=aK h;clear h;go_enter Try.func35,Try.ntmps35
 go_wp2_with first|(go_at_call 65;refine (impl_ClassesOk.calls k A0 c0 l0 true _ (Kd.C_below HR0.out HB0.out) HC0.out H1.out).mono ?_;rintro e w1 ⟨rfl,hb⟩;have HB:=aK (below_step HB0.out hb);have HX:=aK ((hb.block _ (blk_lt HX0.out)).trans HX0.out);clear hb HB0 HX0;have x0:=(blk_cell HX.out 0).trans rfl;have x1:=(blk_cell HX.out 1).trans rfl;have x2:=(blk_cell HX.out 2).trans rfl;have x3:=(blk_cell HX.out 3).trans rfl;have x4:=(blk_cell HX.out 4).trans rfl)|(go_at_call 66;refine (impl_partsOk.calls AW cW ws y t o AC cC cs true _ (Kd.C_below HRW.out HB.out) HCW.out H2.out).mono ?_;rintro e w2 ⟨rfl,hb⟩;have HBn:=aK (below_step HB.out hb);have HXn:=aK ((hb.block _ (blk_lt HX.out)).trans HX.out);clear hb HB HX x0 x1 x2 x3 x4;have HB:=HBn;have HX:=HXn;clear HBn HXn;have x0:=(blk_cell HX.out 0).trans rfl;have x1:=(blk_cell HX.out 1).trans rfl;have x2:=(blk_cell HX.out 2).trans rfl;have x3:=(blk_cell HX.out 3).trans rfl;have x4:=(blk_cell HX.out 4).trans rfl)|fail
 go_at_call 67;refine (impl_memClone.calls AW cW ws y t o AC cC cs _ (Kd.C_below HRW.out HB.out) HCW.out (Kd.C_below HRC.out HB.out) HCC.out (by have:=HL2.out;omega) (by have:=HL3.out;omega)).mono ?_;rintro e w3 ⟨u,v,rfl,hu,hv,hb⟩;have HS2:=aK (below_size HB.out);have HBn:=aK (below_step HB.out hb);have HU:=aK (Kd.R_lower hu HS2.out);have HV:=aK (Kd.R_lower hv HS2.out);obtain ⟨AU,cU,rfl⟩:=Kd.R_slice hu;obtain ⟨AV,cV,rfl⟩:=Kd.R_slice hv;clear hu hv hb HB HX HS2 x0 x1 x2 x3 x4;have HB:=HBn;clear HBn
 go_wp2_with fail
 go_at_call 68;refine (impl_allFields.calls k A0 c0 l0 F _ (Kd.C_below HR0.out HB.out) HC0.out H3.out).mono ?_;rintro e w4 ⟨vf,rfl,hf,hb⟩;obtain ⟨AF,cF,rfl⟩:=Kd.S_slice hf;have HM0:=aK (MO_new (a1:=y) (a2:=t) (a3:=o) (below_size HB.out) hb HU.out HV.out hf);have HBn:=aK (below_alloc (below_step HB.out hb) (.cells #[.slice AU ws.length cU,.int .i64 y,.int .i64 t,.int .i64 o,.slice AV cs.length cV,.slice AF F.length cF,.slice none 0 0] 72 (0,0)));clear hf hb HB HU HV;have HB:=HBn;clear HBn;obtain ⟨g,hg⟩: ∃g,g=w4.heap.size:=⟨_,rfl⟩;have HG:=aK hg;go_wp2;rw [←hg] at HM0 ⊢;clear hg;generalize w4.alloc (.cells #[.slice AU ws.length cU,.int .i64 y,.int .i64 t,.int .i64 o,.slice AV cs.length cV,.slice AF F.length cF,.slice none 0 0] 72 (0,0))=W5 at HB HM0 ⊢;obtain ⟨k1,k2,k3⟩:=MO_cells HM0.out;dsimp only at k1 k2 k3;obtain ⟨r1b,r1l⟩:=r1;have hh:=H.out
 cases r1b with
 |false=>
  rw [if_neg (by simp)] at hh;have HR:=aK (Option.some.inj hh);clear hh H;refine sT 23 (S:=fun w'=>Aside0 (Below w.heap.size w w')∧w'.cell? ⟨g,1,none⟩=some (.int .i64 y)∧w'.cell? ⟨g,2,none⟩=some (.int .i64 t)∧w'.cell? ⟨g,3,none⟩=some (.int .i64 o)) (ds:=[]) ⟨⟨below_drew1 HB.out⟩,(by go_simp),(by go_simp),(by go_simp)⟩ (fun hHeld=>?_);refine pS 0 23 (lA 23 1) ?_;refine pS 1 24 (lA 23 3) ?_;refine pS 2 25 (lA 23 7) ?_;refine pS 3 26 (lA 23 15) ?_;refine pS 4 27 (lA 23 31) ?_;refine tS 5 28 (lA 23 63) rfl rfl (by kernel_rfl) hHeld zz38 ?_;refine oS 6 29 (lA 23 127) rfl rfl (fun K hK=>?_);refine gO Try.func69 #[.pointer (some ⟨g,0,none⟩),.int .i64 0,.int .i64 t] ?_;(with_reducible refine (memory_walk.calls w.heap.size g _ 0 t q (false,r1l) _ (MO_below HM0.out (below_drew1 (Below.refl _ _))) hHeld.1.out.size (by decide) (by have:=HP.out;show t≤(ws.length:Int);omega) HL2.out (Nat.zero_le _) HL1.out H4.out).mono ?_);rintro e w5 ⟨rfl,ho1,hb1⟩;have hMO1:=aK ho1;have hB1:=aK hb1;obtain ⟨c1_,c2_,c3_⟩:=MO_cells ho1;dsimp only at c1_ c2_ c3_;refine ⟨_,rfl,?_⟩;refine hK.out _ _ ⟨⟨hHeld.1.out.trans hB1.out⟩,c1_,c2_,c3_⟩ (fun hHeld=>?_);clear hK K;refine nS 29 ?_;refine pS 7 30 (lA 23 255) ?_;refine pS 8 31 (lA 23 511) ?_;refine pU 9 32 (lA 23 1023) ?_;refine pU 10 33 (lA 23 2047) ?_;refine pU 11 34 (lA 23 4095) ?_;refine pU 12 35 (lA 23 8191) ?_;refine pU 13 36 (lA 23 16383) ?_;refine pU 14 37 (lA 23 32767) ?_;refine pU 15 38 (lA 23 65535) ?_;refine pU 16 39 (lA 23 131071) ?_;refine pU 17 40 (lA 23 262143) ?_;refine pU 18 41 (lA 23 524287) ?_;refine pU 19 42 (lA 23 1048575) ?_;refine pU 20 43 (lA 23 2097151) ?_;refine pU 21 44 (lA 23 4194303) ?_;refine pS 22 45 (lA 23 8388607) ?_;refine done_ (by kernel_rfl) ?_;go_wp2
  go_ret2
  rw [←HR.out];exact ⟨rfl,hHeld.1.out⟩
 |true=>
 rw [if_pos rfl] at hh
 split at hh
 case isFalse=>simp at hh
 case isTrue hl=>
 have HL4:=aK hl;clear hl;obtain ⟨r2,hr2,hh⟩:=Option.bind_eq_some_iff.mp hh;have H5:=aK hr2;clear hr2 H;obtain ⟨r2b,r2l⟩:=r2
 cases r2b with
 |false=>
  rw [if_neg (by simp)] at hh;have HR:=aK (Option.some.inj hh);clear hh;refine sT 23 (S:=fun w'=>Aside0 (Below w.heap.size w w')∧w'.cell? ⟨g,1,none⟩=some (.int .i64 y)∧w'.cell? ⟨g,2,none⟩=some (.int .i64 t)∧w'.cell? ⟨g,3,none⟩=some (.int .i64 o)) (ds:=[]) ⟨⟨below_drew1 HB.out⟩,(by go_simp),(by go_simp),(by go_simp)⟩ (fun hHeld=>?_);refine pS 0 23 (lA 23 1) ?_;refine pS 1 24 (lA 23 3) ?_;refine pS 2 25 (lA 23 7) ?_;refine pS 3 26 (lA 23 15) ?_;refine pS 4 27 (lA 23 31) ?_;refine tS 5 28 (lA 23 63) rfl rfl (by kernel_rfl) hHeld zz38 ?_;refine oS 6 29 (lA 23 127) rfl rfl (fun K hK=>?_);refine gO Try.func69 #[.pointer (some ⟨g,0,none⟩),.int .i64 0,.int .i64 t] ?_;(with_reducible refine (memory_walk.calls w.heap.size g _ 0 t q (true,r1l) _ (MO_below HM0.out (below_drew1 (Below.refl _ _))) hHeld.1.out.size (by decide) (by have:=HP.out;show t≤(ws.length:Int);omega) HL2.out (Nat.zero_le _) HL1.out H4.out).mono ?_);rintro e w5 ⟨rfl,ho1,hb1⟩;have hMO1:=aK ho1;have hB1:=aK hb1;obtain ⟨c1_,c2_,c3_⟩:=MO_cells ho1;dsimp only at c1_ c2_ c3_;refine ⟨_,rfl,?_⟩;refine hK.out _ _ ⟨⟨hHeld.1.out.trans hB1.out⟩,c1_,c2_,c3_⟩ (fun hHeld=>?_);clear hK K;refine nS 29 ?_;refine pS 7 30 (lA 23 255) ?_;refine pS 8 31 (lA 23 511) ?_;refine pS 9 32 (lA 23 1023) ?_;refine pS 10 33 (lA 23 2047) ?_;refine pS 11 34 (lA 23 4095) ?_;refine pS 12 35 (lA 23 8191) ?_;refine pS 13 36 (lA 23 16383) ?_;refine pS 15 38 (lA 23 49151) ?_;refine pS 16 39 (lA 23 114687) ?_;refine pS 17 40 (lA 23 245759) ?_;refine pS 18 41 (lA 23 507903) ?_;refine tS 14 37 (lA 23 524287) rfl rfl (by kernel_rfl) hHeld zz38 ?_;refine tS 19 42 (lA 23 1048575) rfl rfl (by kernel_rfl) hHeld zz38 ?_;refine oS 20 43 (lA 23 2097151) rfl rfl (fun K hK=>?_);refine gO Try.func69 #[.pointer (some ⟨g,0,none⟩),.int .i64 y,.int .i64 o] ?_;(with_reducible refine (memory_walk.calls w.heap.size g _ y o q (false,r2l) _ hMO1.out hHeld.1.out.size HP.out.1 (by have:=HP.out;show o≤(ws.length:Int);omega) HL2.out HL4.out HL1.out H5.out).mono ?_);rintro e w6 ⟨rfl,ho2,hb2⟩;have hMO2:=aK ho2;have hB2:=aK hb2;obtain ⟨d1_,d2_,d3_⟩:=MO_cells ho2;dsimp only at d1_ d2_ d3_;refine ⟨_,rfl,?_⟩;refine hK.out _ _ ⟨⟨hHeld.1.out.trans hB2.out⟩,d1_,d2_,d3_⟩ (fun hHeld=>?_);clear hK K;refine nS 43 ?_;refine pS 21 44 (lA 23 4194303) ?_;refine pS 22 45 (lA 23 8388607) ?_;refine done_ (by kernel_rfl) ?_;go_wp2
  go_ret2
  rw [←HR.out];exact ⟨rfl,hHeld.1.out⟩
 |true=>
 rw [if_pos rfl] at hh
 split at hh
 case isFalse=>simp at hh
 case isTrue hl=>
 have HL5:=aK hl;clear hl;obtain ⟨ok,hok,hh⟩:=Option.bind_eq_some_iff.mp hh;have H6:=aK hok;have H7:=aK hh;clear hok hh;refine sT 23 (S:=fun w'=>Aside0 (Below w.heap.size w w')∧w'.cell? ⟨g,1,none⟩=some (.int .i64 y)∧w'.cell? ⟨g,2,none⟩=some (.int .i64 t)∧w'.cell? ⟨g,3,none⟩=some (.int .i64 o)) (ds:=[]) ⟨⟨below_drew1 HB.out⟩,(by go_simp),(by go_simp),(by go_simp)⟩ (fun hHeld=>?_);refine pS 0 23 (lA 23 1) ?_;refine pS 1 24 (lA 23 3) ?_;refine pS 2 25 (lA 23 7) ?_;refine pS 3 26 (lA 23 15) ?_;refine pS 4 27 (lA 23 31) ?_;refine tS 5 28 (lA 23 63) rfl rfl (by kernel_rfl) hHeld zz38 ?_;refine oS 6 29 (lA 23 127) rfl rfl (fun K hK=>?_);refine gO Try.func69 #[.pointer (some ⟨g,0,none⟩),.int .i64 0,.int .i64 t] ?_;(with_reducible refine (memory_walk.calls w.heap.size g _ 0 t q (true,r1l) _ (MO_below HM0.out (below_drew1 (Below.refl _ _))) hHeld.1.out.size (by decide) (by have:=HP.out;show t≤(ws.length:Int);omega) HL2.out (Nat.zero_le _) HL1.out H4.out).mono ?_);rintro e w5 ⟨rfl,ho1,hb1⟩;have hMO1:=aK ho1;have hB1:=aK hb1;obtain ⟨c1_,c2_,c3_⟩:=MO_cells ho1;dsimp only at c1_ c2_ c3_;refine ⟨_,rfl,?_⟩;refine hK.out _ _ ⟨⟨hHeld.1.out.trans hB1.out⟩,c1_,c2_,c3_⟩ (fun hHeld=>?_);clear hK K;refine nS 29 ?_;refine pS 7 30 (lA 23 255) ?_;refine pS 8 31 (lA 23 511) ?_;refine pS 9 32 (lA 23 1023) ?_;refine pS 10 33 (lA 23 2047) ?_;refine pS 11 34 (lA 23 4095) ?_;refine pS 12 35 (lA 23 8191) ?_;refine pS 13 36 (lA 23 16383) ?_;refine pS 15 38 (lA 23 49151) ?_;refine pS 16 39 (lA 23 114687) ?_;refine pS 17 40 (lA 23 245759) ?_;refine pS 18 41 (lA 23 507903) ?_;refine tS 14 37 (lA 23 524287) rfl rfl (by kernel_rfl) hHeld zz38 ?_;refine tS 19 42 (lA 23 1048575) rfl rfl (by kernel_rfl) hHeld zz38 ?_;refine oS 20 43 (lA 23 2097151) rfl rfl (fun K hK=>?_);refine gO Try.func69 #[.pointer (some ⟨g,0,none⟩),.int .i64 y,.int .i64 o] ?_;(with_reducible refine (memory_walk.calls w.heap.size g _ y o q (true,r2l) _ hMO1.out hHeld.1.out.size HP.out.1 (by have:=HP.out;show o≤(ws.length:Int);omega) HL2.out HL4.out HL1.out H5.out).mono ?_);rintro e w6 ⟨rfl,ho2,hb2⟩;have hMO2:=aK ho2;have hB2:=aK hb2;obtain ⟨d1_,d2_,d3_⟩:=MO_cells ho2;dsimp only at d1_ d2_ d3_;refine ⟨_,rfl,?_⟩;refine hK.out _ _ ⟨⟨hHeld.1.out.trans hB2.out⟩,d1_,d2_,d3_⟩ (fun hHeld=>?_);clear hK K;refine nS 43 ?_;refine pS 21 44 (lA 23 4194303) ?_;refine pS 22 45 (lA 23 8388607) ?_;refine done_ (by kernel_rfl) ?_;have HB:=hHeld.1;clear hHeld;obtain ⟨AW6,cW6,AC6,cC6,AF6,cF6,AB,cB,g0,hg1,_,_,_,_,rB⟩:=hMO2.out;have k6:=(blk_cell g0 6).trans rfl;have HCB:=aK (Kd.R_reads' rB).2.2;clear g0 rB hg1;go_wp2
 go_loopw [51] (fun i wr=> ∃j:Nat,i= .int .i64 j∧j≤r2l.length∧Aside0 (thingsOk q ⟨ws,y,t,o,cs,F,r2l⟩ (r2l.drop j)=some ok)∧Aside0 (Below w6.heap.size w6 wr)) (fun i _=>r2l.length - (intOf i).toNat)
 case atStart=>exact ⟨0,rfl,Nat.zero_le _,⟨by rw [List.drop_zero];exact H6.out⟩,⟨Below.refl _ _⟩⟩
 case round=>
  clear H6;obtain ⟨j,rfl,hj,HT,HB6⟩:=hrel;by_cases hlt:j<r2l.length
  ·have hd := List.drop_eq_getElem_cons hlt
   have hg:r2l[j]=rd r2l j:=by unfold rd;rw [Int.toNat_natCast,List.getD_eq_getElem?_getD,List.getElem?_eq_getElem hlt];rfl
   obtain ⟨ad,e0,hcell⟩:=Kd.at_int (Kd.C_below HCB.out HB6.out) j (by omega) (by omega)
   cases e0
   rw [Int.toNat_natCast] at hcell;have ht:=HT.out;rw [hd,hg] at ht;unfold thingsOk at ht;obtain ⟨o1,ho1,ht⟩:=Option.bind_eq_some_iff.mp ht;have HO1:=aK ho1;clear hd hg HT ho1;generalize rd r2l j=x at*
   cases o1 with
   |false=>
    rw [if_neg (by simp)] at ht;have h7:=H7.out;rw [←Option.some.inj ht,if_neg (by simp)] at h7;have HR:=aK (Option.some.inj h7);clear ht h7
    go_wp2_with fail
    go_at_call 54;refine (memory_thing.calls g x _).mono ?_;rintro e w7 ⟨rfl,hb⟩;have HB7:=aK (below_step HB6.out hb);clear hb
    go_wp2_with fail
    go_at_call 70;refine (thing_wordsOk.calls q g _ x false _ (MV_below (MO_MV hMO2.out) HB7.out) HO1.out).mono ?_;rintro e w8 ⟨rfl,hb⟩;have HB8:=aK (below_step HB7.out hb);clear hb HB7;go_wp2
    go_ret2
    rw [←HR.out];exact ⟨rfl,below_then HB.out (Nat.le_trans (Nat.le_refl _) HB.out.size) HB8.out⟩
   |true=>
    rw [if_pos rfl] at ht;have HT2:=aK ht;clear ht
    go_wp2_with fail
    go_at_call 54;refine (memory_thing.calls g x _).mono ?_;rintro e w7 ⟨rfl,hb⟩;have HB7:=aK (below_step HB6.out hb);clear hb
    go_wp2_with fail
    go_at_call 70;refine (thing_wordsOk.calls q g _ x true _ (MV_below (MO_MV hMO2.out) HB7.out) HO1.out).mono ?_;rintro e w8 ⟨rfl,hb⟩;have HB8:=aK (below_step HB7.out hb);clear hb HB7;go_wp2
    go_roundw
    case rel=>exact ⟨j+1,by rw [show wrap64 ((j:Int)+1)=((j+1:Nat):Int) by have:=HL5.out;unfold wrap64;omega],by omega,HT2,HB8⟩
    case measure=>rw [show wrap64 ((j:Int)+1)=((j+1:Nat):Int) by have:=HL5.out;unfold wrap64;omega];simp only [intOf,Int.toNat_natCast];omega
  ·have d0 : decide ((j : Int) < r2l.length) = false := decide_eq_false (by omega)
   have ht:=HT.out;rw [List.drop_eq_nil_of_le (by omega)] at ht;have h7:=H7.out;rw [←Option.some.inj ht,if_pos rfl] at h7;have HR:=aK (Option.some.inj h7);clear ht h7;go_wp2
   go_ret2
   rw [←HR.out];exact ⟨g,rfl,MO_below hMO2.out HB6.out,below_then HB.out HB.out.size HB6.out⟩
def memory_hasIn.f (q:Nat) (m:Mm) (at_ k:Int):Option Bool:=(memory_has.f q m at_).bind fun b=>if b=true then (if 0≤k then (thing_count.f m at_).bind fun n=>some (decide (k<n)) else some false) else some false
set_option maxHeartbeats 4000000 in
set_option maxRecDepth 100000 in
theorem memory_hasIn.calls (q:Nat) (g:Nat) (m:Mm) (at_ k:Int) (r:Bool) (w:World) (hm:MV w g m) (h:memory_hasIn.f q m at_ k=some r):
  Calls Try.prog 36 #[.pointer (some ⟨g,0,none⟩),.int .i64 at_,.int .i64 k] w fun e w'=>e= .returned (.bool r)∧Below w.heap.size w w':=by
 unfold memory_hasIn.f at h;obtain ⟨b,hb,h⟩:=Option.bind_eq_some_iff.mp h;have HH:=aK hb;have HM:=aK hm;clear hb hm
 cases b with
 |false=>
  have HR:=aK (Option.some.inj h);clear h;go_enter Try.func36,Try.ntmps36
  go_wp2_with (go_at_call 53;refine (memory_has.calls q g m at_ false _ HM.out HH.out).mono ?_;rintro e w' ⟨rfl,⟨nd,rfl⟩⟩)
  go_ret;exact ⟨by rw [←HR.out];rfl,by repeat (first|exact Below.refl _ _|apply below_alloc|apply pw_below_drewN|apply below_drew1)⟩
 | true =>
  rw [if_pos rfl] at h;by_cases c1:0≤k
  ·rw [if_pos c1] at h
   have d1:decide (0≤k)=true:=decide_eq_true c1
   have d2:decide (k≥0)=true:=d1
   obtain ⟨n,hn,h⟩:=Option.bind_eq_some_iff.mp h;have HN:=aK hn;have HR:=aK (Option.some.inj h);clear h hn c1;go_enter Try.func36,Try.ntmps36
   go_wp2_with fail
   go_at_call 53;refine (memory_has.calls q g m at_ true _ HM.out HH.out).mono ?_;rintro e w' ⟨rfl,⟨nd,rfl⟩⟩
   go_wp2_with fail
   go_at_call 54;refine (memory_thing.calls g at_ _).mono ?_;rintro e w2 ⟨rfl,hb2⟩;have HB:=aK (below_step (pw_below_drewN (Below.refl _ _) _) hb2:Below w.heap.size w w2);clear hb2
   go_wp2_with fail
   go_at_call 71;refine (thing_count.calls g m at_ n _ (MV_below HM.out HB.out) HN.out).mono ?_;rintro e w3 ⟨rfl,hb3⟩;go_wp2;go_ret;exact ⟨by rw [←HR.out];rfl,below_step HB.out hb3⟩
  ·rw [if_neg c1] at h
   have d1:decide (0≤k)=false:=decide_eq_false c1
   have d2:decide (k≥0)=false:=d1
   have HR:=aK (Option.some.inj h);clear h c1;go_enter Try.func36,Try.ntmps36
   go_wp2_with (go_at_call 53;refine (memory_has.calls q g m at_ true _ HM.out HH.out).mono ?_;rintro e w' ⟨rfl,⟨nd,rfl⟩⟩)
   go_ret;exact ⟨by rw [←HR.out];rfl,by repeat (first|exact Below.refl _ _|apply below_alloc|apply pw_below_drewN|apply below_drew1)⟩
def memory_get.f (m:Mm) (at_ k:Int):Option Int:=(thing_first.f m at_).bind fun a=>if 0≤a+k∧a+k<m.words.length then some (rd m.words (a+k)) else none
set_option maxHeartbeats 4000000 in
set_option maxRecDepth 100000 in
theorem memory_get.calls (g:Nat) (m:Mm) (at_ k r:Int) (w:World) (hm:MV w g m) (h:memory_get.f m at_ k=some r):
  Calls Try.prog 48 #[.pointer (some ⟨g,0,none⟩),.int .i64 at_,.int .i64 k] w fun e w'=>e= .returned (.int .i64 r)∧Below w.heap.size w w':=by
 unfold memory_get.f at h;obtain ⟨a,ha,h⟩:=Option.bind_eq_some_iff.mp h;have l1:=thing_first_lt ha
 split at h
 case isFalse=>simp at h
 case isTrue h2=>
 have HFi:=aK ha;have HM1:=aK hm;have HR:=aK (Option.some.inj h);obtain ⟨j,hj⟩: ∃j,j=a+k:=⟨_,rfl⟩;have q1:IntKind.i64.wrap (a+k)=j:=by rw [hj];exact IntWalk.i64_in _ ⟨by omega,by omega⟩
 rw [←hj] at HR;obtain ⟨AW,cW,AC,cC,AF,cF,AB,cB,h0,hW,_,_,_,_⟩:=hm;have p1:=eq_true (show 0≤j by omega);have p2:=eq_true (show j<(m.words.length:Int) by omega);obtain ⟨ad,e0,hx⟩:=Kd.at_int hW j (by omega) (by omega)
 cases e0
 have g0:=(blk_cell h0 0).trans rfl;have HB:=aK (Below.refl w.heap.size w);clear ha h h0 hW h2 l1 hj;go_enter Try.func48,Try.ntmps48;go_wp2;refine sT 14 (S:=fun w'=>Aside0 (Below w.heap.size w w')∧Aside0 (MV w' g (m))∧w'.cell? (⟨g,0,none⟩)=some (.slice (some ad) m.words.length cW)∧w'.cell? (ad.add j.toNat)=some (.int .i64 (rd m.words j))) (ds:=[]) ⟨⟨below_drew1 HB.out⟩,⟨MV_below HM1.out (below_drew1 (Below.refl _ _))⟩,(by go_simp),(by go_simp)⟩ (fun hHeld=>?_);refine pS 0 7 (lA 14 1) ?_;refine pS 1 8 (lA 14 3) ?_;refine pS 2 9 (lA 14 7) ?_;refine pS 3 10 (lA 14 15) ?_;refine pS 5 12 (lA 14 47) ?_;refine pS 6 13 (lA 14 111) ?_;refine pS 9 16 (lA 14 623) ?_;refine tS 4 11 (lA 14 639) rfl rfl (by kernel_rfl) hHeld zz38 ?_;refine oS 7 14 (lA 14 767) rfl rfl (fun K hK=>?_);refine gO Try.func54 #[.pointer (some ⟨g,0,none⟩),.int .i64 at_] ?_;(with_reducible refine (memory_thing.calls g at_ _).mono ?_);rintro e w3 ⟨rfl,hb3⟩;refine ⟨_,rfl,?_⟩;refine hK.out _ _ ⟨⟨below_step hHeld.1.out hb3⟩,⟨MV_below hHeld.2.1.out hb3⟩,(pw_cell_below hb3 hHeld.2.2.1),(pw_cell_below hb3 hHeld.2.2.2)⟩ (fun hHeld=>?_);clear hK K;refine nS 14 ?_;refine oS 8 15 (lA 14 1023) rfl rfl (fun K hK=>?_);refine gO Try.func72 #[thV g at_] ?_;(with_reducible refine (thing_first.calls g m at_ a _ hHeld.2.1.out HFi.out).mono ?_);rintro e w3 ⟨rfl,hb3⟩;refine ⟨_,rfl,?_⟩;refine hK.out _ _ ⟨⟨below_step hHeld.1.out hb3⟩,⟨MV_below hHeld.2.1.out hb3⟩,(pw_cell_below hb3 hHeld.2.2.1),(pw_cell_below hb3 hHeld.2.2.2)⟩ (fun hHeld=>?_);clear hK K;refine nS 15 ?_;refine pS 10 17 (lA 14 2047) ?_;refine pS 11 18 (lA 14 4095) ?_;refine tS 12 19 (lA 14 8191) rfl rfl (by kernel_rfl) hHeld zz38 ?_;refine pS 13 6 (lA 14 16383) ?_;refine done_ (by kernel_rfl) ?_;go_wp2;go_ret;exact ⟨by rw [←HR.out];rfl,hHeld.1.out⟩
def getOf (k:Nat) (a2 a3:Int):Option Mm→Option (Int×Bool)
  |none=>some (0,false)
  |some m=>(memory_hasIn.f k m a2 a3).bind fun b=>if b=true then (memory_get.f m a2 a3).bind fun x=>some (x,true) else some (0,false)
def impl_MemGet.f (k:Nat) (l0:List (S112)) (l1_0:List Int) (a1_1:Int) (a1_2:Int) (a1_3:Int) (l1_4:List Bool) (a2:Int) (a3:Int):Option (Int×Bool):=(mopen k k l0 l1_0 a1_1 a1_2 a1_3 l1_4).bind fun r=>getOf k a2 a3 r
set_option maxHeartbeats 8000000 in
set_option maxRecDepth 100000 in
theorem impl_MemGet.calls (k:Nat) (A0:Option Addr) (c0:Nat) (l0:List (S112)) (A1_0:Option Addr) (c1_0:Nat) (l1_0:List Int) (a1_1:Int) (a1_2:Int) (a1_3:Int) (A1_4:Option Addr) (c1_4:Nat) (l1_4:List Bool) (a2:Int) (a3:Int) (r1:Int) (r2:Bool) (w:World) (hr0:Kd.C k112 w A0 l0.length l0) (hc0:l0.length≤c0) (hr1_0:Kd.C (Kd.int .i64) w A1_0 l1_0.length l1_0) (hc1_0:l1_0.length≤c1_0) (hr1_4:Kd.C Kd.bool w A1_4 l1_4.length l1_4) (hc1_4:l1_4.length≤c1_4) (h:impl_MemGet.f k l0 l1_0 a1_1 a1_2 a1_3 l1_4 a2 a3=some (r1,r2)):
  Calls Try.prog 15 #[.slice A0 l0.length c0,.agg #[.slice A1_0 l1_0.length c1_0,.int .i64 a1_1,.int .i64 a1_2,.int .i64 a1_3,.slice A1_4 l1_4.length c1_4],.int .i64 a2,.int .i64 a3] w fun e w'=>e= .returned (.tuple #[.int .i64 r1,.bool r2])∧Below w.heap.size w w':=by
 unfold impl_MemGet.f at h;obtain ⟨m,hm,h⟩:=Option.bind_eq_some_iff.mp h;have HM:=aK hm;have HR0:=aK hr0;have HC0:=aK hc0;have HR1:=aK hr1_0;have HC1:=aK hc1_0;have HR4:=aK hr1_4;have HC4:=aK hc1_4;have HB:=aK (below_alloc (Below.refl w.heap.size w) (.cells #[.slice A1_0 l1_0.length c1_0,.int .i64 a1_1,.int .i64 a1_2,.int .i64 a1_3,.slice A1_4 l1_4.length c1_4] 27 (0,0)));have HH:=aK h;clear hr0 hc0 hr1_0 hc1_0 hr1_4 hc1_4 h hm;go_enter Try.func15,Try.ntmps15
 go_wp2_with fail
 go_at_call 35;refine (memOpen.calls k k A0 c0 l0 A1_0 c1_0 l1_0 a1_1 a1_2 a1_3 A1_4 c1_4 l1_4 m _ (Kd.C_below HR0.out HB.out) HC0.out (Kd.C_below HR1.out HB.out) HC1.out (Kd.C_below HR4.out HB.out) HC4.out HM.out).mono ?_
 cases m with
 |none=>
  rintro e w1 ⟨rfl,hb⟩;have HB1:=aK (below_step HB.out hb);have hh:=Option.some.inj HH.out;injection hh with h1 h2;subst h1 h2;clear hb HM HH;go_wp2
  go_ret2
  exact ⟨rfl,HB1.out⟩
 | some m =>
  rintro e w1 ⟨g,rfl,hmo,hb⟩;have HB1:=aK (below_step HB.out hb);have HMO:=aK hmo;have hh:=HH.out;unfold getOf at hh;obtain ⟨b,hq,hh⟩:=Option.bind_eq_some_iff.mp hh;have HQ:=aK hq;clear hb HM HH hmo hq
  cases b with
  |false=>
   rw [if_neg (by simp)] at hh;have hh:=Option.some.inj hh;injection hh with h1 h2;subst h1 h2
   go_wp2_with (go_at_call 36;refine (memory_hasIn.calls k g m a2 a3 false _ (MO_MV HMO.out) HQ.out).mono ?_;rintro e w2 ⟨rfl,hd⟩;have HB2:=aK (below_step HB1.out hd);clear hd)
   go_ret2
   exact ⟨rfl,HB2.out⟩
  |true=>
   rw [if_pos rfl] at hh;obtain ⟨x,hx,hh⟩:=Option.bind_eq_some_iff.mp hh;have HS:=aK hx;have hh:=Option.some.inj hh;injection hh with h1 h2;subst h1 h2;clear hx
   go_wp2_with (first|(go_at_call 36;refine (memory_hasIn.calls k g m a2 a3 true _ (MO_MV HMO.out) HQ.out).mono ?_;rintro e w2 ⟨rfl,hd⟩;have HB2:=aK (below_step HB1.out hd);have HMO2:=aK (MO_below HMO.out hd);clear hd)|(go_at_call 48;refine (memory_get.calls g m a2 a3 x _ (MO_MV HMO2.out) HS.out).mono ?_;rintro e w4 ⟨rfl,hd⟩;have HB4:=aK (below_step HB2.out hd);clear hd))
   go_ret2
   exact ⟨rfl,HB4.out⟩
def walkOf:Option Mm→List Int
  |none=>[]
  |some m=>m.begins
def impl_MemWalk.f (k:Nat) (l0:List (S112)) (l1_0:List Int) (a1_1:Int) (a1_2:Int) (a1_3:Int) (l1_4:List Bool):Option (List Int):=(mopen k k l0 l1_0 a1_1 a1_2 a1_3 l1_4).bind fun r=>some (walkOf r)
set_option maxHeartbeats 8000000 in
set_option maxRecDepth 100000 in
theorem impl_MemWalk.calls (k:Nat) (A0:Option Addr) (c0:Nat) (l0:List (S112)) (A1_0:Option Addr) (c1_0:Nat) (l1_0:List Int) (a1_1:Int) (a1_2:Int) (a1_3:Int) (A1_4:Option Addr) (c1_4:Nat) (l1_4:List Bool) (r:List Int) (w:World) (hr0:Kd.C k112 w A0 l0.length l0) (hc0:l0.length≤c0) (hr1_0:Kd.C (Kd.int .i64) w A1_0 l1_0.length l1_0) (hc1_0:l1_0.length≤c1_0) (hr1_4:Kd.C Kd.bool w A1_4 l1_4.length l1_4) (hc1_4:l1_4.length≤c1_4) (h:impl_MemWalk.f k l0 l1_0 a1_1 a1_2 a1_3 l1_4=some r):
  Calls Try.prog 17 #[.slice A0 l0.length c0,.agg #[.slice A1_0 l1_0.length c1_0,.int .i64 a1_1,.int .i64 a1_2,.int .i64 a1_3,.slice A1_4 l1_4.length c1_4]] w fun e w'=> ∃v0_:Value,e= .returned (v0_)∧Kd.R (Kd.int .i64) 3 w' w.heap.size (fun _=>True) v0_ r∧Below w.heap.size w w':=by
 unfold impl_MemWalk.f at h;obtain ⟨m,hm,h⟩:=Option.bind_eq_some_iff.mp h;have HM:=aK hm;have HR0:=aK hr0;have HC0:=aK hc0;have HR1:=aK hr1_0;have HC1:=aK hc1_0;have HR4:=aK hr1_4;have HC4:=aK hc1_4;have HB:=aK (below_alloc (Below.refl w.heap.size w) (.cells #[.slice A1_0 l1_0.length c1_0,.int .i64 a1_1,.int .i64 a1_2,.int .i64 a1_3,.slice A1_4 l1_4.length c1_4] 27 (0,0)));have HH:=aK h;clear hr0 hc0 hr1_0 hc1_0 hr1_4 hc1_4 h hm;go_enter Try.func17,Try.ntmps17
 go_wp2_with fail
 go_at_call 35;refine (memOpen.calls k k A0 c0 l0 A1_0 c1_0 l1_0 a1_1 a1_2 a1_3 A1_4 c1_4 l1_4 m _ (Kd.C_below HR0.out HB.out) HC0.out (Kd.C_below HR1.out HB.out) HC1.out (Kd.C_below HR4.out HB.out) HC4.out HM.out).mono ?_
 cases m with
 |none=>
  rintro e w1 ⟨rfl,hb⟩;have HB1:=aK (below_step HB.out hb);have hh:=Option.some.inj HH.out;subst hh;clear hb HM HH;go_wp2;go_ret;exact ⟨_,rfl,Kd.R_nil _ _ _ _ _,HB1.out⟩
 |some m=>
  rintro e w1 ⟨g,rfl,hmo,hb⟩;have HB1:=aK (below_step HB.out hb);have hs:=below_size HB.out;have hh:=Option.some.inj HH.out;subst hh;obtain ⟨AW,cW,AC,cC,AF,cF,AB,cB,g0,_,_,_,_,_,rB⟩:=hmo;have k6:=(blk_cell g0 6).trans rfl;have RB:=aK (Kd.R_mono (ok':=fun _=>True) (Kd.R_lower rB hs) (fun _ _=>trivial));clear hb HM HH g0 rB hs;go_wp2;go_ret;exact ⟨_,rfl,RB.out,HB1.out⟩
def IsS93 (w0 W:World) (g:Nat) (f0:List Int) (f1:Int):Prop:= ∃A0 c0,W.heap[g]? =some (.cells #[.slice A0 f0.length c0,.int .i64 f1] 93 (0,0))∧w0.heap.size≤g∧Kd.C (Kd.int .u8) w0 A0 f0.length f0
theorem IsS93.grown {w0 W:World} {g:Nat} {f0:List Int} {f1:Int} {W1:World} {row:Option Nat} (h:IsS93 w0 W g f0 f1) (hw:W.grownBy W1 row) (hne:some g≠row):IsS93 w0 W1 g f0 f1:=by
  obtain ⟨A0,c0,hb,hg,hr0⟩:=h;exact ⟨A0,c0,blk_grown hb hw hne,hg,hr0⟩
theorem IsS93.below {w0 W:World} {g:Nat} {f0:List Int} {f1:Int} {W1:World} (h:IsS93 w0 W g f0 f1) (hw:Below W.heap.size W W1):IsS93 w0 W1 g f0 f1:=h.grown (grown_of_below hw none) (by simp)
theorem IsS93.drewN {w0 W:World} {g:Nat} {f0:List Int} {f1:Int} (h:IsS93 w0 W g f0 f1) (m:Nat):IsS93 w0 (W.drewN m) g f0 f1:=h
theorem IsS93.at_ {w0 W:World} {g:Nat} {f0:List Int} {f1:Int} {w':World} {m:Nat} (hq:W.drewN m=w') (h:IsS93 w0 W g f0 f1):IsS93 w0 w' g f0 f1:=by subst hq;exact IsS93.drewN h m
theorem IsS93.apart {w0 W:World} {g:Nat} {f0:List Int} {f1:Int} {α:Type} {d:Kd α} {e:Nat} {base:Nat} {ok:Nat→Prop} {v:Value} {xs:List α} (h:IsS93 w0 W g f0 f1) (ho:d.R e W base ok v xs) (ht: ∀q,q∈e::d.E→q≠93):d.R e W base (fun k=>ok k∧k≠g) v xs:=by
  obtain ⟨A0,c0,hb,hg,hr0⟩:=h;exact Kd.R_types ho hb ht
theorem IsS93.lt {w0 W:World} {g:Nat} {f0:List Int} {f1:Int} (h:IsS93 w0 W g f0 f1):g<W.heap.size:=by
  obtain ⟨A0,c0,hb,hg,hr0⟩:=h;exact blk_lt hb
theorem IsS93.ge {w0 W:World} {g:Nat} {f0:List Int} {f1:Int} (h:IsS93 w0 W g f0 f1):w0.heap.size≤g:=by
  obtain ⟨A0,c0,hb,hg,hr0⟩:=h;exact hg
theorem IsS93.far {w0 W:World} {g:Nat} {f0:List Int} {f1:Int} {p:Addr} (h:IsS93 w0 W g f0 f1) (hne:g≠p.block) (u:Value):IsS93 w0 (W.setCell p u) g f0 f1:=by
  obtain ⟨A0,c0,hb,hg,hr0⟩:=h;exact ⟨A0,c0,blk_far hb hne u,hg,hr0⟩
theorem cellS93_0 {W:World} {g:Nat} {A0:Option Addr} {c0:Nat} {f0:List Int} {f1:Int} (h:W.heap[g]? =some (.cells #[.slice A0 f0.length c0,.int .i64 f1] 93 (0,0))):W.cell? ⟨g,0,none⟩=some (.slice A0 f0.length c0):=(blk_cell h 0).trans rfl
theorem cellS93_1 {W:World} {g:Nat} {A0:Option Addr} {c0:Nat} {f0:List Int} {f1:Int} (h:W.heap[g]? =some (.cells #[.slice A0 f0.length c0,.int .i64 f1] 93 (0,0))):W.cell? ⟨g,1,none⟩=some (.int .i64 f1):=(blk_cell h 1).trans rfl
theorem IsS93.set_1 {w0 W:World} {g:Nat} {f0:List Int} {f1:Int} (h:IsS93 w0 W g f0 f1) (x:Int):IsS93 w0 (W.setCell ⟨g,1,none⟩ (.int .i64 x)) g f0 x:=by
  obtain ⟨A0,c0,hb,hg,hr0⟩:=h;exact ⟨A0,c0,by simpa using blk_set hb 1 (.int .i64 x),hg,hr0⟩
def spec_l6Open.f (l0:List Int):Option (List Int×Int):=if (l0.length:Int)>2000 then (if 2000≤(l0.length:Int) then (some (l0.take 2000,0)) else (none)) else (some (l0,0))
set_option maxHeartbeats 8000000 in
set_option maxRecDepth 100000 in
theorem spec_l6Open.calls (A0:Option Addr) (c0:Nat) (l0:List Int) (r1:List Int) (r2:Int) (w0 w:World) (hB:Below w0.heap.size w0 w) (hr0:Kd.C (Kd.int .u8) w0 A0 l0.length l0) (hc0:l0.length≤c0) (h:spec_l6Open.f l0=some (r1,r2)):
  Calls Try.prog 30 #[.slice A0 l0.length c0] w fun e w'=> ∃g_:Nat,e= .returned (.pointer (some ⟨g_,0,none⟩))∧IsS93 w0 w' g_ r1 r2∧Below w0.heap.size w0 w'∧Below w.heap.size w w':=by
 have hu93:=Try.underlying93;have HR0:=aK hr0;have HC0:=aK hc0;clear hr0 hc0;have HBW:=aK (Below.refl w.heap.size w);have HW0:=aK hB.size;have HB:=aK hB;clear hB;have H:(if (l0.length:Int)>2000 then (if 2000≤(l0.length:Int) then (some (l0.take 2000,0)) else (none)) else (some (l0,0)))=some (r1,r2):=h
 clear h;by_cases c2:(l0.length:Int)>2000
 ·rw [if_pos c2] at H
  have c2b0:decide (2000<(l0.length:Int))=true:=decide_eq_true c2
  have c2b1:decide (2000<l0.length)=true:=decide_eq_true (by omega)
  clear c2;by_cases c3:2000≤(l0.length:Int)
  ·rw [if_pos c3] at H
   have c3b0:=eq_true c3;have c3b1:decide (2000≤(l0.length:Int))=true:=decide_eq_true c3
   clear c3;simp only [Option.some.injEq,Prod.mk.injEq] at H;obtain ⟨rfl,rfl⟩:=H;obtain ⟨i04,hi04,_,hsz4,_⟩:=info_parts info5;obtain ⟨hcut4,hA4,hC4⟩:=print_take_of (P:=Try.prog) (Value.int .u8) 0 22 5 .i64 Try.underlying22 hi04 hsz4 A0 c0 l0 2000 (by omega) (of_decide_eq_true zz3) HC0.out;have HR101:=aK (Kd.C_of_reads (h1:=fun _=>rfl) (hA4 _ (Kd.reads_of_C HR0.out)));have HC101:=aK hC4;clear hA4 hC4 hi04 hsz4;go_enter Try.func30,Try.ntmps30
   go_wp2_with (first|((with_reducible refine gate_dst (N:=10) rfl ?_);refine box_event ?hg (N:=10) ?hd (cs:= #[.slice A0 (l0.take 2000).length c0,.int .i64 0]) (t:=93) ?hr ?_;(case hd=>rfl);(case hg=>rfl);(case hr=>first|(go_simp;done)|(go_simp;rfl));intro gb102 hg w5 hbox hb;have BK102:=aK (hbox);have GW102:=aK ((by rw [hg];exact (below_size zz53):w.heap.size≤gb102));have GE102:=aK ((Nat.le_trans HW0.out (by rw [hg];exact (below_size zz53):w.heap.size≤gb102):w0.heap.size≤gb102));replace HBW:=aK (below_step HBW.out hb);replace HB:=aK (below_step zz1 hb);clear hb hbox hg))
   go_ret;exact ⟨_,rfl,(show IsS93 w0 _ gb102 (l0.take 2000) 0 from ⟨_,_,by (with_reducible repeat (first|refine blk_drewN ?_ _|refine blk_drew ?_|refine blk_alloc ?_ _));exact BK102.out,GE102.out,HR101.out⟩),by repeat (first|(with_reducible first|exact HB.out|apply below_alloc|apply pw_below_drewN|apply below_drew1|refine below_set ?_ GE102.out)|exact HB.out),by repeat (first|(with_reducible first|exact HBW.out|apply below_alloc|apply pw_below_drewN|apply below_drew1|refine below_set ?_ GW102.out)|exact HBW.out)⟩
  ·rw [if_neg c3] at H
   exact absurd H (by simp)
 ·rw [if_neg c2] at H
  have c2b0:decide (2000<(l0.length:Int))=false:=decide_eq_false c2
  have c2b1:decide (2000<l0.length)=false:=decide_eq_false (by omega)
  clear c2;simp only [Option.some.injEq,Prod.mk.injEq] at H;obtain ⟨rfl,rfl⟩:=H;go_enter Try.func30,Try.ntmps30
  go_wp2_with (first|((with_reducible refine gate_dst (N:=10) rfl ?_);refine box_event ?hg (N:=10) ?hd (cs:= #[.slice A0 l0.length c0,.int .i64 0]) (t:=93) ?hr ?_;(case hd=>rfl);(case hg=>rfl);(case hr=>first|(go_simp;done)|(go_simp;rfl));intro gb103 hg w6 hbox hb;have BK103:=aK (hbox);have GW103:=aK ((by rw [hg];exact (below_size zz53):w.heap.size≤gb103));have GE103:=aK ((Nat.le_trans HW0.out (by rw [hg];exact (below_size zz53):w.heap.size≤gb103):w0.heap.size≤gb103));replace HBW:=aK (below_step HBW.out hb);replace HB:=aK (below_step zz1 hb);clear hb hbox hg))
  go_ret;exact ⟨_,rfl,(show IsS93 w0 _ gb103 l0 0 from ⟨_,_,by (with_reducible repeat (first|refine blk_drewN ?_ _|refine blk_drew ?_|refine blk_alloc ?_ _));exact BK103.out,GE103.out,HR0.out⟩),by repeat (first|(with_reducible first|exact HB.out|apply below_alloc|apply pw_below_drewN|apply below_drew1|refine below_set ?_ GE103.out)|exact HB.out),by repeat (first|(with_reducible first|exact HBW.out|apply below_alloc|apply pw_below_drewN|apply below_drew1|refine below_set ?_ GW103.out)|exact HBW.out)⟩
def spec_l6Rd_pick.j0:Nat→Int→Bool→List Int→Int→Option (Int×Int)
  |0,_,_,_,_=>none
  |k+1,x1,x24,x1000,x1001=>if x24=true then (some (0,x1001)) else (if (wrap64 (x1001 - 1))<(x1000.length:Int) then (if 0≤(wrap64 (x1001 - 1)) then (if x1=0 then (none) else (some (Int.tmod (wrap64 (rd x1000 (wrap64 (x1001 - 1)))) x1,x1001))) else (none)) else (if (x1000.length:Int)=0 then (none) else (if 0≤(Int.tmod (wrap64 (x1001 - 1)) (x1000.length:Int)) then (if (Int.tmod (wrap64 (x1001 - 1)) (x1000.length:Int))<(x1000.length:Int) then (if 0≤(Int.tmod (wrap64 ((wrap64 ((wrap64 (x1001 - 1))*7))+3)) (x1000.length:Int)) then (if (Int.tmod (wrap64 ((wrap64 ((wrap64 (x1001 - 1))*7))+3)) (x1000.length:Int))<(x1000.length:Int) then (if x1=0 then (none) else (some (Int.tmod (Go.bits .xor .i64 (wrap64 ((wrap64 ((wrap64 ((wrap64 ((wrap64 (rd x1000 (Int.tmod (wrap64 (x1001 - 1)) (x1000.length:Int))))*131))+(wrap64 ((wrap64 (rd x1000 (Int.tmod (wrap64 ((wrap64 ((wrap64 (x1001 - 1))*7))+3)) (x1000.length:Int))))*1117))))+(wrap64 ((wrap64 (x1001 - 1))*29))))+(wrap64 ((wrap64 (Int.tdiv (wrap64 (x1001 - 1)) (x1000.length:Int)))*53)))) (wrap64 (Int.tdiv (wrap64 ((wrap64 ((wrap64 ((wrap64 ((wrap64 (rd x1000 (Int.tmod (wrap64 (x1001 - 1)) (x1000.length:Int))))*131))+(wrap64 ((wrap64 (rd x1000 (Int.tmod (wrap64 ((wrap64 ((wrap64 (x1001 - 1))*7))+3)) (x1000.length:Int))))*1117))))+(wrap64 ((wrap64 (x1001 - 1))*29))))+(wrap64 ((wrap64 (Int.tdiv (wrap64 (x1001 - 1)) (x1000.length:Int)))*53)))) 64))) x1,x1001))) else (none)) else (none)) else (none)) else (none))))
def spec_l6Rd_pick.f (k:Nat) (s0_0:List Int) (s0_1:Int) (a1:Int):Option (Int×Int):=if a1<1 then (spec_l6Rd_pick.j0 k a1 true s0_0 (wrap64 (s0_1+1))) else (spec_l6Rd_pick.j0 k a1 ((s0_0.length:Int)==0) s0_0 (wrap64 (s0_1+1)))
set_option maxHeartbeats 8000000 in
set_option maxRecDepth 100000 in
theorem spec_l6Rd_pick.calls (k : Nat) (g : Nat) (s0_0 : List Int) (s0_1 : Int) (a1 : Int) (r1 : Int) (r2 : Int) (w0 w : World) (hI : IsS93 w0 w g s0_0 s0_1) (hB : Below w0.heap.size w0 w) (h : spec_l6Rd_pick.f k s0_0 s0_1 a1 = some (r1, r2)) :
  Calls Try.prog 33 #[.pointer (some ⟨g,0,none⟩),.int .i64 a1] w fun e w'=>e= .returned (.int .i64 r1)∧IsS93 w0 w' g s0_0 r2∧Below w0.heap.size w0 w'∧KeepBut w w' g none:=by
 have HI0:=aK hI;have HK:=aK (KeepBut.refl w g none);have HL:=aK hB.size;clear hI;have HW0:=aK hB.size;have HB:=aK hB;clear hB;have H:(if a1<1 then (spec_l6Rd_pick.j0 k a1 true s0_0 (wrap64 (s0_1+1))) else (spec_l6Rd_pick.j0 k a1 ((s0_0.length:Int)==0) s0_0 (wrap64 (s0_1+1))))=some (r1,r2):=h
 clear h;have HC3:=aK H;clear H;obtain ⟨ASz4_0,cSz4_0,HGz4,hgz4,HSz4_0⟩:=HI0.out;have hcz4_0:=cellS93_0 HGz4;have hcz4_1:=cellS93_1 HGz4;have hfz4_1:=blk_frozen HGz4 1;clear HGz4 hgz4;go_enter Try.func33,Try.ntmps33
 go_upto_region 2 with (fail)
 repeat (go_quiet (fail);go_upto_region 2 with (fail))
 go_cut [24] (fun v24 wc=> ∃(kq:Nat) (x24_2:Bool),v24= .bool x24_2∧Aside0 (spec_l6Rd_pick.j0 kq a1 x24_2 s0_0 (wrap64 (s0_1+1))=some (r1,r2))∧Aside0 (kq≤k)∧Aside0 (IsS93 w0 wc g s0_0 (wrap64 (s0_1+1)))∧Aside0 (KeepBut w wc g none)∧Aside0 (Below w0.heap.size w0 wc))
 case first=>
  have H:=HC3.out;clear HC3;by_cases c5:a1<1
  ·rw [if_pos c5] at H
   have c5b0:decide (a1<1)=true:=decide_eq_true c5
   clear c5
   (first|rw [c5b0]|(simp only [i64_w,i32_w];rw [c5b0])|skip)
   have H':=aK H;clear H;go_wp2;repeat (go_quiet (fail);try go_wp2)
   go_meet
   case rel=>exact ⟨_,(true),zz6,H',⟨by first|omega|exact Nat.le_refl _⟩,⟨by repeat (first|(with_reducible first|exact HI0.out|apply IsS93.alloc|apply IsS93.drewN|apply IsS93.drew|apply IsS93.set_1)|exact HI0.out)⟩,⟨by repeat (first|(with_reducible first|exact HK.out|apply KeepBut.set_|apply keep_drewN|apply keep_drew|apply keep_alloc)|exact HK.out)⟩,⟨by repeat (first|(with_reducible first|exact HB.out|apply below_alloc|apply pw_below_drewN|apply below_drew1|refine below_set ?_ (IsS93.ge HI0.out))|exact HB.out)⟩⟩
  ·rw [if_neg c5] at H
   have c5b0:decide (a1<1)=false:=decide_eq_false c5
   clear c5
   (first|rw [c5b0]|(simp only [i64_w,i32_w];rw [c5b0])|skip)
   have H':=aK H;clear H;obtain ⟨ASz6_0,cSz6_0,HGz6,hgz6,HSz6_0⟩:=HI0.out;have hcz6_0:=cellS93_0 HGz6;have hcz6_1:=cellS93_1 HGz6;have hfz6_1:=blk_frozen HGz6 1;clear HGz6 hgz6;go_wp2;repeat (go_quiet (fail);try go_wp2)
   go_meet
   case rel=>exact ⟨_,(((s0_0.length:Int)==0)),zz6,H',⟨by first|omega|exact Nat.le_refl _⟩,⟨by repeat (first|(with_reducible first|exact HI0.out|apply IsS93.alloc|apply IsS93.drewN|apply IsS93.drew|apply IsS93.set_1)|exact HI0.out)⟩,⟨by repeat (first|(with_reducible first|exact HK.out|apply KeepBut.set_|apply keep_drewN|apply keep_drew|apply keep_alloc)|exact HK.out)⟩,⟨by repeat (first|(with_reducible first|exact HB.out|apply below_alloc|apply pw_below_drewN|apply below_drew1|refine below_set ?_ (IsS93.ge HI0.out))|exact HB.out)⟩⟩
 case rest =>
  clear HC3;(try clear p2);(try clear c3);(try clear c5);(try clear c5b0);(try clear p6);(try clear hcz4_0);(try clear hcz4_1);(try clear hcz6_0);(try clear hcz6_1);(try clear hfz4_1);(try clear hfz6_1);obtain ⟨kq,x24_2,rfl,HA,HJ2,HI0,HK,HB⟩:=hcut
  cases kq with
  |zero=>exact absurd HA.out (by simp [spec_l6Rd_pick.j0])
  | succ kj2 =>
   have H:=HA.out;clear HA;simp only [spec_l6Rd_pick.j0] at H;by_cases c7:x24_2=true
   ·subst c7
    rw [if_pos rfl] at H;simp only [Option.some.injEq,Prod.mk.injEq] at H;obtain ⟨rfl,rfl⟩:=H;go_wp2;repeat (go_quiet (fail);try go_wp2)
    go_ret;exact ⟨by first|rfl|(simp [errW_none,errW_some]<;>rfl)|(simp [*,errW_none,errW_some]<;>rfl),by repeat (first|(with_reducible first|exact HI0.out|apply IsS93.alloc|apply IsS93.drewN|apply IsS93.drew|apply IsS93.set_1)|exact HI0.out),by repeat (first|(with_reducible first|exact HB.out|apply below_alloc|apply pw_below_drewN|apply below_drew1|refine below_set ?_ (IsS93.ge HI0.out))|exact HB.out),by repeat (first|(with_reducible first|exact HK.out|apply KeepBut.set_|apply keep_drewN|apply keep_drew|apply keep_alloc)|exact HK.out)⟩
   ·replace c7 := Bool.eq_false_iff.mpr c7
    subst c7;rw [if_neg (show¬(false=true) by decide)] at H;by_cases c8:(wrap64 ((wrap64 (s0_1+1)) - 1))<(s0_0.length:Int)
    ·rw [if_pos c8] at H
     have c8b0:decide ((wrap64 ((wrap64 (s0_1+1)) - 1))<(s0_0.length:Int))=true:=decide_eq_true c8
     clear c8;obtain ⟨ji9,hji9⟩: ∃j_:Int,(wrap64 ((wrap64 (s0_1+1)) - 1))=j_:=⟨_,rfl⟩;replace H:(if 0≤(ji9) then (if a1=0 then (none) else (some (Int.tmod (wrap64 (rd s0_0 (ji9))) a1,(wrap64 (s0_1+1))))) else (none))=some (r1,r2):=by first|(rw [hji9] at H;exact H)|(simp only [hji9] at H ⊢;exact H)
     (try rw [hji9] at c8b0)
     have hji9w:(IntKind.i64.wrap ((wrap64 (s0_1+1)) - 1))=ji9:=(i64_w _).trans hji9
     by_cases c10:0≤(ji9)
     ·rw [if_pos c10] at H
      have c10b0:decide (0≤(ji9))=true:=decide_eq_true c10
      clear c10;by_cases c11:a1=0
      ·rw [if_pos c11] at H
       exact absurd H (by simp)
      ·rw [if_neg c11] at H
       have c11b0:(a1==0)=false:=beq_eq_false_iff_ne.mpr c11
       have c11b1:(a1 !=0)=true:=bne_iff_ne.mpr c11
       simp only [Option.some.injEq,Prod.mk.injEq] at H;obtain ⟨rfl,rfl⟩:=H;obtain ⟨ASz12_0,cSz12_0,HGz12,hgz12,HSz12_0⟩:=HI0.out;have hcz12_0:=cellS93_0 HGz12;have hcz12_1:=cellS93_1 HGz12;have hfz12_1:=blk_frozen HGz12 1;clear HGz12 hgz12;have p104:0≤((ji9):Int):=of_decide_eq_true zz3
       have q104:(ji9)<(s0_0.length:Int):=of_decide_eq_true zz3
       obtain ⟨ad104,e104,hx104_0⟩:=Kd.at_int HSz12_0 (ji9) p104 q104
       cases e104
       replace hx104_0:=pw_cell_below HB.out hx104_0;replace p104:=eq_true p104;replace q104:=eq_true q104;go_wp2;repeat (go_quiet (fail);try go_wp2)
       go_ret;exact ⟨by first|rfl|(simp [errW_none,errW_some]<;>rfl)|(simp only [←hji9];first|rfl|(simp [errW_none,errW_some]<;>rfl))|(simp [*,errW_none,errW_some]<;>rfl),by repeat (first|(with_reducible first|exact HI0.out|apply IsS93.alloc|apply IsS93.drewN|apply IsS93.drew|apply IsS93.set_1)|exact HI0.out),by repeat (first|(with_reducible first|exact HB.out|apply below_alloc|apply pw_below_drewN|apply below_drew1|refine below_set ?_ (IsS93.ge HI0.out))|exact HB.out),by repeat (first|(with_reducible first|exact HK.out|apply KeepBut.set_|apply keep_drewN|apply keep_drew|apply keep_alloc)|exact HK.out)⟩
     ·rw [if_neg c10] at H
      exact absurd H (by simp)
    ·rw [if_neg c8] at H
     have c8b0:decide ((wrap64 ((wrap64 (s0_1+1)) - 1))<(s0_0.length:Int))=false:=decide_eq_false c8
     clear c8;by_cases c13:(s0_0.length:Int)=0
     ·rw [if_pos c13] at H
      exact absurd H (by simp)
     ·rw [if_neg c13] at H
      have c13b0:((s0_0.length:Int)==0)=false:=beq_eq_false_iff_ne.mpr c13
      have c13b1:((s0_0.length:Int) !=0)=true:=bne_iff_ne.mpr c13
      have c13b2: ¬(s0_0=[]):=fun h_=>c13 (by rw [h_];rfl)
      obtain ⟨ji14,hji14⟩: ∃j_:Int,(Int.tmod (wrap64 ((wrap64 (s0_1+1)) - 1)) (s0_0.length:Int))=j_:=⟨_,rfl⟩;replace H:(if 0≤(ji14) then (if (ji14)<(s0_0.length:Int) then (if 0≤(Int.tmod (wrap64 ((wrap64 ((wrap64 ((wrap64 (s0_1+1)) - 1))*7))+3)) (s0_0.length:Int)) then (if (Int.tmod (wrap64 ((wrap64 ((wrap64 ((wrap64 (s0_1+1)) - 1))*7))+3)) (s0_0.length:Int))<(s0_0.length:Int) then (if a1=0 then (none) else (some (Int.tmod (Go.bits .xor .i64 (wrap64 ((wrap64 ((wrap64 ((wrap64 ((wrap64 (rd s0_0 (ji14)))*131))+(wrap64 ((wrap64 (rd s0_0 (Int.tmod (wrap64 ((wrap64 ((wrap64 ((wrap64 (s0_1+1)) - 1))*7))+3)) (s0_0.length:Int))))*1117))))+(wrap64 ((wrap64 ((wrap64 (s0_1+1)) - 1))*29))))+(wrap64 ((wrap64 (Int.tdiv (wrap64 ((wrap64 (s0_1+1)) - 1)) (s0_0.length:Int)))*53)))) (wrap64 (Int.tdiv (wrap64 ((wrap64 ((wrap64 ((wrap64 ((wrap64 (rd s0_0 (ji14)))*131))+(wrap64 ((wrap64 (rd s0_0 (Int.tmod (wrap64 ((wrap64 ((wrap64 ((wrap64 (s0_1+1)) - 1))*7))+3)) (s0_0.length:Int))))*1117))))+(wrap64 ((wrap64 ((wrap64 (s0_1+1)) - 1))*29))))+(wrap64 ((wrap64 (Int.tdiv (wrap64 ((wrap64 (s0_1+1)) - 1)) (s0_0.length:Int)))*53)))) 64))) a1,(wrap64 (s0_1+1))))) else (none)) else (none)) else (none)) else (none))=some (r1,r2):=by first|(rw [hji14] at H;exact H)|(simp only [hji14] at H ⊢;exact H)
      by_cases c15:0≤(ji14)
      ·rw [if_pos c15] at H
       have c15b0:decide (0≤(ji14))=true:=decide_eq_true c15
       clear c15;by_cases c16:(ji14)<(s0_0.length:Int)
       ·rw [if_pos c16] at H
        have c16b0:decide ((ji14)<(s0_0.length:Int))=true:=decide_eq_true c16
        clear c16;obtain ⟨ji17,hji17⟩: ∃j_:Int,(Int.tmod (wrap64 ((wrap64 ((wrap64 ((wrap64 (s0_1+1)) - 1))*7))+3)) (s0_0.length:Int))=j_:=⟨_,rfl⟩;replace H:(if 0≤(ji17) then (if (ji17)<(s0_0.length:Int) then (if a1=0 then (none) else (some (Int.tmod (Go.bits .xor .i64 (wrap64 ((wrap64 ((wrap64 ((wrap64 ((wrap64 (rd s0_0 (ji14)))*131))+(wrap64 ((wrap64 (rd s0_0 (ji17)))*1117))))+(wrap64 ((wrap64 ((wrap64 (s0_1+1)) - 1))*29))))+(wrap64 ((wrap64 (Int.tdiv (wrap64 ((wrap64 (s0_1+1)) - 1)) (s0_0.length:Int)))*53)))) (wrap64 (Int.tdiv (wrap64 ((wrap64 ((wrap64 ((wrap64 ((wrap64 (rd s0_0 (ji14)))*131))+(wrap64 ((wrap64 (rd s0_0 (ji17)))*1117))))+(wrap64 ((wrap64 ((wrap64 (s0_1+1)) - 1))*29))))+(wrap64 ((wrap64 (Int.tdiv (wrap64 ((wrap64 (s0_1+1)) - 1)) (s0_0.length:Int)))*53)))) 64))) a1,(wrap64 (s0_1+1))))) else (none)) else (none))=some (r1,r2):=by first|(rw [hji17] at H;exact H)|(simp only [hji17] at H ⊢;exact H)
        by_cases c18:0≤(ji17)
        ·rw [if_pos c18] at H
         have c18b0:decide (0≤(ji17))=true:=decide_eq_true c18
         clear c18;by_cases c19:(ji17)<(s0_0.length:Int)
         ·rw [if_pos c19] at H
          have c19b0:decide ((ji17)<(s0_0.length:Int))=true:=decide_eq_true c19
          clear c19;by_cases c20:a1=0
          ·rw [if_pos c20] at H
           exact absurd H (by simp)
          ·rw [if_neg c20] at H
           have c20b0:(a1==0)=false:=beq_eq_false_iff_ne.mpr c20
           have c20b1:(a1 !=0)=true:=bne_iff_ne.mpr c20
           simp only [Option.some.injEq,Prod.mk.injEq] at H;obtain ⟨rfl,rfl⟩:=H;obtain ⟨ASz21_0,cSz21_0,HGz21,hgz21,HSz21_0⟩:=HI0.out;have hcz21_0:=cellS93_0 HGz21;have hcz21_1:=cellS93_1 HGz21;have hfz21_1:=blk_frozen HGz21 1;clear HGz21 hgz21;have p105:0≤((ji14):Int):=of_decide_eq_true zz3
           have q105:(ji14)<(s0_0.length:Int):=of_decide_eq_true zz3
           obtain ⟨ad105,e105,hx105_0⟩:=Kd.at_int HSz21_0 (ji14) p105 q105
           cases e105
           replace hx105_0:=pw_cell_below HB.out hx105_0;replace p105:=eq_true p105;replace q105:=eq_true q105;have p106:0≤((ji17):Int):=of_decide_eq_true zz3
           have q106:(ji17)<(s0_0.length:Int):=of_decide_eq_true zz3
           obtain ⟨ad106,e106,hx106_0⟩:=Kd.at_int HSz21_0 (ji17) p106 q106;obtain rfl:ad105=ad106:=(by injection e106);replace hx106_0:=pw_cell_below HB.out hx106_0;replace p106:=eq_true p106;replace q106:=eq_true q106;go_wp2;repeat (go_quiet (fail);try go_wp2)
           go_ret;exact ⟨by first|rfl|(simp [errW_none,errW_some]<;>rfl)|(simp only [←hji14,←hji17];first|rfl|(simp [errW_none,errW_some]<;>rfl))|(simp [*,errW_none,errW_some]<;>rfl),by repeat (first|(with_reducible first|exact HI0.out|apply IsS93.alloc|apply IsS93.drewN|apply IsS93.drew|apply IsS93.set_1)|exact HI0.out),by repeat (first|(with_reducible first|exact HB.out|apply below_alloc|apply pw_below_drewN|apply below_drew1|refine below_set ?_ (IsS93.ge HI0.out))|exact HB.out),by repeat (first|(with_reducible first|exact HK.out|apply KeepBut.set_|apply keep_drewN|apply keep_drew|apply keep_alloc)|exact HK.out)⟩
         ·rw [if_neg c19] at H
          exact absurd H (by simp)
        ·rw [if_neg c18] at H
         exact absurd H (by simp)
       ·rw [if_neg c16] at H
        exact absurd H (by simp)
      ·rw [if_neg c15] at H
       exact absurd H (by simp)
end Go.Proofs.Ytnlieahdakafbaa.K
