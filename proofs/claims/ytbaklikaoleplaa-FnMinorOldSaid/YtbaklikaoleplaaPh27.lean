import Derived.Test.YtbaklikaoleplaaPh24
import Derived.Test.YtbaklikaoleplaaPh25
import Derived.Test.YtbaklikaoleplaaPh26
import Derived.Lib.SliceRun
import Derived.WalkMore
set_option maxHeartbeats 64000000
set_option maxRecDepth 100000
namespace Go.Proofs.Ytbaklikaoleplaa.K
open Go.RowKit Go.Proofs.YtbaklikaoleplaaW.PrintWords Go.Proofs.YtbaklikaoleplaaW.PrintLast Go.Proofs.YtbaklikaoleplaaW.PrintMore
attribute [local go_sem] gD gB gY gW fR fQ gC gA
set_option linter.unusedVariables false
set_option linter.unusedSimpArgs false
def bPb (xs:List Int) (i:Nat) (ys:List Int):List Int:=xs.take i++ys++xs.drop (i+ys.length)
def bJb (m:Mm) (s:Mv) (a:Int):Option Mv:=
 if (nO s.mv a).isSome=true∨s.full=true then some s
 else (tY m a).bind fun z=>
  if z>(s.tw.length:Int) - s.o then some {s with full:=true}
  else if 1≤a∧0<z∧a - 1+z≤m.words.length∧0≤s.o∧m.words.length≤2000000∧s.tw.length≤2000000∧s.mv.length<2000000 then some {s with tw:=bPb s.tw s.o.toNat ((m.words.take (a - 1+z).toNat).drop (a - 1).toNat),o:=s.o+z,mv:=s.mv++[(a,s.o+1)]}
  else none
def bKq (b:Nat) (w0:World) (g gm B gw cW:Nat) (AC:Option Addr) (cC:Nat) (s':Mv) (w:World) (e:Ending) (w':World):Prop:=e= .returned (.tuple #[])∧∃(AO:Option Addr) (cO:Nat),Mg b w0 g gm B gw cW AC cC AO cO w' s' s'.mv∧qF w w'
theorem bFk (b:Nat) (w0:World) (g gm B gw cW:Nat) (AC:Option Addr) (cC:Nat) (AO:Option Addr) (cO:Nat) (m:Mm) (s s':Mv) (a:Int) (w:World) (hm:MV w0 g m) (hb0:b=w0.heap.size) (hg:Mg b w0 g gm B gw cW AC cC AO cO w s s.mv) (ha:bQh a) (ho: -2000000≤s.o∧s.o≤2000000) (hl:s.tw.length≤2000000) (h:bJb m s a=some s'):
  Calls Try.prog 82 #[.pointer (some ⟨gm,0,none⟩),.int .i64 a] w (bKq b w0 g gm B gw cW AC cC s' w):=by
 subst hb0;have hmw:MV w g m:=dH hm hg.be
 have HM:=aK hmw;have HM0:=aK hm;have HG:=aK hg;have HWF:=aK ha;have HSO:=aK (And.intro ho hl);have hlk:=hg.mp.look ha 88 Try.underlying88;have HK:=aK (qF.refl w);clear hmw hm hg ha ho hl;unfold bJb at h;have q0:=(bA HG.out.bx 0).trans rfl;have q1:=(bA HG.out.bx 1).trans rfl;have q2:=(bA HG.out.bx 2).trans rfl;have q3:=(bA HG.out.bx 3).trans rfl;have q4:=(bA HG.out.bx 4).trans rfl;have q5:=(bA HG.out.bx 5).trans rfl;have q6:=(bA HG.out.bx 6).trans rfl;have q7:=(bA HG.out.bx 7).trans rfl;have q8:=(bA HG.out.bx 8).trans rfl
 cases hm_:nO s.mv a with
 |some r=>
  rw [hm_] at hlk h;simp only [Option.getD_some,Option.isSome_some] at hlk;simp only [Option.isSome_some,true_or,yL] at h;obtain rfl:=bE h;clear h hm_;go_enter Try.func82,Try.ntmps82;go_wp2
  go_end0
  exact ⟨rfl,_,_,HG.out,HK.out⟩
 | none =>
  rw [hm_] at hlk h;simp only [Option.getD_none,Option.isSome_none] at hlk;have HNo:=aK hm_;clear hm_
  cases hf:s.full with
  |true=>
   rw [hf] at h;rw [if_pos (Or.inr rfl)] at h;obtain rfl:=bE h;rw [hf] at q8;clear h;go_enter Try.func82,Try.ntmps82;go_wp2
   go_end0
   exact ⟨rfl,_,_,HG.out,HK.out⟩
  | false =>
   rw [hf] at h q8;rw [if_neg (by simp)] at h;obtain ⟨z,hz,h⟩:=Option.bind_eq_some_iff.mp h;have HZ:=aK hz;have H:=aK h;have HF:=aK hf;clear hz h hf;go_enter Try.func82,Try.ntmps82
   go_wp2_with (go_at_call 69;refine bF (fun hng=>?_))
   refine hng ?_;clear hng;refine (rN g a _).mono ?_;rintro e w1 ⟨rfl,hb⟩;replace HG:=aK (HG.out.below hb);replace HM:=aK (dH HM.out hb);replace HK:=aK (HK.out.below hb);clear q0 q1 q2 q3 q4 q5 q6 q7 q8 hb;clear hlk
   go_wp2_with (go_at_call 106;refine bF (fun hng=>?_))
   refine hng ?_;clear hng;refine (bFc g m a z _ HM.out HZ.out).mono ?_;rintro e w2 ⟨rfl,hb⟩;replace HG:=aK (HG.out.below hb);replace HM:=aK (dH HM.out hb);replace HK:=aK (HK.out.below hb);clear hb;obtain ⟨d,hd⟩: ∃d,d=(s.tw.length:Int) - s.o:=⟨_,rfl⟩;have u1:IntKind.i64.wrap ((s.tw.length:Int) - s.o)=d:=by rw [hd];exact dD _ (by have:=HSO.out;omega)
   have HD:=aK hd;clear hd;have q0:=(bA HG.out.bx 0).trans rfl;have q1:=(bA HG.out.bx 1).trans rfl;have q2:=(bA HG.out.bx 2).trans rfl;have q3:=(bA HG.out.bx 3).trans rfl;have q4:=(bA HG.out.bx 4).trans rfl;have q5:=(bA HG.out.bx 5).trans rfl;have q6:=(bA HG.out.bx 6).trans rfl;have q7:=(bA HG.out.bx 7).trans rfl;have q8:=(bA HG.out.bx 8).trans rfl;by_cases c1:z>d
   ·have d1 : decide (z > d) = true := bD c1
    have h:=H.out;rw [←HD.out,if_pos c1] at h;obtain rfl:=bE h;clear h c1 H;go_wp2;refine sT 14 (S:=fun w'=>w'.cell? ⟨gm,1,none⟩=some (.slice (some ⟨gw,0,none⟩) s.tw.length cW)∧w'.cell? ⟨gm,4,none⟩=some (.int .i64 s.o)) (ds:=[]) ⟨(by go_simp),(by go_simp)⟩ (fun hHeld=>?_);refine cJ 0 ?_;refine cJ 1 ?_;refine cJ 2 ?_;refine cJ 3 ?_;refine cJ 4 ?_;refine cJ 7 ?_;refine cJ 8 ?_;refine cJ 9 ?_;refine cJ 10 ?_;refine tS 5 35 (lA 14 1983) rfl rfl (by kernel_rfl) hHeld bAe ?_;refine cJ 6 ?_;refine tS 11 41 (lA 14 4095) rfl rfl (by kernel_rfl) hHeld bAe ?_;refine cJ 12 ?_;refine cJ 13 ?_;refine gT (by kernel_rfl) ?_;clear hHeld;clear q0 q1 q2 q3 q4 q5 q6 q7 q8;replace HG:=aK (HG.out.below (bG (bH w2.heap.size w2)));replace HM:=aK (dH HM.out (bG (bH w2.heap.size w2)));replace HK:=aK (HK.out.below (bG (bH w2.heap.size w2)));generalize World.drew w2=w3 at HG HM HK ⊢;have q0:=(bA HG.out.bx 0).trans rfl;have q1:=(bA HG.out.bx 1).trans rfl;have q2:=(bA HG.out.bx 2).trans rfl;have q3:=(bA HG.out.bx 3).trans rfl;have q4:=(bA HG.out.bx 4).trans rfl;have q5:=(bA HG.out.bx 5).trans rfl;have q6:=(bA HG.out.bx 6).trans rfl;have q7:=(bA HG.out.bx 7).trans rfl;have q8:=(bA HG.out.bx 8).trans rfl;have f8:=bL HG.out.bx 8
    go_wp2_with ((with_reducible refine fX (t:=4) (p:=46) rfl ?_);refine bF (fun hng=>?_))
    refine hng ?_;clear hng;refine fN (t:=4) (p:=46) (v:=?vo8) (w1:=(w3.setCell ⟨gm,8,none⟩ (.bool true))) ?hg ?ho ?hn ?hr ?_
    (case ho=>rfl)
    (case hg=>rfl)
    (case hn=>rfl)
    (case hr=>first|(go_simp;done)|(go_simp;rfl))
    intro w4 hw;have hn:=HG.out.fullS true;rw [←hw] at hn;clear hw f8 q0 q1 q2 q3 q4 q5 q6 q7 q8;go_wp2
    go_end0
    exact ⟨rfl,_,_,hn.1,HK.out.trans hn.2⟩
   ·have d1 : decide (z > d) = false := bM c1
    have h:=H.out;rw [←HD.out,if_neg c1] at h
    split at h
    case isFalse=>simp at h
    case isTrue hx=>
    have HS':=aK (bE h);have HX:=aK hx;have HC1:=aK c1;clear h hx c1 H;go_wp2;refine sT 14 (S:=fun w'=>w'.cell? ⟨gm,1,none⟩=some (.slice (some ⟨gw,0,none⟩) s.tw.length cW)∧w'.cell? ⟨gm,4,none⟩=some (.int .i64 s.o)) (ds:=[]) ⟨(by go_simp),(by go_simp)⟩ (fun hHeld=>?_);refine cJ 0 ?_;refine cJ 1 ?_;refine cJ 2 ?_;refine cJ 3 ?_;refine cJ 4 ?_;refine cJ 7 ?_;refine cJ 8 ?_;refine cJ 9 ?_;refine cJ 10 ?_;refine tS 5 35 (lA 14 1983) rfl rfl (by kernel_rfl) hHeld bAe ?_;refine cJ 6 ?_;refine tS 11 41 (lA 14 4095) rfl rfl (by kernel_rfl) hHeld bAe ?_;refine cJ 12 ?_;refine cJ 13 ?_;refine gT (by kernel_rfl) ?_;clear hHeld;clear q0 q1 q2 q3 q4 q5 q6 q7 q8;replace HG:=aK (HG.out.below (bG (bH w2.heap.size w2)));replace HM:=aK (dH HM.out (bG (bH w2.heap.size w2)));replace HK:=aK (HK.out.below (bG (bH w2.heap.size w2)));generalize World.drew w2=w3 at HG HM HK ⊢;have q0:=(bA HG.out.bx 0).trans rfl;have q1:=(bA HG.out.bx 1).trans rfl;have q2:=(bA HG.out.bx 2).trans rfl;have q3:=(bA HG.out.bx 3).trans rfl;have q4:=(bA HG.out.bx 4).trans rfl;have q5:=(bA HG.out.bx 5).trans rfl;have q6:=(bA HG.out.bx 6).trans rfl;have q7:=(bA HG.out.bx 7).trans rfl;have q8:=(bA HG.out.bx 8).trans rfl;obtain ⟨AW,cM,ACm,cC',AF,cF,AB,cB,m0,mw,_,_,_,lw,_,_,_⟩:=HM.out;have g0:=(bA m0 0).trans rfl;have hx:=HX.out;have hlw:=(show m.words.length≤cM from lw);obtain ⟨ad,rfl,_⟩:=mw.2.2 (by omega);have MWs:=aK mw;have LWs:=aK hlw;have GW:=aK (show s.tw.length≤cW from (cD HG.out.rw_).2.1);obtain ⟨j,hj⟩: ∃j,j=a - 1:=⟨_,rfl⟩;obtain ⟨e,he⟩: ∃e,e=j+z:=⟨_,rfl⟩;have HJ:=aK (And.intro hj he);have v1:wrap64 (a - 1)=j:=by rw [hj];unfold wrap64;omega
    have v2:wrap64 (j+z)=e:=by rw [he];unfold wrap64;omega
    have p1:=bO (show 0≤s.o by omega);have p2:=bO (show s.o≤(s.tw.length:Int) by have:=HD.out;have:=HC1.out;omega);have p3:=pO (show¬cW=s.o.toNat by have:=GW.out;have:=HD.out;have:=HC1.out;omega);have p4:=bO (show 0≤e by omega);have p5:=bO (show e≤(cM:Int) by omega);have p6:=bO (show 0≤j by omega);have p7:=bO (show j≤max e 0 by omega);have p8:=pO (show¬cM=j.toNat by omega);clear m0 mw lw hx hlw hj he;go_wp2;refine sT 27 (S:=fun w'=>w'.cell? ⟨gm,0,none⟩=some (.pointer (some ⟨g,0,none⟩))∧w'.cell? ⟨gm,1,none⟩=some (.slice (some ⟨gw,0,none⟩) s.tw.length cW)∧w'.cell? ⟨gm,4,none⟩=some (.int .i64 s.o)∧w'.cell? ⟨g,0,none⟩=some (.slice (some ad) m.words.length cM)) (ds:=[26]) ⟨(by go_simp),(by go_simp),(by go_simp),(by go_simp)⟩ (fun hHeld=>?_);replace HG:=aK (HG.out.below (bG (bH w3.heap.size w3)));replace HK:=aK (HK.out.below (bG (bH w3.heap.size w3)));replace MWs:=aK (cG MWs.out (bG (bH w3.heap.size w3)));clear HM;generalize World.drew w3=wt at HG HK MWs hHeld ⊢;obtain ⟨w4,hcp,hrw,hch⟩:=bSe (i:=s.o.toNat) (n:=e.toNat - j.toNat) (c:=cM - j.toNat) (c2:=cW - s.o.toNat) (ys:=(m.words.take e.toNat).drop j.toNat) (ad:=ad.add j.toNat) HG.out.rw_ (by have h_:=Kd.C_mid (lo:=j.toNat) (hi:=e.toNat) (c:=cM) MWs.out (by have:=HJ.out;have:=HX.out;omega) (by have:=HJ.out;have:=HX.out;omega) LWs.out;rw [if_neg (of_eq_false p8)] at h_;rw [dJ,dB,kL (by have:=HJ.out;have:=HX.out;omega)] at h_;rw [Option.map_some] at h_;rw [show j.toNat*(Kd.int .i64).sz=j.toNat from pI _] at h_;exact h_) (by have:=HJ.out;have:=HX.out;have:=HD.out;have:=HC1.out;omega) (by have:=HJ.out;have:=HX.out;omega) 23 23 3 Try.underlying23;refine cJ 0 ?_;refine cJ 1 ?_;refine cJ 2 ?_;refine cJ 3 ?_;refine cJ 5 ?_;refine cJ 6 ?_;refine cJ 7 ?_;refine cJ 8 ?_;refine cJ 11 ?_;refine cJ 12 ?_;refine cJ 13 ?_;refine cJ 19 ?_;refine cJ 20 ?_;refine cJ 21 ?_;refine cJ 22 ?_;refine cJ 23 ?_;refine cJ 24 ?_;refine tS 4 51 (lA 27 33044991) rfl rfl (by kernel_rfl) hHeld sM ?_;refine tS 9 56 (lA 27 33045503) rfl rfl (by kernel_rfl) hHeld sM ?_;refine cJ 10 ?_;refine tS 14 61 (lA 27 33062911) rfl rfl (by kernel_rfl) hHeld sM ?_;refine cJ 15 ?_;refine cJ 16 ?_;refine cJ 17 ?_;refine tS 18 65 (lA 27 33554431) rfl rfl (by kernel_rfl) hHeld sM ?_;refine cJ 25 ?_;refine qL (i:=26) (N:=some 73) (lA 27 134217727) rfl rfl (by kernel_rfl) (by decide) (fun K hK=>?_);refine copyK_ (by rfl) rfl rfl rfl rfl hcp ?_;refine hK.out _ _ ?_;clear hK K;refine nS 73 ?_;refine gT (by kernel_rfl) ?_;clear hHeld hcp p1 p2 p3 p4 p5 p6 p7 p8 v1 v2 u1 d1 g0 q0 q1 q2 q3 q4 q5 q6 q7 q8;have hn:=HG.out.words hch hrw (by rw [cH,cH,dB,dJ,dJ,dB];have:=HJ.out;have:=HX.out;have:=HD.out;have:=HC1.out;omega);have HG5:=aK hn.1;replace HK:=aK (HK.out.trans hn.2);clear hn hch hrw HG MWs LWs GW;obtain ⟨o1,ho1⟩: ∃x,x=s.o+1:=⟨_,rfl⟩;obtain ⟨o2,ho2⟩: ∃x,x=s.o+z:=⟨_,rfl⟩;have v1:wrap64 (s.o+1)=o1:=by rw [ho1];unfold wrap64;have:=HSO.out;omega
    have v2:wrap64 (s.o+z)=o2:=by rw [ho2];unfold wrap64;have:=HSO.out;have:=HX.out;have:=HD.out;have:=HC1.out;omega
    have HO1:=aK ho1;have HO2:=aK ho2;clear ho1 ho2;have q0:=(bA HG5.out.bx 0).trans rfl;have q1:=(bA HG5.out.bx 1).trans rfl;have q2:=(bA HG5.out.bx 2).trans rfl;have q3:=(bA HG5.out.bx 3).trans rfl;have q4:=(bA HG5.out.bx 4).trans rfl;have q5:=(bA HG5.out.bx 5).trans rfl;have q6:=(bA HG5.out.bx 6).trans rfl;have q7:=(bA HG5.out.bx 7).trans rfl;have q8:=(bA HG5.out.bx 8).trans rfl;go_wp2;refine sT 12 (S:=fun w'=>w'.cell? ⟨gm,6,none⟩=some (.map (some B))∧w'.cell? ⟨gm,4,none⟩=some (.int .i64 s.o)) (ds:=[11]) ⟨(by go_simp),(by go_simp)⟩ (fun hHeld=>?_);replace HG5:=aK (HG5.out.below (bG (bH w4.heap.size w4)));replace HK:=aK (HK.out.below (bG (bH w4.heap.size w4)));generalize World.drew w4=wt at HG5 HK hHeld ⊢;obtain ⟨w5,hmu,hom,hch⟩:=HG5.out.mp.put HWF.out (show bQh o1 by unfold bQh;exact WalkArith.wf_i64 (by have:=HO1.out;have:=HSO.out;omega)) HNo.out (by have:=HX.out;omega) 88 Try.underlying88;rw [←v1] at hmu;refine cJ 0 ?_;refine cJ 1 ?_;refine cJ 2 ?_;refine cJ 4 ?_;refine cJ 5 ?_;refine cJ 6 ?_;refine cJ 7 ?_;refine cJ 8 ?_;refine tS 3 77 (lA 12 511) rfl rfl (by kernel_rfl) hHeld bAe ?_;refine tS 9 83 (lA 12 1023) rfl rfl (by kernel_rfl) hHeld bAe ?_;refine cJ 10 ?_;refine qL (i:=11) (N:=none) (lA 12 4095) rfl rfl (by kernel_rfl) (by decide) (fun K hK=>?_);refine mapK_ (by rfl) rfl rfl rfl rfl rfl hmu ?_;refine hK.out _ _ ?_;clear hK K;refine gT (by kernel_rfl) ?_;clear hHeld hmu q0 q1 q2 q3 q4 q5 q6 q7 q8;have hn:=HG5.out.map hch hom;have HG6:=aK hn.1;replace HK:=aK (HK.out.trans hn.2);clear hn hch hom HG5;have q7:=(bA HG6.out.bx 7).trans rfl
    go_wp2_with ((with_reducible refine jK (b:= .append) (xs:= #[.tmp 89,.tmp 91]) rfl ?_);refine bF (fun hng=>?_))
    refine hng ?_;clear hng;refine sE (Kd.int .i64) (w0:=w0) w0.heap.size rfl (.tmp 89) (.tmp 91) 23 3 (.int .i64 0) 8 rfl Try.underlying23 qT rfl (by decide) (by omega) (.slice AO s.mv.length cO) (s.mv.map Prod.fst) a [.int .i64 a] (fun k=>(k≠gm∧k≠B∧k≠gw)∧some k≠(Value.slice AC s.tc.length cC).ownBlock) (fun _=>False) rfl rfl ?aP (fun _ hk=>hk.elim) ?aF ?aO ?aB ?aS ?aL ?_
    (case aP=>exact rfl)
    (case aB=>exact HG6.out.be)
    (case aF=>exact fun k hk=>⟨⟨by have:=dN HG6.out.bx;omega,by have:=HG6.out.mp.lt;omega,fun e=>by have:=pM HG6.out.rw_ gw rfl;omega⟩,fun e=>by have:=pM HG6.out.rc k e.symm;omega⟩)
    (case aO=>exact HG6.out.ro)
    (case aS=>exact HG6.out.sz)
    (case aL=>have:=HX.out;rw [dP];omega)
    intro v92 w6 ho hbn hgr hat;obtain ⟨AN,cN,rfl⟩:=cL ho;have hn:=HG6.out.ord (a,o1) rfl ho hgr;have hbx:=hn.2.2.trans HG6.out.bx;have HN7:=aK (And.intro hn.1 hn.2.1);have n7:=(bA hbx 7).trans rfl;have f7:=bL hbx 7;have n4:=(bA hbx 4).trans rfl;have f4:=bL hbx 4;clear ho hbn hgr hat hn hbx;clear q7;go_wp2
    go_end0
    have hs':=HS'.out;have hj:=HJ.out;have hx:=HX.out;have hlen:((m.words.take e.toNat).drop j.toNat).length=e.toNat - j.toNat:=by rw [dJ,dB,kL (by omega)]
    have hfin:s'=({s with tw:=s.tw.take s.o.toNat++(m.words.take e.toNat).drop j.toNat++s.tw.drop (s.o.toNat+(e.toNat - j.toNat)),o:=o2,mv:=s.mv++[(a,o1)]}:Mv):=by
     rw [←hs',HO1.out,HO2.out,HF.out,←hlen,hj.2,hj.1];rfl
    subst hfin;have h7:=HN7.out;rw [show (List.map Prod.fst s.mv++[a]).length=s.mv.length+1 by simp] at h7;have hn:=h7.1.oldS o2;exact ⟨rfl,AN,cN,hn.1,(HK.out.trans h7.2).trans hn.2⟩
def bOo (m:Mm) (s:Mv) (a:Int):Option Mv:=if a=0 then some s else if a>m.young then some s else bJb m s a
theorem vP (b:Nat) (w0:World) (g gm B gw cW:Nat) (AC:Option Addr) (cC:Nat) (AO:Option Addr) (cO:Nat) (m:Mm) (s s':Mv) (a:Int) (w:World) (hm:MV w0 g m) (hb0:b=w0.heap.size) (hg:Mg b w0 g gm B gw cW AC cC AO cO w s s.mv) (ha:bQh a) (ho: -2000000≤s.o∧s.o≤2000000) (hl:s.tw.length≤2000000) (h:bOo m s a=some s'):
  Calls Try.prog 53 #[.pointer (some ⟨gm,0,none⟩),.int .i64 a] w (bKq b w0 g gm B gw cW AC cC s' w):=by
 have HG:=aK hg;have HB0:=aK hb0;have HM0:=aK hm;have HX:=aK (show _∧_∧_ from ⟨ha,ho,hl⟩);have HK:=aK (qF.refl w);have q0:=(bA hg.bx 0).trans rfl;clear hb0 ha ho hl;unfold bOo at h;by_cases c0:a=0
 ·rw [if_pos c0] at h
  obtain rfl:=bE h;have d0:(a !=0)=false:=by simp [c0]
  clear h c0 hg hm;go_enter Try.func53,Try.ntmps53;go_wp2
  go_end0
  exact ⟨rfl,_,_,HG.out,HK.out⟩
 rw [if_neg c0] at h;have d0:(a !=0)=true:=by simp [c0]
 clear c0;have hmw:MV w g m:=dH hm (by rw [←HB0.out];exact hg.be)
 obtain ⟨AW,cM,ACm,cC',AF,cF,AB,cB,m0,mrest⟩:=hmw;have g0:=(bA m0 0).trans rfl;have g1:=(bA m0 1).trans rfl;have g2:=(bA m0 2).trans rfl;have g3:=(bA m0 3).trans rfl;have g4:=(bA m0 4).trans rfl;clear m0 mrest hg hm;have H:=aK h;clear h;by_cases c1:a>m.young
 ·have d1 : decide (a > m.young) = true := bD c1
  have h:=H.out;rw [if_pos c1] at h;obtain rfl:=bE h;clear h c1 H;go_enter Try.func53,Try.ntmps53
  go_wp2_with (go_at_call 81;refine bF (fun hng=>?_))
  refine hng ?_;clear hng;refine (mY AW m.words.length cM m.young m.top m.old ACm m.cards.length cC' a true _ d1).mono ?_;rintro e w1 ⟨rfl,hb⟩;replace HG:=aK (HG.out.below hb);replace HK:=aK (HK.out.below hb);clear hb q0 g0 g1 g2 g3 g4;go_wp2
  go_end0
  exact ⟨rfl,_,_,HG.out,HK.out⟩
 ·have d1 : decide (a > m.young) = false := bM c1
  have h:=H.out;rw [if_neg c1] at h;have H1:=aK h;clear h c1 H;go_enter Try.func53,Try.ntmps53
  go_wp2_with (go_at_call 81;refine bF (fun hng=>?_))
  refine hng ?_;clear hng;refine (mY AW m.words.length cM m.young m.top m.old ACm m.cards.length cC' a false _ d1).mono ?_;rintro e w1 ⟨rfl,hb⟩;replace HG:=aK (HG.out.below hb);replace HK:=aK (HK.out.below hb);clear hb q0 g0 g1 g2 g3 g4
  go_wp2_with (go_at_call 82;refine bF (fun hng=>?_))
  refine hng ?_;clear hng;refine (bFk b w0 g gm B gw cW AC cC AO cO m s s' a _ HM0.out HB0.out HG.out HX.out.1 HX.out.2.1 HX.out.2.2 H1.out).mono ?_;rintro e w2 ⟨rfl,AN,cN,hg2,hk2⟩;have HF:=aK (And.intro hg2 hk2);clear hg2 hk2;go_wp2
  go_end0
  exact ⟨rfl,AN,cN,HF.out.1,HK.out.trans HF.out.2⟩
def bLo (k:Nat) (m:Mm):Option (List Int):=if -2000000≤m.young∧m.young≤2000000 then (gH k m.begins (m.young+1)).bind fun p=>if 0≤p.1∧p.1≤m.begins.length then some (m.begins.drop p.1.toNat) else none else none
theorem zS (k:Nat) (g:Nat) (m:Mm) (l:List Int) (w0 w:World) (hm0:MV w0 g m) (hbw:Below w0.heap.size w0 w) (h:bLo k m=some l):
  Calls Try.prog 54 #[.pointer (some ⟨g,0,none⟩)] w fun e w'=>(∃A c,e= .returned (.slice A l.length c)∧Kd.C (Kd.int .i64) w0 A l.length l∧l.length≤c)∧Below w.heap.size w w':=by
 unfold bLo at h
 split at h
 case isFalse=>simp at h
 case isTrue hy=>
 obtain ⟨⟨p1,p2⟩,hp,h⟩:=Option.bind_eq_some_iff.mp h;dsimp only at h
 split at h
 case isFalse=>simp at h
 case isTrue hb=>
 have HLd:=aK (bE h);have HP:=aK hp;obtain ⟨AW,cW,ACm,cC,AF,cF,AB,cB,h0_,_,_,_,hB0,_,_,_,lB⟩:=hm0;have h0:=bS h0_ hbw;have hB:=cG hB0 hbw;have HB0:=aK hB0;have HBg:=aK hB;have HL:=aK lB;have HI:=aK hb;have H0:=aK h0;obtain ⟨y1,hy1⟩: ∃x,x=m.young+1:=⟨_,rfl⟩;rw [←hy1] at HP;have v1:IntKind.i64.wrap (m.young+1)=y1:=by rw [hy1];exact dD _ (by omega)
 have v2:wrap64 (m.young+1)=y1:=by rw [←mN];exact v1
 have HBe:=aK (bH w.heap.size w);have g1:=(bA h0 1).trans rfl;have g6:=(bA h0 6).trans rfl;clear hp h hB hB0 h0_ lB hb hy hy1 hbw;go_enter Try.func54,Try.ntmps54;go_wp2;refine sT 16 (S:=fun w'=>Aside0 (Below w.heap.size w w')∧w'.cell? ⟨g,6,none⟩=some (.slice AB m.begins.length cB)∧w'.cell? ⟨g,1,none⟩=some (.int .i64 m.young)) (ds:=[]) ⟨⟨bG (bH _ _)⟩,(by go_simp),(by go_simp)⟩ (fun hHeld=>?_);refine cJ 0 ?_;refine cJ 1 ?_;refine cJ 2 ?_;refine cJ 4 ?_;refine cJ 5 ?_;refine cJ 6 ?_;refine cJ 7 ?_;refine tS 3 9 (lA 16 255) rfl rfl (by kernel_rfl) hHeld bBg ?_;refine tS 8 14 (lA 16 511) rfl rfl (by kernel_rfl) hHeld bBg ?_;refine cJ 9 ?_;refine oS 10 16 (lA 16 2047) rfl rfl (fun K hK=>?_);refine gO Try.func83 #[.slice AB m.begins.length cB,.int .i64 y1] ?_;(with_reducible refine (qE k AB cB m.begins y1 p1 p2 _ (cG HBg.out hHeld.1.out) HL.out HP.out).mono ?_);rintro e w1 ⟨rfl,hd⟩;have hb1:=hd.below;refine ⟨_,rfl,?_⟩;refine hK.out _ _ ⟨⟨bK hHeld.1.out hb1⟩,(b7_2 hb1 hHeld.2)⟩ (fun hHeld=>?_);clear hK K;refine nS 16 ?_;refine cJ 11 ?_;refine cJ 12 ?_;refine cJ 13 ?_;refine cJ 14 ?_;refine cJ 15 ?_;refine gT (by kernel_rfl) ?_;have HB1:=hHeld.1;have n6:=hHeld.2.1;clear hHeld g1 g6;have p3:=bO HI.out.1;have p4:=bO HI.out.2;have HD:=aK (Kd.C_drop (m:=p1.toNat) (c:=cB) HB0.out (by have:=HI.out;omega) HL.out);have HE:=aK (show l.length=m.begins.length - p1.toNat by rw [←HLd.out];exact dJ);by_cases c:cB=p1.toNat
 ·have c' := bO c
  have HC:=aK c;clear c;go_wp2;go_ret;have hd:=HD.out;rw [if_pos HC.out,HLd.out] at hd;refine ⟨⟨AB,cB - p1.toNat,?_,hd,by have:=HE.out;have:=HL.out;omega⟩,HB1.out⟩;rw [HE.out];first|rfl|(rw [HC.out,Nat.sub_self];rfl)
 ·have c' := pO c
  have HC:=aK c;clear c;go_wp2;go_ret;have hd:=HD.out;rw [if_neg HC.out,HLd.out,show p1.toNat*(Kd.int .i64).sz=p1.toNat from pI _] at hd;refine ⟨⟨AB.map (·.add p1.toNat),cB - p1.toNat,?_,hd,by have:=HE.out;have:=HL.out;omega⟩,HB1.out⟩;rw [HE.out];rfl
def bNn (m:Mm) (a f:Int):Nat→Int→Option (List Int)
  |0,_=>some []
  |d+1,k=>(nV m a k).bind fun b=>(bNn m a f d (k+1)).bind fun r=>some (if b=true then wrap64 (f+k)::r else r)
def bKd (m:Mm) (a:Int):Option (List Int):=(nW m a).bind fun n=>if n≤4294967296 then (kZ m a).bind fun f=>bNn m a f n.toNat 0 else none
theorem bFm (N : Nat) (fn : Func) (hf : Try.prog.funcs[N]? = some fn) (hn : (fn.name == "runtime.NumGoroutine") = false) (hbd : fn.body.isSome = true) (caps : Array Value)
  (g:Nat) (m:Mm) (a:Int) (I:List Int→World→Prop) (ws:List Int) (w:World)
  (hm: ∀l W,I l W→MV W g m) (hI:I ws w) (hst: ∀l W W',I l W→Below W.heap.size W W'→I l W')
  (hcb: ∀x r W,I (x::r) W→Calls Try.prog N (#[.int .i64 x]++caps) W fun e W'=>e= .returned (.tuple #[])∧I r W'∧qF W W')
  (h:bKd m a=some ws):
  Calls Try.prog 55 #[.pointer (some ⟨g,0,none⟩),.int .i64 a,.func (.func N) #[] caps] w fun e w'=>e= .returned (.tuple #[])∧I [] w'∧qF w w':=by
 unfold bKd at h;obtain ⟨n,hn1,h⟩:=Option.bind_eq_some_iff.mp h
 split at h
 case isFalse=>simp at h
 case isTrue hnl=>
 obtain ⟨f,hf1,h⟩:=Option.bind_eq_some_iff.mp h;have HI:=aK hI;have HM:=aK hm;have HS:=aK hst;have HCB:=aK hcb;have H1:=aK hn1;have H2:=aK hf1;have H3:=aK h;have HNL:=aK hnl;have HK:=aK (qF.refl w);have HF:=aK (show _∧_∧_ from ⟨hf,hn,hbd⟩);clear hI hm hst hcb hn1 hf1 h hf hn hbd hnl;go_enter Try.func55,Try.ntmps55
 go_wp2_with (go_at_call 69;refine bF (fun hng=>?_))
 refine hng ?_;clear hng;refine (rN g a _).mono ?_;rintro e w1 ⟨rfl,hb⟩;unfold bHc;replace HI:=aK (HS.out _ _ _ HI.out hb);replace HK:=aK (HK.out.below hb);clear hb
 go_wp2_with ((with_reducible refine dK (N:=6) rfl ?_);refine bF (fun hng=>?_))
 refine hng ?_;clear hng;refine dM ?hg (N:=6) ?hd (cs:= #[.pointer none,.int .i64 0]) (t:=102) ?hr ?_
 (case hd=>rfl)
 (case hg=>rfl)
 (case hr=>first|(go_simp;done)|(go_simp;rfl))
 intro gt hg w2 hbox hb;have BT:=aK hbox;have HX:=aK hb;have HG:=aK (show gt=w1.heap.size from hg);clear hb hbox hg;have qc0:=(bA BT.out 0).trans rfl;have qc1:=(bA BT.out 1).trans rfl;have qf0:=bL BT.out 0;have qf1:=bL BT.out 1
 go_wp2_with ((with_reducible refine fX (t:=102) (p:=6) rfl ?_);refine bF (fun hng=>?_))
 refine hng ?_;clear hng;refine fN (t:=102) (p:=6) (v:=?vot) (w1:=(thBox w2 gt (.pointer (some ⟨g,0,none⟩)) (.int .i64 a))) ?hg ?ho ?hn ?hr ?_
 (case ho=>rfl)
 (case hg=>rfl)
 (case hn=>rfl)
 (case hr=>first|(go_simp;done)|(go_simp;rfl))
 intro w3 hw;have hc:Ch (fun k=>k=gt) w2 w3:=by rw [hw];exact (Ch.refl (fun k=>k=gt) _).thBox (.inl rfl) _ _
 replace HX:=aK (HX.out.trans (hc.toBelow (B:=w1.heap.size) (bW HX.out) (fun k hk=>by have:=HG.out;omega)));replace BT:=aK (show w3.heap[gt]? =some (.cells #[.pointer (some ⟨g,0,none⟩),.int .i64 a] 102 (0,0)) by rw [hw];exact bQd BT.out);replace HI:=aK (HS.out _ _ _ HI.out HX.out);replace HK:=aK (HK.out.below HX.out);clear hw hc qc0 qc1 qf0 qf1 HX HG;have qc0:=(bA BT.out 0).trans rfl;have qc1:=(bA BT.out 1).trans rfl
 go_wp2_with (go_at_call 84;refine bF (fun hng=>?_))
 refine hng ?_;clear hng;refine (tZ g m a n _ (HM.out _ _ HI.out) H1.out).mono ?_;rintro e w4 ⟨rfl,hb⟩;replace HI:=aK (HS.out _ _ _ HI.out hb);replace HK:=aK (HK.out.below hb);replace BT:=aK (bS BT.out hb);clear hb;clear qc0 qc1;go_wp2
 go_loopw [13] (fun v13 wr=> ∃(k:Int) (d:Nat) (rest:List Int),v13= .int .i64 k∧Aside0 (0≤k∧k+d=max n 0)∧Aside0 (bNn m a f d k=some rest)∧Aside0 (I rest wr)∧Aside0 (wr.heap[gt]? =some (.cells #[.pointer (some ⟨g,0,none⟩),.int .i64 a] 102 (0,0)))∧Aside0 (qF w wr)) (fun v13 _=>(n - intOf v13).toNat)
 case atStart=>exact ⟨0,n.toNat,ws,rfl,⟨by omega⟩,H3,HI,BT,HK⟩
 case round=>
  clear HI BT HK H3;obtain ⟨k,d,rest,rfl,HD,HL,HI,BT,HK⟩:=hrel;by_cases cx:k<n
  ·have d0 : decide (k < n) = true := bD cx
   obtain ⟨d,rfl⟩: ∃z,d=z+1:=⟨d - 1,by have:=HD.out;omega⟩;have HC:=aK cx;have hl:=HL.out;unfold bNn at hl;obtain ⟨b,hb1,hl⟩:=Option.bind_eq_some_iff.mp hl;obtain ⟨r,hr1,hl⟩:=Option.bind_eq_some_iff.mp hl;have H4:=aK hb1;have H5:=aK hr1;have H6:=aK (bE hl);clear hb1 hr1 hl HL cx;have qc0:=(bA BT.out 0).trans rfl;have qc1:=(bA BT.out 1).trans rfl
   go_wp2_with (go_at_call 85;refine bF (fun hng=>?_))
   refine hng ?_;clear hng;refine (kP g m a k b _ (HM.out _ _ HI.out) H4.out).mono ?_;rintro e w5 ⟨rfl,hb⟩;replace HI:=aK (HS.out _ _ _ HI.out hb);replace HK:=aK (HK.out.below hb);replace BT:=aK (bS BT.out hb);clear hb;clear qc0 qc1
   cases b with
   |false=>
    have h6:=H6.out;rw [if_neg (by simp)] at h6;subst h6;clear H6;have u1:IntKind.i64.wrap (k+1)=k+1:=dD _ (by have:=HC.out;have:=HD.out;have:=HNL.out;omega)
    go_wp2
    go_roundw
    case rel=>exact ⟨k+1,d,r,rfl,⟨by have:=HD.out;have:=HC.out;omega⟩,H5,HI,BT,HK⟩
    case measure=>have:=HC.out;simp only [intOf];omega
   |true=>
    have h6:=H6.out;rw [if_pos rfl] at h6;subst h6;clear H6;have qc0:=(bA BT.out 0).trans rfl;have qc1:=(bA BT.out 1).trans rfl
    go_wp2_with (go_at_call 86;refine bF (fun hng=>?_))
    refine hng ?_;clear hng;refine (kA g m a f _ (HM.out _ _ HI.out) H2.out).mono ?_;rintro e w6 ⟨rfl,hb⟩;replace HI:=aK (HS.out _ _ _ HI.out hb);replace HK:=aK (HK.out.below hb);replace BT:=aK (bS BT.out hb);clear hb;clear qc0 qc1;obtain ⟨x,hx⟩: ∃z,z=wrap64 (f+k):=⟨_,rfl⟩;have u2:IntKind.i64.wrap (f+k)=x:=by rw [mN];exact hx.symm
    rw [←hx] at HI;clear hx
    go_wp2_with ((with_reducible refine goesV_ rfl HF.out.1 HF.out.2.1 HF.out.2.2 (#[.int .i64 x]++caps) rfl rfl ?hargs ?_);(case hargs=>(simp only [nX,gU,mP];rfl));refine bF (fun hng=>?_))
    refine hng ?_;clear hng;refine (HCB.out x r _ HI.out).mono ?_;rintro e w7 ⟨rfl,hi,hk⟩;replace HI:=aK hi;replace BT:=aK (hk.thing BT.out);replace HK:=aK (HK.out.trans hk);clear hi hk u2;refine ⟨_,rfl,?_⟩;have u1:IntKind.i64.wrap (k+1)=k+1:=dD _ (by have:=HC.out;have:=HD.out;have:=HNL.out;omega)
    go_wp2
    go_roundw
    case rel=>exact ⟨k+1,d,r,rfl,⟨by have:=HD.out;have:=HC.out;omega⟩,H5,HI,BT,HK⟩
    case measure=>have:=HC.out;simp only [intOf];omega
  ·have d0 : decide (k < n) = false := bM cx
   obtain rfl:d=0:=by have:=HD.out;omega
   have hl:=HL.out;unfold bNn at hl;have hl:=bE hl;subst hl;clear HL cx;go_wp2
   go_end0
   exact ⟨rfl,HI.out,HK.out⟩
def bDk (m:Mm) (s:Mv) (a:Int):Option Mv:=if (-2000000≤a∧a≤2000000)∧(-2000000≤s.o∧s.o≤2000000)∧s.tw.length≤2000000 then bOo m s a else none
def bEi (m:Mm) (s:Mv) (x:Int):Option Mv:=if 0≤x∧x<m.words.length then bDk m s (rd m.words x) else none
theorem vO {a:Int} (h: -2000000≤a∧a≤2000000):bQh a:=by unfold bQh;exact WalkArith.wf_i64 (by omega)
theorem bKa (b:Nat) (w0:World) (g gm B gw cW:Nat) (AC:Option Addr) (cC:Nat) (AO:Option Addr) (cO:Nat) (m:Mm) (s s':Mv) (x:Int) (gq gp:Nat) (w:World) (hm:MV w0 g m) (hb0:b=w0.heap.size) (hg:Mg b w0 g gm B gw cW AC cC AO cO w s s.mv)
  (hq:w.heap[gq]? =some (.cells #[.pointer (some ⟨gm,0,none⟩)] 83 (0,0))) (hp:w.heap[gp]? =some (.cells #[.pointer (some ⟨g,0,none⟩)] 56 (0,0))) (h:bEi m s x=some s'):
  Calls Try.prog 58 #[.int .i64 x,.pointer (some ⟨gq,0,none⟩),.pointer (some ⟨gp,0,none⟩)] w (bKq b w0 g gm B gw cW AC cC s' w):=by
 subst hb0;unfold bEi at h
 split at h
 case isFalse=>simp at h
 case isTrue hx=>
 unfold bDk at h
 split at h
 case isFalse=>simp at h
 case isTrue hy=>
 have hmw:MV w g m:=dH hm hg.be
 obtain ⟨AW,cM,ACm,cC',AF,cF,AB,cB,m0,mw,mrest⟩:=hmw;obtain ⟨ad,e0,hcell⟩:=dL mw x hx.1 hx.2
 cases e0
 obtain ⟨v,hv⟩: ∃v,v=rd m.words x:=⟨_,rfl⟩;rw [←hv] at hcell h hy;have HG:=aK hg;have HM0:=aK hm;have HY:=aK hy;have H:=aK h;have HK:=aK (qF.refl w);have q0:=(bA hq 0).trans rfl;have p0:=(bA hp 0).trans rfl;have g0:=(bA m0 0).trans rfl;have i1:=bO hx.1;have i2:=bO hx.2;clear hm hg h hx hy m0 mw mrest hq hp hv;go_enter Try.func58,Try.ntmps58;go_wp2;refine sT 10 (S:=fun w'=>w'.cell? ⟨gq,0,none⟩=some (.pointer (some ⟨gm,0,none⟩))∧w'.cell? ⟨gp,0,none⟩=some (.pointer (some ⟨g,0,none⟩))∧w'.cell? ⟨g,0,none⟩=some (.slice (some ad) m.words.length cM)∧w'.cell? (ad.add x.toNat)=some (.int .i64 v)) (ds:=[9]) ⟨(by go_simp),(by go_simp),(by go_simp),(by go_simp)⟩ (fun hHeld=>?_);replace HG:=aK (HG.out.below (bG (bH w.heap.size w)));replace HK:=aK (HK.out.below (bG (bH w.heap.size w)));generalize World.drew w=wt at HG HK hHeld ⊢;refine pS 6 10 #[false,false,false,false,false,false,true,false,false,false] ?_;refine tS 0 4 #[true,false,false,false,false,false,true,false,false,false] rfl rfl (by kernel_rfl) hHeld sM ?_;refine tS 1 5 #[true,true,false,false,false,false,true,false,false,false] rfl rfl (by kernel_rfl) hHeld sM ?_;refine pS 2 6 #[true,true,true,false,false,false,true,false,false,false] ?_;refine pS 3 7 #[true,true,true,true,false,false,true,false,false,false] ?_;refine pS 4 8 #[true,true,true,true,true,false,true,false,false,false] ?_;refine tS 5 9 #[true,true,true,true,true,true,true,false,false,false] rfl rfl (by kernel_rfl) hHeld sM ?_;refine pS 7 11 #[true,true,true,true,true,true,true,true,false,false] ?_;refine tS 8 12 #[true,true,true,true,true,true,true,true,true,false] rfl rfl (by kernel_rfl) hHeld sM ?_;refine qL (i:=9) (N:=some 13) #[true,true,true,true,true,true,true,true,true,true] rfl rfl (by kernel_rfl) (by decide) (fun K hK=>?_);refine gO Try.func53 #[.pointer (some ⟨gm,0,none⟩),.int .i64 v] ?_;(with_reducible refine (vP _ w0 g gm B gw cW AC cC AO cO m s s' v _ HM0.out rfl HG.out (vO HY.out.1) HY.out.2.1 HY.out.2.2 H.out).mono ?_);rintro e w9 ⟨rfl,AN,cN,hg2,hk2⟩;refine ⟨_,rfl,?_⟩;refine hK.out _ _ ?_;clear hK K;refine nS 13 ?_;refine gT (by kernel_rfl) ?_;have HF:=aK (And.intro hg2 hk2);clear hg2 hk2 q0 p0 g0;go_wp2
 go_end0
 exact ⟨rfl,AN,cN,HF.out.1,HK.out.trans HF.out.2⟩
def bJz (m:Mm) (x:Int):Option Bool:=if (-2000000≤x - m.young∧x - m.young≤2000000)∧0≤Int.tdiv (x - m.young) 4∧Int.tdiv (x - m.young) 4<m.cards.length∧m.cards.length≤2000000 then some (kK false m.cards (Int.tdiv (x - m.young) 4)) else none
def bEj (m:Mm) (s:Mv) (x:Int):Option Mv:=(bJz m x).bind fun b=>if b=true then bEi m s x else some s
theorem bKb (b:Nat) (w0:World) (g gm B gw cW:Nat) (AC:Option Addr) (cC:Nat) (AO:Option Addr) (cO:Nat) (m:Mm) (s s':Mv) (x:Int) (gq gp:Nat) (w:World) (hm:MV w0 g m) (hb0:b=w0.heap.size) (hg:Mg b w0 g gm B gw cW AC cC AO cO w s s.mv)
  (hq:w.heap[gq]? =some (.cells #[.pointer (some ⟨gm,0,none⟩)] 83 (0,0))) (hp:w.heap[gp]? =some (.cells #[.pointer (some ⟨g,0,none⟩)] 56 (0,0))) (h:bEj m s x=some s'):
  Calls Try.prog 56 #[.int .i64 x,.pointer (some ⟨gp,0,none⟩),.pointer (some ⟨gq,0,none⟩)] w (bKq b w0 g gm B gw cW AC cC s' w):=by
 subst hb0;unfold bEj at h;obtain ⟨bc,hbc,h⟩:=Option.bind_eq_some_iff.mp h;unfold bJz at hbc
 split at hbc
 case isFalse=>simp at hbc
 case isTrue hcx=>
 have hbc:=bE hbc;obtain ⟨j,hj⟩: ∃j,j=x - m.young:=⟨_,rfl⟩;obtain ⟨c,hc⟩: ∃c,c=Int.tdiv j 4:=⟨_,rfl⟩;rw [←hj,←hc] at hcx hbc;have v1:IntKind.i64.wrap (x - m.young)=j:=by rw [hj];exact dD _ (by omega)
 have v2:wrap64 (Int.tdiv j 4)=c:=by rw [←hc];unfold wrap64;omega
 have hmw:MV w g m:=dH hm hg.be
 obtain ⟨AW,cM,ACm,cC',AF,cF,AB,cB,m0,mw,mc,mrest⟩:=hmw;have HMR:=aK (And.intro m0 (And.intro mw (And.intro mc mrest)));obtain ⟨ac,e0,hcell⟩:=kN mc c hcx.2.1 hcx.2.2.1
 cases e0
 rw [hbc] at hcell;have HG:=aK hg;have HM0:=aK hm;have H:=aK h;have HK:=aK (qF.refl w);have HQ:=aK hq;have HP:=aK hp;have q0:=(bA hq 0).trans rfl;have p0:=(bA hp 0).trans rfl;have g0:=(bA m0 0).trans rfl;have g1:=(bA m0 1).trans rfl;have g2:=(bA m0 2).trans rfl;have g3:=(bA m0 3).trans rfl;have g4:=(bA m0 4).trans rfl;have i1:=bO hcx.2.1;have i2:=bO hcx.2.2.1;clear hm hg h hcx hbc m0 mw mc mrest hq hp hj hc HMR;go_enter Try.func56,Try.ntmps56;go_wp2;refine sT 13 (S:=fun w'=>Aside0 (Below w.heap.size w w')∧w'.cell? ⟨gp,0,none⟩=some (.pointer (some ⟨g,0,none⟩))∧w'.cell? ⟨g,0,none⟩=some (.slice AW m.words.length cM)∧w'.cell? ⟨g,1,none⟩=some (.int .i64 m.young)∧w'.cell? ⟨g,2,none⟩=some (.int .i64 m.top)∧w'.cell? ⟨g,3,none⟩=some (.int .i64 m.old)∧w'.cell? ⟨g,4,none⟩=some (.slice (some ac) m.cards.length cC')∧w'.cell? (ac.add c.toNat)=some (.bool bc)) (ds:=[]) ⟨⟨bG (bH _ _)⟩,(by go_simp),(by go_simp),(by go_simp),(by go_simp),(by go_simp),(by go_simp),(by go_simp)⟩ (fun hHeld=>?_);refine cJ 9 ?_;refine tS 0 4 (lA 13 513) rfl rfl (by kernel_rfl) hHeld (by rintro w' ⟨s0,s1,s2,s3,s4,s5,s6,s7⟩;go_simp;with_reducible rfl) ?_;refine cJ 1 ?_;refine cJ 2 ?_;refine cJ 3 ?_;refine tS 4 8 (lA 13 543) rfl rfl (by kernel_rfl) hHeld (by rintro w' ⟨s0,s1,s2,s3,s4,s5,s6,s7⟩;go_simp;with_reducible rfl) ?_;refine tS 5 9 (lA 13 575) rfl rfl (by kernel_rfl) hHeld (by rintro w' ⟨s0,s1,s2,s3,s4,s5,s6,s7⟩;go_simp;with_reducible rfl) ?_;refine cJ 6 ?_;refine cJ 7 ?_;refine tS 8 12 (lA 13 1023) rfl rfl (by kernel_rfl) hHeld (by rintro w' ⟨s0,s1,s2,s3,s4,s5,s6,s7⟩;go_simp;with_reducible rfl) ?_;refine oS 10 14 (lA 13 2047) rfl rfl (fun K hK=>?_);refine gO Try.func57 #[.agg #[.slice AW m.words.length cM,.int .i64 m.young,.int .i64 m.top,.int .i64 m.old,.slice (some ac) m.cards.length cC'],.int .i64 x] ?_;(with_reducible refine (zJ AW m.words.length cM m.young m.top m.old (some ac) m.cards.length cC' x j c _ v1 v2).mono ?_);rintro e w1 ⟨rfl,hb1⟩;refine ⟨_,rfl,?_⟩;refine hK.out _ _ ⟨⟨bK hHeld.1.out hb1⟩,(b7_7 hb1 hHeld.2)⟩ (fun hHeld=>?_);clear hK K;refine nS 14 ?_;refine cJ 11 ?_;refine tS 12 16 (lA 13 8191) rfl rfl (by kernel_rfl) hHeld (by rintro w' ⟨s0,s1,s2,s3,s4,s5,s6,s7⟩;go_simp;with_reducible rfl) ?_;refine gT (by kernel_rfl) ?_;replace HG:=aK (HG.out.below hHeld.1.out);replace HK:=aK (HK.out.below hHeld.1.out);replace HQ:=aK (bS HQ.out hHeld.1.out);replace HP:=aK (bS HP.out hHeld.1.out);clear hHeld hcell i1 i2 v1 v2 q0 p0 g0 g1 g2 g3 g4
 cases bc with
 |false=>
  have h:=H.out;rw [if_neg (by simp)] at h;obtain rfl:=bE h;clear h H;go_wp2
  go_end0
  exact ⟨rfl,_,_,HG.out,HK.out⟩
 |true=>
  have h:=H.out;rw [if_pos rfl] at h;unfold bEi at h
  split at h
  case isFalse=>simp at h
  case isTrue hx=>
  unfold bDk at h
  split at h
  case isFalse=>simp at h
  case isTrue hy=>
  have hmw:MV w1 g m:=dH HM0.out HG.out.be
  obtain ⟨AW,cM,ACm,cC',AF,cF,AB,cB,m0,mw,mrest⟩:=hmw;obtain ⟨ad,e0,hcell⟩:=dL mw x hx.1 hx.2
  cases e0
  obtain ⟨v,hv⟩: ∃v,v=rd m.words x:=⟨_,rfl⟩;rw [←hv] at hcell h hy;have HY:=aK hy;replace H:=aK h;have q0:=(bA HQ.out 0).trans rfl;have p0:=(bA HP.out 0).trans rfl;have g0:=(bA m0 0).trans rfl;have i1:=bO hx.1;have i2:=bO hx.2;clear h hx hy m0 mw mrest hv;go_wp2;refine sT 10 (S:=fun w'=>w'.cell? ⟨gq,0,none⟩=some (.pointer (some ⟨gm,0,none⟩))∧w'.cell? ⟨gp,0,none⟩=some (.pointer (some ⟨g,0,none⟩))∧w'.cell? ⟨g,0,none⟩=some (.slice (some ad) m.words.length cM)∧w'.cell? (ad.add x.toNat)=some (.int .i64 v)) (ds:=[9]) ⟨(by go_simp),(by go_simp),(by go_simp),(by go_simp)⟩ (fun hHeld=>?_);replace HG:=aK (HG.out.below (bG (bH w1.heap.size w1)));replace HK:=aK (HK.out.below (bG (bH w1.heap.size w1)));generalize World.drew w1=wt at HG HK hHeld ⊢;refine pS 6 23 #[false,false,false,false,false,false,true,false,false,false] ?_;refine tS 0 17 #[true,false,false,false,false,false,true,false,false,false] rfl rfl (by kernel_rfl) hHeld sM ?_;refine tS 1 18 #[true,true,false,false,false,false,true,false,false,false] rfl rfl (by kernel_rfl) hHeld sM ?_;refine pS 2 19 #[true,true,true,false,false,false,true,false,false,false] ?_;refine pS 3 20 #[true,true,true,true,false,false,true,false,false,false] ?_;refine pS 4 21 #[true,true,true,true,true,false,true,false,false,false] ?_;refine tS 5 22 #[true,true,true,true,true,true,true,false,false,false] rfl rfl (by kernel_rfl) hHeld sM ?_;refine pS 7 24 #[true,true,true,true,true,true,true,true,false,false] ?_;refine tS 8 25 #[true,true,true,true,true,true,true,true,true,false] rfl rfl (by kernel_rfl) hHeld sM ?_;refine qL (i:=9) (N:=some 26) #[true,true,true,true,true,true,true,true,true,true] rfl rfl (by kernel_rfl) (by decide) (fun K hK=>?_);refine gO Try.func53 #[.pointer (some ⟨gm,0,none⟩),.int .i64 v] ?_;(with_reducible refine (vP _ w0 g gm B gw cW AC cC AO cO m s s' v _ HM0.out rfl HG.out (vO HY.out.1) HY.out.2.1 HY.out.2.2 H.out).mono ?_);rintro e w9 ⟨rfl,AN,cN,hg2,hk2⟩;refine ⟨_,rfl,?_⟩;refine hK.out _ _ ?_;clear hK K;refine nS 26 ?_;refine gT (by kernel_rfl) ?_;have HF:=aK (And.intro hg2 hk2);clear hg2 hk2 q0 p0 g0;go_wp2
  go_end0
  exact ⟨rfl,AN,cN,HF.out.1,HK.out.trans HF.out.2⟩
def qC (mv:List (Int×Int)) (a:Int):Int:=(nO mv a).getD a
theorem xM (b:Nat) (w0:World) (g gm B gw cW:Nat) (AC:Option Addr) (cC:Nat) (AO:Option Addr) (cO:Nat) (s:Mv) (a:Int) (w:World) (h:Mg b w0 g gm B gw cW AC cC AO cO w s s.mv) (ha:bQh a):
  Calls Try.prog 88 #[.pointer (some ⟨gm,0,none⟩),.int .i64 a] w fun e w'=>e= .returned (.int .i64 (qC s.mv a))∧Below w.heap.size w w':=by
 have hl:=h.mp.look ha 88 Try.underlying88;have q6:=(bA h.bx 6).trans rfl;clear h
 cases hm:nO s.mv a with
 |none=>
  rw [hm] at hl;have HN:=aK (show qC s.mv a=a by unfold qC;rw [hm];rfl);simp only [Option.getD_none,Option.isSome_none] at hl;clear hm ha;go_enter Try.func88,Try.ntmps88;go_wp2;go_ret;exact ⟨by rw [HN.out];rfl,bH _ _⟩
 |some p=>
  rw [hm] at hl;have HN:=aK (show qC s.mv a=p by unfold qC;rw [hm];rfl);simp only [Option.getD_some,Option.isSome_some] at hl;clear hm ha;go_enter Try.func88,Try.ntmps88;go_wp2;go_ret;exact ⟨by rw [HN.out];rfl,bH _ _⟩
def bKp (b:Nat) (w0:World) (g gm B gw cW:Nat) (AC:Option Addr) (cC:Nat) (AO:Option Addr) (cO:Nat) (s':Mv) (w:World) (e:Ending) (w':World):Prop:=e= .returned (.tuple #[])∧Mg b w0 g gm B gw cW AC cC AO cO w' s' s'.mv∧qF w w'
theorem Mg.put {b g gm B gw cW cC cO:Nat} {w0 w:World} {AC AO:Option Addr} {s:Mv} {M:List (Int×Int)} (h:Mg b w0 g gm B gw cW AC cC AO cO w s M) (i v:Int):
    Mg b w0 g gm B gw cW AC cC AO cO (w.setCell ⟨gw,i.toNat,none⟩ (.int .i64 v)) {s with tw:=s.tw.set i.toNat v} M∧qF w (w.setCell ⟨gw,i.toNat,none⟩ (.int .i64 v)):=
  h.words ((Ch.refl (fun k=>k=gw) w).set (p:=⟨gw,i.toNat,none⟩) (.inl rfl) _) (Kd.R_put (enc:=Value.int .i64) (h1:=fun _=>rfl) h.rw_ i v).1 dV
def bBy (m:Mm) (s:Mv) (x:Int):Option Mv:=if 0≤x∧x<m.words.length∧0≤x∧x<s.tw.length∧(-2000000≤rd m.words x∧rd m.words x≤2000000) then some {s with tw:=s.tw.set x.toNat (qC s.mv (rd m.words x))} else none
theorem bLt (b:Nat) (w0:World) (g gm B gw cW:Nat) (AC:Option Addr) (cC:Nat) (AO:Option Addr) (cO:Nat) (m:Mm) (s s':Mv) (x:Int) (gq:Nat) (w:World) (hm:MV w0 g m) (hb0:b=w0.heap.size) (hg:Mg b w0 g gm B gw cW AC cC AO cO w s s.mv)
  (hq:w.heap[gq]? =some (.cells #[.pointer (some ⟨gm,0,none⟩)] 83 (0,0))) (h:bBy m s x=some s'):
  Calls Try.prog 87 #[.int .i64 x,.pointer (some ⟨gq,0,none⟩)] w fun e w'=>bKp b w0 g gm B gw cW AC cC AO cO s' w e w':=by
 subst hb0;unfold bBy at h
 split at h
 case isFalse=>simp at h
 case isTrue hx=>
 obtain ⟨x0,x1,t0,t1,hv0⟩:=hx

 have hmw:MV w g m:=dH hm hg.be
 obtain ⟨AW,cM,ACm,cC',AF,cF,AB,cB,m0,mw,mrest⟩:=hmw;obtain ⟨ad,e0,hcell⟩:=dL mw x x0 x1
 cases e0
 obtain ⟨v,hv⟩: ∃v,v=rd m.words x:=⟨_,rfl⟩;rw [←hv] at hcell h hv0;obtain ⟨u,hu⟩: ∃u,u=qC s.mv v:=⟨_,rfl⟩;rw [←hu] at h;have HU:=aK hu;have HV0:=aK (vO hv0);have HG:=aK hg;have HK:=aK (qF.refl w);have H:=aK (bE h);have HT:=aK (And.intro t0 t1);have q0:=(bA hq 0).trans rfl;have g0:=(bA m0 0).trans rfl;have k0:=(bA hg.bx 0).trans rfl;have k1:=(bA hg.bx 1).trans rfl;have i1:=bO x0;have i2:=bO x1;have i3:=bO t0;have i4:=bO t1;clear hm hg h x0 x1 t0 t1 hv0 m0 mw mrest hq hv hu;go_enter Try.func87,Try.ntmps87;go_wp2;refine sT 21 (S:=fun w'=>Aside0 (Below w.heap.size w w')∧w'.cell? ⟨gq,0,none⟩=some (.pointer (some ⟨gm,0,none⟩))∧w'.cell? ⟨gm,0,none⟩=some (.pointer (some ⟨g,0,none⟩))∧w'.cell? ⟨gm,1,none⟩=some (.slice (some ⟨gw,0,none⟩) s.tw.length cW)∧w'.cell? ⟨g,0,none⟩=some (.slice (some ad) m.words.length cM)∧w'.cell? (ad.add x.toNat)=some (.int .i64 v)) (ds:=[20]) ⟨⟨bG (bH _ _)⟩,(by go_simp),(by go_simp),(by go_simp),(by go_simp),(by go_simp)⟩ (fun hHeld=>?_);refine cJ 5 ?_;refine cJ 15 ?_;refine tS 0 3 (lA 21 32801) rfl rfl (by kernel_rfl) hHeld pK ?_;refine cJ 1 ?_;refine cJ 2 ?_;refine cJ 3 ?_;refine tS 4 7 (lA 21 32831) rfl rfl (by kernel_rfl) hHeld pK ?_;refine tS 6 9 (lA 21 32895) rfl rfl (by kernel_rfl) hHeld pK ?_;refine tS 7 10 (lA 21 33023) rfl rfl (by kernel_rfl) hHeld pK ?_;refine cJ 8 ?_;refine cJ 9 ?_;refine tS 10 13 (lA 21 34815) rfl rfl (by kernel_rfl) hHeld pK ?_;refine cJ 11 ?_;refine cJ 12 ?_;refine cJ 13 ?_;refine tS 14 17 (lA 21 65535) rfl rfl (by kernel_rfl) hHeld pK ?_;refine cJ 16 ?_;refine tS 17 20 (lA 21 262143) rfl rfl (by kernel_rfl) hHeld pK ?_;refine oS 18 21 (lA 21 524287) rfl rfl (fun K hK=>?_);refine gO Try.func88 #[.pointer (some ⟨gm,0,none⟩),.int .i64 v] ?_;(with_reducible refine (xM _ w0 g gm B gw cW AC cC AO cO s v _ (HG.out.below hHeld.1.out) HV0.out).mono ?_);rintro e w9 ⟨rfl,hb9⟩;replace HG:=aK (HG.out.below hHeld.1.out);replace HK:=aK (HK.out.below hHeld.1.out);replace HG:=aK (HG.out.below hb9);replace HK:=aK (HK.out.below hb9);rw [←HU.out];have HN:=aK (HG.out.put x u);obtain ⟨_,fz⟩:=kO (enc:=Value.int .i64) (h1:=fun _=>rfl) 0 HG.out.rw_ x HT.out.1 HT.out.2;have xz:=(kO (enc:=Value.int .i64) (h1:=fun _=>rfl) 0 HG.out.rw_ x HT.out.1 HT.out.2).1;refine ⟨_,rfl,?_⟩;refine hK.out _ _ ⟨⟨bK hHeld.1.out hb9⟩,(bDe hb9 hHeld.2)⟩ (fun hHeld=>?_);clear hK K;refine nS 21 ?_;refine cJ 19 ?_;refine qL (i:=20) (N:=none) (lA 21 2097151) rfl rfl (by kernel_rfl) (by decide) (fun K hK=>?_);refine vN (w1:=?_) (by rfl) rfl ?_ ?_;rotate_left
 ·go_simp
  rfl
 refine hK.out _ _ ?_;clear hK K;refine gT (by kernel_rfl) ?_;go_wp2
 go_end0
 have hs:=H.out;subst hs;exact ⟨rfl,HN.out.1,HK.out.trans HN.out.2⟩
def bBx (m:Mm) (s:Mv) (by_ x:Int):Option Mv:=if 0≤x∧x<m.words.length∧0≤x+by_∧x+by_<s.tw.length∧(-2000000≤rd m.words x∧rd m.words x≤2000000)∧s.tw.length≤2000000 then some {s with tw:=s.tw.set (x+by_).toNat (qC s.mv (rd m.words x))} else none
theorem bLs (b:Nat) (w0:World) (g gm B gw cW:Nat) (AC:Option Addr) (cC:Nat) (AO:Option Addr) (cO:Nat) (m:Mm) (s s':Mv) (x by_:Int) (gq gy:Nat) (w:World) (hm:MV w0 g m) (hb0:b=w0.heap.size) (hg:Mg b w0 g gm B gw cW AC cC AO cO w s s.mv)
  (hq:w.heap[gq]? =some (.cells #[.pointer (some ⟨gm,0,none⟩)] 83 (0,0))) (hy:w.heap[gy]? =some (.cells #[.int .i64 by_] 3 (0,0))) (hyw:gy≠gw) (h:bBx m s by_ x=some s'):
  Calls Try.prog 89 #[.int .i64 x,.pointer (some ⟨gq,0,none⟩),.pointer (some ⟨gy,0,none⟩)] w fun e w'=>bKp b w0 g gm B gw cW AC cC AO cO s' w e w'∧w'.heap[gy]? =some (.cells #[.int .i64 by_] 3 (0,0)):=by
 subst hb0;unfold bBx at h
 split at h
 case isFalse=>simp at h
 case isTrue hx=>
 obtain ⟨x0,x1,t0,t1,hv0,hlt⟩:=hx;obtain ⟨j,hj⟩: ∃j,j=x+by_:=⟨_,rfl⟩;rw [←hj] at t0 t1 h;have v1:wrap64 (x+by_)=j:=by rw [hj];unfold wrap64;omega
 have HYW:=aK hyw;have hmw:MV w g m:=dH hm hg.be
 obtain ⟨AW,cM,ACm,cC',AF,cF,AB,cB,m0,mw,mrest⟩:=hmw;obtain ⟨ad,e0,hcell⟩:=dL mw x x0 x1
 cases e0
 obtain ⟨v,hv⟩: ∃v,v=rd m.words x:=⟨_,rfl⟩;rw [←hv] at hcell h hv0;obtain ⟨u,hu⟩: ∃u,u=qC s.mv v:=⟨_,rfl⟩;rw [←hu] at h;have HU:=aK hu;have HV0:=aK (vO hv0);have HG:=aK hg;have HK:=aK (qF.refl w);have H:=aK (bE h);have HT:=aK (And.intro t0 t1);have q0:=(bA hq 0).trans rfl;have g0:=(bA m0 0).trans rfl;have k0:=(bA hg.bx 0).trans rfl;have k1:=(bA hg.bx 1).trans rfl;have HYB:=aK hy;have y0:=(bA hy 0).trans rfl;clear hy hyw hj;have i1:=bO x0;have i2:=bO x1;have i3:=bO t0;have i4:=bO t1;clear hm hg h x0 x1 t0 t1 hv0 m0 mw mrest hq hv hu;go_enter Try.func89,Try.ntmps89;go_wp2;refine sT 23 (S:=fun w'=>Aside0 (Below w.heap.size w w')∧w'.cell? ⟨gq,0,none⟩=some (.pointer (some ⟨gm,0,none⟩))∧w'.cell? ⟨gm,0,none⟩=some (.pointer (some ⟨g,0,none⟩))∧w'.cell? ⟨gm,1,none⟩=some (.slice (some ⟨gw,0,none⟩) s.tw.length cW)∧w'.cell? ⟨g,0,none⟩=some (.slice (some ad) m.words.length cM)∧w'.cell? (ad.add x.toNat)=some (.int .i64 v)∧w'.cell? ⟨gy,0,none⟩=some (.int .i64 by_)) (ds:=[22]) ⟨⟨bG (bH _ _)⟩,(by go_simp),(by go_simp),(by go_simp),(by go_simp),(by go_simp),(by go_simp)⟩ (fun hHeld=>?_);refine cJ 5 ?_;refine cJ 17 ?_;refine tS 0 4 (lA 23 131105) rfl rfl (by kernel_rfl) hHeld bCv ?_;refine cJ 1 ?_;refine cJ 2 ?_;refine cJ 3 ?_;refine tS 4 8 (lA 23 131135) rfl rfl (by kernel_rfl) hHeld bCv ?_;refine tS 6 10 (lA 23 131199) rfl rfl (by kernel_rfl) hHeld bCv ?_;refine cJ 7 ?_;refine tS 8 12 (lA 23 131583) rfl rfl (by kernel_rfl) hHeld bCv ?_;refine tS 9 13 (lA 23 132095) rfl rfl (by kernel_rfl) hHeld bCv ?_;refine cJ 10 ?_;refine cJ 11 ?_;refine tS 12 16 (lA 23 139263) rfl rfl (by kernel_rfl) hHeld bCv ?_;refine cJ 13 ?_;refine cJ 14 ?_;refine cJ 15 ?_;refine tS 16 20 (lA 23 262143) rfl rfl (by kernel_rfl) hHeld bCv ?_;refine cJ 18 ?_;refine tS 19 23 (lA 23 1048575) rfl rfl (by kernel_rfl) hHeld bCv ?_;refine oS 20 24 (lA 23 2097151) rfl rfl (fun K hK=>?_);refine gO Try.func88 #[.pointer (some ⟨gm,0,none⟩),.int .i64 v] ?_;(with_reducible refine (xM _ w0 g gm B gw cW AC cC AO cO s v _ (HG.out.below hHeld.1.out) HV0.out).mono ?_);rintro e w9 ⟨rfl,hb9⟩;replace HG:=aK (HG.out.below hHeld.1.out);replace HK:=aK (HK.out.below hHeld.1.out);replace HYB:=aK (bS HYB.out hHeld.1.out);replace HG:=aK (HG.out.below hb9);replace HK:=aK (HK.out.below hb9);replace HYB:=aK (bS HYB.out hb9);rw [←HU.out];have HN:=aK (HG.out.put j u);obtain ⟨_,fz⟩:=kO (enc:=Value.int .i64) (h1:=fun _=>rfl) 0 HG.out.rw_ j HT.out.1 HT.out.2;have xz:=(kO (enc:=Value.int .i64) (h1:=fun _=>rfl) 0 HG.out.rw_ j HT.out.1 HT.out.2).1;replace HYB:=aK (((Ch.refl (fun k=>k=gw) w9).set (p:=⟨gw,j.toNat,none⟩) (.inl rfl) (.int .i64 u)).blk HYB.out HYW.out);refine ⟨_,rfl,?_⟩;refine hK.out _ _ ⟨⟨bK hHeld.1.out hb9⟩,(bNu hb9 hHeld.2)⟩ (fun hHeld=>?_);clear hK K;refine nS 24 ?_;refine cJ 21 ?_;refine qL (i:=22) (N:=none) (lA 23 8388607) rfl rfl (by kernel_rfl) (by decide) (fun K hK=>?_);refine vN (w1:=?_) (by rfl) rfl ?_ ?_;rotate_left
 ·go_simp
  rfl
 refine hK.out _ _ ?_;clear hK K;refine gT (by kernel_rfl) ?_;go_wp2
 go_end0
 have hs:=H.out;subst hs;exact ⟨⟨rfl,HN.out.1,HK.out.trans HN.out.2⟩,HYB.out⟩
def sK (f:Mv→Int→Option Mv):Mv→List Int→Option Mv
  |s,[]=>some s
  |s,x::r=>(f s x).bind fun s'=>sK f s' r
theorem vG (N : Nat) (fn : Func) (hf : Try.prog.funcs[N]? = some fn) (hn : (fn.name == "runtime.NumGoroutine") = false) (hbd : fn.body.isSome = true) (caps : Array Value)
  (b:Nat) (w0:World) (g gm B gw cW:Nat) (AC:Option Addr) (cC:Nat) (AO:Option Addr) (cO:Nat) (m:Mm) (f:Mv→Int→Option Mv) (a:Int) (ws:List Int) (X:World→Prop) (Pc:Option Addr→Nat→Prop) (s s':Mv) (w:World)
  (hX: ∀W W',X W→Below W.heap.size W W'→X W')
  (hcb: ∀AO cO s s' x W,Pc AO cO→Mg b w0 g gm B gw cW AC cC AO cO W s s.mv→X W→f s x=some s'→Calls Try.prog N (#[.int .i64 x]++caps) W fun e W'=>(e= .returned (.tuple #[])∧(∃AO cO,Pc AO cO∧Mg b w0 g gm B gw cW AC cC AO cO W' s' s'.mv)∧qF W W')∧X W')
  (hm:MV w0 g m) (hb0:b=w0.heap.size) (hP:Pc AO cO) (hg:Mg b w0 g gm B gw cW AC cC AO cO w s s.mv) (hx:X w) (h1:bKd m a=some ws) (h2:sK f s ws=some s'):
  Calls Try.prog 55 #[.pointer (some ⟨g,0,none⟩),.int .i64 a,.func (.func N) #[] caps] w fun e w'=>(e= .returned (.tuple #[])∧(∃AO cO,Pc AO cO∧Mg b w0 g gm B gw cW AC cC AO cO w' s' s'.mv)∧qF w w')∧X w':=by
 refine (bFm N fn hf hn hbd caps g m a (fun rest W=>X W∧∃AO cO t,Pc AO cO∧Mg b w0 g gm B gw cW AC cC AO cO W t t.mv∧sK f t rest=some s') ws w ?_ ⟨hx,AO,cO,s,hP,hg,h2⟩ ?_ ?_ h1).mono ?_
 ·rintro l W ⟨_, AO, cO, t, _, hg, _⟩
  exact dH hm (by rw [←hb0];exact hg.be)
 ·rintro l W W' ⟨hx, AO, cO, t, hp, hg, hf⟩ hb
  exact ⟨hX W W' hx hb,AO,cO,t,hp,hg.below hb,hf⟩
 ·rintro x r W ⟨hx, AO, cO, t, hp, hg, hf⟩
  unfold sK at hf;obtain ⟨t',ht,hf⟩:=Option.bind_eq_some_iff.mp hf;refine (hcb AO cO t t' x W hp hg hx ht).mono ?_;rintro e W' ⟨⟨he,⟨AN,cN,hpn,hgn⟩,hk⟩,hxn⟩;exact ⟨he,⟨hxn,AN,cN,t',hpn,hgn,hf⟩,hk⟩
 ·rintro e w' ⟨he, ⟨hxn, AN, cN, t, hpn, hgn, hf⟩, hk⟩
  unfold sK at hf;obtain rfl:=bE hf;exact ⟨⟨he,⟨AN,cN,hpn,hgn⟩,hk⟩,hxn⟩
def yX (m:Mm):Mv→List Int→Option Mv
  |s,[]=>some s
  |s,a::r=>(bKd m a).bind fun ws=>(sK (bBy m) s ws).bind fun s'=>yX m s' r
def bBw (m:Mm):Mv→List Int→Option Mv
  |s,[]=>some s
  |s,a::r=>if (-2000000≤a∧a≤2000000)∧(-2000000≤(nO s.mv a).getD 0∧(nO s.mv a).getD 0≤2000000) then (bKd m a).bind fun ws=>(sK (fun u y=>bBx m u ((nO s.mv a).getD 0 - a) y) s ws).bind fun s'=>bBw m s' r else none
theorem bHr {f:Mv→Int→Option Mv} (hf: ∀s x s',f s x=some s'→s'.mv=s.mv): ∀(ws:List Int) (s s':Mv),sK f s ws=some s'→s'.mv=s.mv
 |[],s,s',h=>by unfold sK at h;rw [←bE h]
 |x::r,s,s',h=>by
  unfold sK at h;obtain ⟨t,ht,h⟩:=Option.bind_eq_some_iff.mp h;rw [bHr hf r t s' h,hf s x t ht]
theorem bPp (m:Mm) (s:Mv) (x:Int) (s':Mv) (h:bBy m s x=some s'):s'.mv=s.mv:=by
 unfold bBy at h
 split at h
 case isTrue=>rw [←bE h]
 case isFalse=>simp at h
theorem bPo (m:Mm) (y:Int) (s:Mv) (x:Int) (s':Mv) (h:bBx m s y x=some s'):s'.mv=s.mv:=by
 unfold bBx at h
 split at h
 case isTrue=>rw [←bE h]
 case isFalse=>simp at h
theorem bJe (m:Mm): ∀(l:List Int) (s s':Mv),yX m s l=some s'→s'.mv=s.mv
 |[],s,s',h=>by unfold yX at h;rw [←bE h]
 |a::r,s,s',h=>by
  unfold yX at h;obtain ⟨ws,_,h⟩:=Option.bind_eq_some_iff.mp h;obtain ⟨t,ht,h⟩:=Option.bind_eq_some_iff.mp h;rw [bJe m r t s' h,bHr (bPp m) ws s t ht]
def bJf (m:Mm) (s:Mv) (stayed:List Int):Option Mv:=if stayed.length≤2000000∧s.mv.length≤2000000 then (yX m s stayed).bind fun s1=>bBw m s1 (s1.mv.map Prod.fst) else none
theorem bFl (b:Nat) (w0:World) (g gm B gw cW:Nat) (AC:Option Addr) (cC:Nat) (AO:Option Addr) (cO:Nat) (AS:Option Addr) (cS:Nat) (m:Mm) (s s':Mv) (stayed:List Int) (w:World) (hm:MV w0 g m) (hb0:b=w0.heap.size) (hg:Mg b w0 g gm B gw cW AC cC AO cO w s s.mv) (hs0:Kd.C (Kd.int .i64) w0 AS stayed.length stayed) (h:bJf m s stayed=some s'):
  Calls Try.prog 59 #[.pointer (some ⟨gm,0,none⟩),.slice AS stayed.length cS] w (bKp b w0 g gm B gw cW AC cC AO cO s' w):=by
 subst hb0;unfold bJf at h
 split at h
 case isFalse=>simp at h
 case isTrue hl=>
 obtain ⟨s1,h1,h2⟩:=Option.bind_eq_some_iff.mp h;have HL:=aK hl;have H1:=aK (show yX m s (stayed.drop 0)=some s1 by rw [mH];exact h1);have H2:=aK h2;have HMV:=aK (bJe m _ _ _ h1);have HM:=aK hm;have HG:=aK hg;have HS:=aK hs0;have HK:=aK (qF.refl w);clear hm hg hs0 h h1 h2 hl;go_enter Try.func59,Try.ntmps59
 go_wp2_with ((with_reducible refine dK (N:=2) rfl ?_);refine bF (fun hng=>?_))
 refine hng ?_;clear hng;refine dM ?hg (N:=2) ?hd (cs:= #[.pointer (some ⟨gm,0,none⟩)]) (t:=83) ?hr ?_
 (case hd=>rfl)
 (case hg=>rfl)
 (case hr=>first|(go_simp;done)|(go_simp;rfl))
 intro gq hg w1 hbox hb;have BQ:=aK hbox;replace HG:=aK (HG.out.below hb);replace HK:=aK (HK.out.below hb);clear hb hbox hg;go_wp2
 go_loopw [11] (fun v11 wr=> ∃(k:Nat) (t:Mv),v11= .int .i64 (k:Int)∧Aside0 (k≤stayed.length)∧Aside0 (yX m t (stayed.drop k)=some s1)∧Aside0 (Mg w0.heap.size w0 g gm B gw cW AC cC AO cO wr t t.mv)∧Aside0 (wr.heap[gq]? =some (.cells #[.pointer (some ⟨gm,0,none⟩)] 83 (0,0)))∧Aside0 (qF w wr)) (fun v11 _=>stayed.length - (intOf v11).toNat)
 case atStart=>exact ⟨0,s,rfl,⟨hU _⟩,H1,HG,BQ,HK⟩
 case round =>
  clear H1 HG BQ HK;obtain ⟨k,t,rfl,HKl,H1,HG,BQ,HK⟩:=hrel;by_cases cx:(k:Int)<(stayed.length:Int)
  ·have d0 : decide ((k : Int) < (stayed.length : Int)) = true := bD cx
   have hlt:k<stayed.length:=by omega
   have hd:=fO hlt;have hg_:stayed[k]=rd stayed k:=by unfold rd;rw [dF,bP,bT hlt];rfl
   obtain ⟨ad,e0,hcell⟩:=dL (cG HS.out HG.out.be) k (by omega) (by omega)
   cases e0
   rw [dF] at hcell;have hp:=H1.out;rw [hd,hg_] at hp;unfold yX at hp;obtain ⟨x,hx⟩: ∃x,x=rd stayed k:=⟨_,rfl⟩;rw [←hx] at hp hcell;obtain ⟨ws,hws,hp⟩:=Option.bind_eq_some_iff.mp hp;obtain ⟨t1,hf,hp⟩:=Option.bind_eq_some_iff.mp hp;have HW:=aK hws;have HF:=aK hf;have H3:=aK hp;have HK1:=aK hlt;have i1:=bO (show 0≤(k:Int) by omega);have i2:=bO cx;clear hd hg_ hx hws hf hp H1 cx hlt;have q0:=(bA BQ.out 0).trans rfl;have k0:=(bA HG.out.bx 0).trans rfl
   go_wp2_with (go_at_call 55;refine bF (fun hng=>?_))
   refine hng ?_;clear hng;refine (vG 87 _ Try.func87 (by kernel_rfl) rfl #[.pointer (some ⟨gq,0,none⟩)] w0.heap.size w0 g gm B gw cW AC cC AO cO m (bBy m) x ws (fun W=>W.heap[gq]? =some (.cells #[.pointer (some ⟨gm,0,none⟩)] 83 (0,0))) (fun A c=>A=AO∧c=cO) t t1 _ (fun W W' h hb=>bS h hb) ?hcb HM.out rfl ⟨rfl,rfl⟩ HG.out BQ.out HW.out HF.out).mono ?_
   case hcb=>
    rintro AO2 cO2 u u' y W ⟨e1_,e2_⟩ hgu hxq hu;exact (bLt _ w0 g gm B gw cW AC cC AO2 cO2 m u u' y gq W HM.out rfl hgu hxq hu).mono (fun e W' hh=>⟨⟨hh.1,⟨AO2,cO2,⟨e1_,e2_⟩,hh.2.1⟩,hh.2.2⟩,hh.2.2.pg hxq⟩)
   rintro e w5 ⟨⟨rfl,⟨A5,c5,⟨rfl,rfl⟩,hg5⟩,hk5⟩,hx5⟩;replace HG:=aK hg5;replace BQ:=aK hx5;replace HK:=aK (HK.out.trans hk5);clear hg5 hk5 hx5 q0 k0 hcell;have u1:IntKind.i64.wrap ((k:Int)+1)=(k:Int)+1:=dD _ (by have:=HK1.out;have:=HL.out;omega)
   go_wp2
   go_roundw
   case rel=>exact ⟨k+1,t1,rfl,⟨HK1.out⟩,H3,HG,BQ,HK⟩
   case measure=>have:=HK1.out;simp only [intOf];omega
  ·have d0 : decide ((k : Int) < (stayed.length : Int)) = false := bM cx
   have hp:=H1.out;rw [hZ (by omega)] at hp;unfold yX at hp;obtain rfl:=bE hp;clear hp H1;have q0:=(bA BQ.out 0).trans rfl;have k0:=(bA HG.out.bx 0).trans rfl;have k3:=(bA HG.out.bx 7).trans rfl;have H5:=aK (show bBw m t ((t.mv.map Prod.fst).drop 0)=some s' by rw [mH];exact H2.out);have HLm:=aK (show t.mv.length≤2000000 by rw [HMV.out];exact HL.out.2);have d0b:=pO (show¬k<stayed.length by omega);clear cx;go_wp2;clear q0 k0 k3 d0 d0b
   go_loopw [28] (fun v28 wr=> ∃(k:Nat) (t2:Mv),v28= .int .i64 (k:Int)∧Aside0 (k≤t.mv.length)∧Aside0 (bBw m t2 ((t.mv.map Prod.fst).drop k)=some s'∧t2.mv=t.mv)∧Aside0 (Mg w0.heap.size w0 g gm B gw cW AC cC AO cO wr t2 t2.mv)∧Aside0 (wr.heap[gq]? =some (.cells #[.pointer (some ⟨gm,0,none⟩)] 83 (0,0)))∧Aside0 (qF w wr)) (fun v28 _=>t.mv.length - (intOf v28).toNat)
   case atStart=>exact ⟨0,t,rfl,⟨hU _⟩,⟨H5.out,rfl⟩,HG,BQ,HK⟩
   case round=>
    clear HG BQ HK H5;obtain ⟨k,t2,rfl,HKl,H5,HG,BQ,HK⟩:=hrel;by_cases cx:(k:Int)<(t.mv.length:Int)
    ·have d0 : decide ((k : Int) < (t.mv.length : Int)) = true := bD cx
     have d0b:=bO (show k<t.mv.length by omega);have hlt:k<(t.mv.map Prod.fst).length:=by rw [dP];omega
     have hd:=fO hlt;have hg_:(t.mv.map Prod.fst)[k]=rd (t.mv.map Prod.fst) k:=by unfold rd;rw [dF,bP,bT hlt];rfl
     have hro:Kd.C (Kd.int .i64) wr AO (t.mv.map Prod.fst).length (t.mv.map Prod.fst):=by have h_:=(cD HG.out.ro).2.2;rw [H5.out.2] at h_;exact h_
     obtain ⟨ad,e0,hcell⟩:=dL hro k (by omega) (by omega)
     cases e0
     rw [dF] at hcell;have hp:=H5.out.1;rw [hd,hg_] at hp;unfold bBw at hp;obtain ⟨x,hx⟩: ∃x,x=rd (t.mv.map Prod.fst) k:=⟨_,rfl⟩;rw [←hx] at hp hcell
     split at hp
     case isFalse=>simp at hp
     case isTrue hsm=>
     obtain ⟨ws,hws,hp⟩:=Option.bind_eq_some_iff.mp hp;obtain ⟨t1,hf,hp⟩:=Option.bind_eq_some_iff.mp hp;obtain ⟨pv,hpv⟩: ∃z,z=(nO t2.mv x).getD 0:=⟨_,rfl⟩;obtain ⟨by_,hby⟩: ∃z,z=pv - x:=⟨_,rfl⟩;rw [←hpv,←hby] at hf;rw [←hpv] at hsm;have HW:=aK hws;have HF:=aK hf;have H3:=aK hp;have HK1:=aK (show k<t.mv.length by omega);have HMt:=aK H5.out.2;have HT1:=aK (bHr (fun u y u'=>bPo m by_ u y u') ws t2 t1 hf);have hlk:=HG.out.mp.look1 (vO hsm.1) 88 Try.underlying88;rw [←hpv] at hlk;have v1:wrap64 (pv - x)=by_:=by rw [hby];unfold wrap64;omega
     have i1:=bO (show 0≤(k:Int) by omega);have i2:=bO cx;clear hd hg_ hro hx hws hf hp H5 cx hlt hpv hby hsm;have q0:=(bA BQ.out 0).trans rfl;have k0:=(bA HG.out.bx 0).trans rfl;have k6:=(bA HG.out.bx 6).trans rfl
     go_wp2_with ((with_reducible refine dK (N:=8) rfl ?_);refine bF (fun hng=>?_))
     refine hng ?_;clear hng;refine dM ?hg (N:=8) ?hd (cs:= #[.int .i64 0]) (t:=3) ?hr ?_
     (case hd=>rfl)
     (case hg=>rfl)
     (case hr=>first|(go_simp;done)|(go_simp;rfl))
     intro gy hg w7 hbox hb;have BY:=aK hbox;have HGy:=aK (show gy≠gw by have:=pM HG.out.rw_ gw rfl;rw [hg];omega);have HX:=aK hb;have HGe:=aK (show gy=wr.heap.size from hg);clear hb hbox hg;have y0:=(bA BY.out 0).trans rfl;have fy:=bL BY.out 0
     go_wp2_with ((with_reducible refine fX (t:=3) (p:=8) rfl ?_);refine bF (fun hng=>?_))
     refine hng ?_;clear hng;refine fN (t:=3) (p:=8) (v:=?voy) (w1:=(w7.setCell ⟨gy,0,none⟩ (.int .i64 by_))) ?hg ?ho ?hn ?hr ?_
     (case ho=>rfl)
     (case hg=>rfl)
     (case hn=>rfl)
     (case hr=>first|(go_simp;done)|(go_simp;rfl))
     intro w8 hw;have hc:Ch (fun k=>k=gy) w7 w8:=by rw [hw];exact (Ch.refl (fun k=>k=gy) w7).set (p:=⟨gy,0,none⟩) (.inl rfl) _
     replace HX:=aK (HX.out.trans (hc.toBelow (B:=wr.heap.size) (bW HX.out) (fun k hk=>by have:=HGe.out;omega)));replace BY:=aK (show w8.heap[gy]? =some (.cells #[.int .i64 by_] 3 (0,0)) by rw [hw];exact fF BY.out 0 _ rfl);replace HG:=aK (HG.out.below HX.out);replace BQ:=aK (bS BQ.out HX.out);replace HK:=aK (HK.out.below HX.out);clear hw hc q0 k0 k6 y0 fy hcell HX HGe hlk;have q0:=(bA BQ.out 0).trans rfl;have k0:=(bA HG.out.bx 0).trans rfl
     go_wp2_with (go_at_call 55;refine bF (fun hng=>?_))
     refine hng ?_;clear hng;refine (vG 89 _ Try.func89 (by kernel_rfl) rfl #[.pointer (some ⟨gq,0,none⟩),.pointer (some ⟨gy,0,none⟩)] w0.heap.size w0 g gm B gw cW AC cC (some ad) cO m (fun u y=>bBx m u by_ y) x ws (fun W=>W.heap[gq]? =some (.cells #[.pointer (some ⟨gm,0,none⟩)] 83 (0,0))∧W.heap[gy]? =some (.cells #[.int .i64 by_] 3 (0,0))) (fun A c=>A=some ad∧c=cO) t2 t1 _ (fun W W' h hb=>⟨bS h.1 hb,bS h.2 hb⟩) ?hcb HM.out rfl ⟨rfl,rfl⟩ HG.out ⟨BQ.out,BY.out⟩ HW.out HF.out).mono ?_
     case hcb=>
      rintro AO2 cO2 u u' y W ⟨e1_,e2_⟩ hgu hxq hu;exact (bLs _ w0 g gm B gw cW AC cC AO2 cO2 m u u' y by_ gq gy W HM.out rfl hgu hxq.1 hxq.2 HGy.out hu).mono (fun e W' hh=>⟨⟨hh.1.1,⟨AO2,cO2,⟨e1_,e2_⟩,hh.1.2.1⟩,hh.1.2.2⟩,hh.1.2.2.pg hxq.1,hh.2⟩)
     rintro e w9 ⟨⟨rfl,⟨A5,c5,⟨rfl,rfl⟩,hg5⟩,hk5⟩,hx5⟩;replace HG:=aK hg5;replace BQ:=aK hx5.1;replace HK:=aK (HK.out.trans hk5);clear hg5 hk5 hx5 q0 k0 BY HGy;have u1:IntKind.i64.wrap ((k:Int)+1)=(k:Int)+1:=dD _ (by have:=HK1.out;have:=HLm.out;have:=HMt.out;omega)
     go_wp2
     go_roundw
     case rel=>exact ⟨k+1,t1,rfl,⟨HK1.out⟩,⟨H3.out,HT1.out.trans HMt.out⟩,HG,BQ,HK⟩
     case measure=>have:=HK1.out;simp only [intOf];omega
    ·have d0 : decide ((k : Int) < (t.mv.length : Int)) = false := bM cx
     have d0b:=pO (show¬k<t.mv.length by omega);have hp:=H5.out.1;rw [hZ (by rw [dP];omega)] at hp;unfold bBw at hp;obtain rfl:=bE hp;clear hp H5 cx;go_wp2
     go_end0
     exact ⟨rfl,HG.out,HK.out⟩
theorem bDw (b:Nat) (w0:World) (g gm B gw cW:Nat) (AC:Option Addr) (cC:Nat) (AO:Option Addr) (cO:Nat) (s:Mv) (AR:Option Addr) (cR:Nat) (roots:List Int) (w:World) (hg:Mg b w0 g gm B gw cW AC cC AO cO w s s.mv) (hr:Kd.C (Kd.int .i64) w AR roots.length roots) (hl:roots.length≤4000000) (hs: ∀x∈roots,-2000000≤x∧x≤2000000):
  Calls Try.prog 60 #[.pointer (some ⟨gm,0,none⟩),.slice AR roots.length cR] w fun e w'=> ∃v0_:Value,e= .returned (v0_)∧Kd.R (Kd.int .i64) 3 w' w.heap.size (fun _=>True) v0_ (roots.map (qC s.mv))∧Below w.heap.size w w':=by
 have HG:=aK hg;have HR:=aK hr;have HL:=aK hl;have HS:=aK hs;clear hg hr hl hs;go_enter Try.func60,Try.ntmps60;go_wp2
 go_loopw [10,5] (fun v10 v5 wr=> ∃k:Nat,v10= .int .i64 (k:Int)∧Aside0 (k≤roots.length)∧Aside0 (Kd.R (Kd.int .i64) 3 wr w.heap.size (fun _=>True) v5 ((roots.take k).map (qC s.mv)))∧Aside0 (Below w.heap.size w wr)) (fun v10 _ _=>roots.length - (intOf v10).toNat)
 case atStart=>exact ⟨0,rfl,⟨hU _⟩,⟨by rw [List.take_zero];exact mI _ _ _ _ _⟩,⟨bH _ _⟩⟩
 case round=>
  obtain ⟨k,rfl,HK,HO,HB⟩:=hrel;by_cases cx:(k:Int)<(roots.length:Int)
  ·have d0 : decide ((k : Int) < (roots.length : Int)) = true := bD cx
   have d0b:=bO (show k<roots.length by omega);have hlt:k<roots.length:=by omega
   obtain ⟨ad,e0,hcell⟩:=dL (cG HR.out HB.out) k (by omega) (by omega)
   cases e0
   rw [dF] at hcell;have hgk:roots[k]=rd roots k:=by unfold rd;rw [dF,bP,bT hlt];rfl
   obtain ⟨x,hx⟩: ∃x,x=rd roots k:=⟨_,rfl⟩;rw [←hx] at hcell;have HX:=aK (show -2000000≤x∧x≤2000000 from by rw [hx,←hgk];exact HS.out _ (jZ hlt));have HT:=aK (show (roots.take (k+1)).map (qC s.mv)=(roots.take k).map (qC s.mv)++[qC s.mv x] by rw [mO hlt,nA,hgk,hx];rfl);have HK1:=aK hlt;have i1:=bO (show 0≤(k:Int) by omega);have i2:=bO cx;have HGr:=aK (HG.out.below HB.out);clear cx hlt hgk hx
   go_wp2_with (go_at_call 88;refine bF (fun hng=>?_))
   refine hng ?_;clear hng;refine (xM b w0 g gm B gw cW AC cC AO cO s x _ HGr.out (vO HX.out)).mono ?_;rintro e w3 ⟨rfl,hb⟩;have HB3:=aK (bK HB.out hb);have HO3:=aK (bZ HO.out hb);clear hb HB HO HGr hcell i1 i2 d0 d0b;obtain ⟨y,hy⟩: ∃y,y=qC s.mv x:=⟨_,rfl⟩;rw [←hy] at HT ⊢;clear hy;have u1:IntKind.i64.wrap ((k:Int)+1)=(k:Int)+1:=dD _ (by have:=HK1.out;have:=HL.out;omega)
   go_wp2_with ((with_reducible refine jK (b:= .append) (xs:= #[.tmp 14,.tmp 18]) rfl ?_);refine bF (fun hng=>?_))
   refine hng ?_;clear hng;refine sE (Kd.int .i64) (w0:=w) w.heap.size rfl (.tmp 14) (.tmp 18) 23 3 (.int .i64 0) 8 rfl Try.underlying23 qT rfl (by decide) (by omega) _ ((roots.take k).map (qC s.mv)) y [.int .i64 y] (fun _=>True) (fun _=>False) rfl rfl ?aP (fun _ hk=>hk.elim) ?aF ?aO ?aB ?aS ?aL ?_
   (case aP=>exact rfl)
   (case aF=>exact fun _ _=>trivial)
   (case aO=>exact HO3.out)
   (case aB=>exact HB3.out)
   (case aS=>exact bW HB3.out)
   (case aL=>have:=HL.out;have:=HK1.out;rw [dP,dB];omega)
   intro v92 w6 ho hbn hgr hat;have HO6:=aK (show Kd.R (Kd.int .i64) 3 w6 w.heap.size (fun _=>True) v92 ((roots.take (k+1)).map (qC s.mv)) by rw [HT.out];exact ho);have HB6:=aK hbn;clear ho hbn hgr hat HO3 HB3;go_wp2
   go_roundw
   case rel=>exact ⟨k+1,rfl,⟨HK1.out⟩,HO6,HB6⟩
   case measure=>have:=HK1.out;simp only [intOf];omega
  ·have d0 : decide ((k : Int) < (roots.length : Int)) = false := bM cx
   have d0b:=pO (show¬k<roots.length by omega);have HO1:=aK (show Kd.R (Kd.int .i64) 3 wr w.heap.size (fun _=>True) _ (roots.map (qC s.mv)) by have h_:=HO.out;rw [tO (by omega)] at h_;exact h_);clear cx;go_wp2;go_ret;exact ⟨_,rfl,HO1.out,HB.out⟩
theorem bJl {α:Type} {enc:α→Value} {h1: ∀x,(enc x).oneCell'=true} (d z:α) {W:World} {base e g cap n c:Nat} {ok:Nat→Prop} {xs:List α} (HO:(Kd.scalar enc h1).R e W base ok (.slice (some ⟨g,0,none⟩) xs.length cap) xs) (hn:n≤xs.length)
  (t ty:TypeId) (ht:Try.prog.underlying t=some (.slice e)) (hv: ∀w,(zeroValue e).run Try.prog w= .ok (enc z) w) (hz:(enc z).cells= #[enc z]):
  ∃w1,(Builtin.clear_ #[t] ty #[.slice (some ⟨g,0,none⟩) n c]).run Try.prog W= .ok (.tuple #[]) w1∧(Kd.scalar enc h1).R e w1 base ok (.slice (some ⟨g,0,none⟩) xs.length cap) (List.replicate n z++xs.drop n)∧Ch (fun k=>k=g) W w1:=by
 rcases tN n with h0|hp
 ·subst h0
  refine ⟨W,?_,by rw [mH];exact HO,Ch.refl _ _⟩;unfold Builtin.clear_;simp [run_underlying ht,Result.andThen]
 have hown:=jO HO;rcases hown.2 with ⟨hv',_⟩|⟨g',cap',cur,hv',hb,hh,hnc,hcm,hcs,htake⟩
 ·exact absurd hv' (by simp)
 injection hv' with e1 e2 e3;injection e1 with e1;injection e1 with e1;subst e1 e3;have hcs1:cur.size=cap:=by omega
 have hrun:=Lib.run_clear_slice (P:=Try.prog) W t e ty (enc z) ht hv hz (h1 z) g 0 n c hp (fun j hj=>by rw [cell_of_row W g _ cur e (0,0) hh];simp;omega) (fun j _=>bL hh _);have hkl:(List.replicate n (enc z)).length=n:=fI
 obtain ⟨cur',h3,h4,h5⟩:=xZ (List.replicate n (enc z)) 0 W cur hh (by rw [hkl];omega);obtain ⟨s1,s2,s3,s4⟩:=vZ g (List.replicate n (enc z)) 0 W;have hln:(List.replicate n z++xs.drop n).length=xs.length:=by rw [cH,fI,dJ];omega
 have hR2:(Kd.scalar enc h1).R e (W.setCells g 0 (List.replicate n (enc z))) base ok (.slice (some ⟨g,0,none⟩) (List.replicate n z++xs.drop n).length cap) (List.replicate n z++xs.drop n):=by
  refine jC ?_ (by rw [hln];exact HO.1);rw [hln];refine ⟨by rw [rG,hln,pI],.inr ⟨g,cap,cur',rfl,hb,h3,hnc,hcm,by rw [h4,hcs],?_⟩⟩;have htk:cur.toList.take xs.length=pE enc xs:=by rw [←htake,pI]
  have hdr:(cur.toList.drop n).take (xs.length - n)=pE enc (xs.drop n):=by
   have:pE enc (xs.drop n)=(pE enc xs).drop n:=by simp [pE,List.map_drop]
   rw [this,←htk,List.drop_take]
  have hrep:pE enc (List.replicate n z)=List.replicate n (enc z):=by simp [pE]
  rw [h5,hkl,pI,List.take_zero,pJ,sA,bCc,hrep,←hdr];rw [List.take_append,hkl,tO (by rw [hkl];omega)]
 rw [hln] at hR2;exact ⟨_,hrun,hR2,⟨s1,s2,s3,by rw [s4];exact bV _,fun k _ hk=>yA _ _ k hk⟩⟩
theorem bQa {W:World} {base e c:Nat} {ok:Nat→Prop} {A:Option Addr} {xs:List Bool} (HO:Kd.bool.R e W base ok (.slice A xs.length c) xs)
  (t ty:TypeId) (ht:Try.prog.underlying t=some (.slice e)) (hv: ∀w,(zeroValue e).run Try.prog w= .ok (.bool false) w):
  ∃w1,(Builtin.clear_ #[t] ty #[.slice A xs.length c]).run Try.prog W= .ok (.tuple #[]) w1∧Kd.bool.R e w1 base ok (.slice A xs.length c) (List.replicate xs.length false)∧Ch (fun k=>some k=(Value.slice A xs.length c).ownBlock) W w1:=by
 rcases tN xs.length with h0|hp
 ·obtain rfl : xs = [] := tE h0
  refine ⟨W,?_,HO,Ch.refl _ _⟩;unfold Builtin.clear_
  cases A<;>simp [run_underlying ht,Result.andThen]
 ·obtain ⟨g, cap, hv', _, _, _⟩ := pG HO hp
  injection hv' with e1 e2 e3;subst e1 e3;obtain ⟨w1,h1,h2,h3⟩:=bJl (enc:=Value.bool) (h1:=fun _=>rfl) false false (c:=c) HO (bV _) t ty ht hv rfl;refine ⟨w1,h1,?_,h3.mono (fun k hk=>by rw [hk];rfl)⟩;rw [List.drop_length,tX] at h2;exact h2
def mv0 (m:Mm):Mv:=⟨m.words,m.young,m.top,m.old,m.cards,[],false⟩
def bGb (m:Mm) (f:Mv→Int→Option Mv):Mv→List Int→Option Mv
  |s,[]=>some s
  |s,a::r=>(bKd m a).bind fun ws=>(sK f s ws).bind fun s'=>bGb m f s' r
def bHw (m:Mm):Nat→Nat→Mv→Option Mv
  |0,_,_=>none
  |q+1,i,s=>if s.full=true∨s.mv.length≤i then some s else (bKd m (rd (s.mv.map Prod.fst) i)).bind fun ws=>(sK (bEi m) s ws).bind fun s'=>bHw m q (i+1) s'
def bDy (k:Nat) (m:Mm) (roots:List Int):Option (Option (Mv×List Int)):=
 if (0<m.words.length∧m.words.length≤2000000∧m.cards.length≤2000000∧roots.length≤4000000)∧(∀x∈roots,-2000000≤x∧x≤2000000) then
  (sK (bDk m) (mv0 m) roots).bind fun s1 => (bLo k m).bind fun ol => if ol.length ≤ 4000000 then (bGb m (bEj m) s1 ol).bind fun s2 => (bHw m k 0 s2).bind fun s3 =>
   if s3.full=true then some none
   else (bJf m s3 ol).bind fun s4=>if 0≤s4.y∧s4.y≤s4.tw.length then some (some ({s4 with tw:=List.replicate s4.y.toNat 0++s4.tw.drop s4.y.toNat,tc:=List.replicate s4.tc.length false,t:=0},roots.map (qC s4.mv))) else none
   else none
 else none
def bQf (w:World) (r:Option (Mv×List Int)) (e:Ending) (w':World):Prop:=
  match r with
  |none=>e= .returned (.tuple #[.agg #[.slice none 0 0,.int .i64 0,.int .i64 0,.int .i64 0,.slice none 0 0],.slice none 0 0,.bool false])∧Below w.heap.size w w'
  |some (s,now)=> ∃v0 v4 vr,e= .returned (.tuple #[.agg #[v0,.int .i64 s.y,.int .i64 s.t,.int .i64 s.o,v4],vr,.bool true])∧Kd.R (Kd.int .i64) 3 w' w.heap.size (fun k=>some k≠vr.ownBlock) v0 s.tw∧Kd.R Kd.bool 4 w' w.heap.size (fun _=>True) v4 s.tc∧Kd.R (Kd.int .i64) 3 w' w.heap.size (fun k=>some k≠v0.ownBlock) vr now∧Below w.heap.size w w'
theorem bDz (k g : Nat) (m : Mm) (AR : Option Addr) (cR : Nat) (roots : List Int) (r : Option (Mv × List Int)) (w : World) (hm : MV w g m) (hr : Kd.C (Kd.int .i64) w AR roots.length roots) (h : bDy k m roots = some r) :
  Calls Try.prog 32 #[.pointer (some ⟨g,0,none⟩),.slice AR roots.length cR] w (bQf w r):=by
 unfold bDy at h
 split at h
 case isFalse=>simp at h
 case isTrue hsz=>
 obtain ⟨s1,h1,h⟩:=Option.bind_eq_some_iff.mp h;obtain ⟨ol,h2,h⟩:=Option.bind_eq_some_iff.mp h
 split at h
 case isFalse=>simp at h
 case isTrue hol=>
 obtain ⟨s2,h3,h⟩:=Option.bind_eq_some_iff.mp h;obtain ⟨s3,h4,h⟩:=Option.bind_eq_some_iff.mp h;have HSZ:=aK hsz.1;have HSM:=aK hsz.2;have HLo:=aK (show ol.length≤4000000 from hol);have H1:=aK (show sK (bDk m) (mv0 m) (roots.drop 0)=some s1 by rw [mH];exact h1);have H2:=aK h2;have H3:=aK (show bGb m (bEj m) s1 (ol.drop 0)=some s2 by rw [mH];exact h3);have H4:=aK h4;have H:=aK h;have HM:=aK hm;have HR:=aK hr;have HB:=aK (bH w.heap.size w);clear hm hr h h1 h2 h3 h4 hsz hol;go_enter Try.func32,Try.ntmps32
 go_wp2_with ((with_reducible refine dK (N:=2) rfl ?_);refine bF (fun hng=>?_))
 refine hng ?_;clear hng;refine dM ?hg (N:=2) ?hd (cs:= #[.pointer (some ⟨g,0,none⟩)]) (t:=56) ?hr ?_
 (case hd=>rfl)
 (case hg=>rfl)
 (case hr=>first|(go_simp;done)|(go_simp;rfl))
 intro gp hg w1 hbox hb;have BP:=aK hbox;replace HB:=aK (bK HB.out hb);clear hb hbox hg
 go_wp2_with ((with_reducible refine dK (N:=4) rfl ?_);refine bF (fun hng=>?_))
 refine hng ?_;clear hng;refine dM ?hg (N:=4) ?hd (cs:= #[.slice none 0 0,.int .i64 0,.int .i64 0,.int .i64 0,.slice none 0 0]) (t:=29) ?hr ?_
 (case hd=>rfl)
 (case hg=>rfl)
 (case hr=>first|(go_simp;done)|(go_simp;rfl))
 intro gr hg w2 hbox hb;have BR:=aK hbox;have HGr:=aK (show w.heap.size≤gr by rw [hg];exact bW HB.out);replace BP:=aK (bS BP.out hb);replace HB:=aK (bK HB.out hb);clear hb hbox hg;have hmw:MV w2 g m:=dH HM.out HB.out
 obtain ⟨AW,cM,ACm,cC',AF,cF,AB,cB,m0,mw,mc,mf,mb,lw,lc,lf,lb⟩:=hmw;have HCW_:=mw;clear m0 mw mc mf mb lw lc lf lb HCW_ AW cM ACm cC' AF cF AB cB;obtain ⟨AW,cM,ACm,cC',AF,cF,AB,cB,n0,nw,nc,nf,nb,lw,lc,lf,lb⟩:=HM.out;have HCW:=aK nw;have HCC:=aK nc;have HLW:=aK lw;have HLC:=aK lc;have hn0:=bS n0 HB.out;have p0:=(bA BP.out 0).trans rfl;have g0_:=(bA hn0 0).trans rfl;have g1_:=(bA hn0 1).trans rfl;have g2_:=(bA hn0 2).trans rfl;have g3_:=(bA hn0 3).trans rfl;have g4_:=(bA hn0 4).trans rfl;clear n0 nw nc nf nb lw lc lf lb hn0;go_wp2
 go_step3
 go_wp2;refine sT 9 (S:=fun w'=>Aside0 (Below w2.heap.size w2 w')∧w'.cell? ⟨gp,0,none⟩=some (.pointer (some ⟨g,0,none⟩))∧w'.cell? ⟨g,0,none⟩=some (.slice AW m.words.length cM)∧w'.cell? ⟨g,1,none⟩=some (.int .i64 m.young)∧w'.cell? ⟨g,2,none⟩=some (.int .i64 m.top)∧w'.cell? ⟨g,3,none⟩=some (.int .i64 m.old)∧w'.cell? ⟨g,4,none⟩=some (.slice ACm m.cards.length cC')) (ds:=[8]) ⟨⟨bG (bH _ _)⟩,(by go_simp),(by go_simp),(by go_simp),(by go_simp),(by go_simp),(by go_simp)⟩ (fun hHeld=>?_);generalize World.drew w2=Wd at hHeld ⊢;refine tS 0 13 #[true,false,false,false,false,false,false,false,false] rfl rfl (by kernel_rfl) hHeld bCv ?_;refine tS 1 14 #[true,true,false,false,false,false,false,false,false] rfl rfl (by kernel_rfl) hHeld bCv ?_;refine pS 2 15 #[true,true,true,false,false,false,false,false,false] ?_;refine pS 3 16 #[true,true,true,true,false,false,false,false,false] ?_;refine tS 4 17 #[true,true,true,true,true,false,false,false,false] rfl rfl (by kernel_rfl) hHeld bCv ?_;refine bJi (σ:=Nat×Nat×Nat×Nat×Option Addr×Nat×Nat) 1 #[true,true,true,true,true,true,true,true,false] (fun s=>[(18,.agg #[.slice (some ⟨s.2.2.1,0,none⟩) m.words.length s.2.2.2.1,.int .i64 m.young,.int .i64 m.top,.int .i64 m.old,.slice s.2.2.2.2.1 m.cards.length s.2.2.2.2.2.1]),(19,.pointer (some ⟨s.1,0,none⟩)),(7,.pointer (some ⟨s.2.2.2.2.2.2,0,none⟩))]) (fun s w'=>Mg w.heap.size w g s.1 s.2.1 s.2.2.1 s.2.2.2.1 s.2.2.2.2.1 s.2.2.2.2.2.1 none 0 w' (mv0 m) []∧w'.heap[s.2.2.2.2.2.2]? =some (.cells #[.pointer none] 83 (0,0))∧w2.heap.size≤s.2.2.2.2.2.2∧(Aside0 (Below w2.heap.size w2 w')∧w'.cell? ⟨gp,0,none⟩=some (.pointer (some ⟨g,0,none⟩))∧w'.cell? ⟨g,0,none⟩=some (.slice AW m.words.length cM)∧w'.cell? ⟨g,1,none⟩=some (.int .i64 m.young)∧w'.cell? ⟨g,2,none⟩=some (.int .i64 m.top)∧w'.cell? ⟨g,3,none⟩=some (.int .i64 m.old)∧w'.cell? ⟨g,4,none⟩=some (.slice ACm m.cards.length cC'))) ?_ ?_;rotate_left
 ·intro hCont
  refine bIh (i:=5) (j:=7) (Ni:=some 18) (Nj:=some 7) #[true,true,true,true,true,true,false,false,false] #[true,true,true,true,true,false,false,true,false] rfl rfl rfl rfl (by kernel_rfl) (by decide) (by decide) (fun K hK=>?_) (fun K hK=>?_)
  ·skip
   refine gO Try.func52 #[.agg #[.slice AW m.words.length cM,.int .i64 m.young,.int .i64 m.top,.int .i64 m.old,.slice ACm m.cards.length cC']] ?_;(with_reducible refine (sS AW cM m.words m.young m.top m.old ACm cC' m.cards _ (cG HCW.out (bK HB.out hHeld.1.out)) HLW.out (cG HCC.out (bK HB.out hHeld.1.out)) HLC.out (by have:=HSZ.out;omega) (by have:=HSZ.out;omega)).mono ?_);rintro e wa ⟨u,v,rfl,hu,hv,hba⟩;have HU:=aK (dE hu (bW (bK HB.out hHeld.1.out)));have HV:=aK (dE hv (bW (bK HB.out hHeld.1.out)));obtain ⟨AU,cU,rfl⟩:=cL hu;obtain ⟨AV,cV,rfl⟩:=cL hv;obtain ⟨gw,cW,eU,_,_,_⟩:=pG hu (by have:=HSZ.out;omega);injection eU with e1 e2 e3;subst e1 e3;clear hu hv e2;refine ⟨_,rfl,?_⟩;refine hK.out _ _ ⟨⟨bK hHeld.1.out hba⟩,(bNu hba hHeld.2)⟩ (fun hHeld=>?_);clear hK K;refine nS 18 ?_;refine bIh (i:=6) (j:=7) (Ni:=some 19) (Nj:=some 7) #[true,true,true,true,true,true,true,false,false] #[true,true,true,true,true,true,false,true,false] rfl rfl rfl rfl (by kernel_rfl) (by decide) (by decide) (fun K hK=>?_) (fun K hK=>?_)
   ·skip
    refine gO Try.func51 #[.pointer (some ⟨g,0,none⟩),.agg #[.slice (some ⟨gw,0,none⟩) m.words.length cU,.int .i64 m.young,.int .i64 m.top,.int .i64 m.old,.slice AV m.cards.length cV]] ?_;(with_reducible refine (yW g (.slice (some ⟨gw,0,none⟩) m.words.length cU) (.slice AV m.cards.length cV) m.young m.top m.old ⟨_,_,_,rfl⟩ ⟨_,_,_,rfl⟩ _).mono ?_);rintro e wb ⟨gm,B,rfl,hgm,hM,hge,hbb⟩;have HMG:=aK (show Mg w.heap.size w g gm B gw cU AV cV none 0 wb (mv0 m) [] from ⟨hgm,⟨dO (bW (bK HB.out hHeld.1.out)) hge.1,dO (bW (bK HB.out hHeld.1.out)) hge.2⟩,cI (bZ (fZ HU.out) hbb) (fun k hk=>⟨by have:=hk.2.2.1;omega,by have:=hk.2.2.1;omega⟩),cI (bZ (fZ HV.out) hbb) (fun k hk=>⟨by have:=hk.2.2.1;omega,by have:=hk.2.2.1;omega,fun e=>hk.1 (by rw [e];rfl)⟩),mI _ _ _ _ _,hM,bK (bK HB.out hHeld.1.out) hbb,dO (bW (bK HB.out hHeld.1.out)) hbb.size⟩);clear hgm hM hge;refine ⟨_,rfl,?_⟩;refine hK.out _ _ ⟨⟨bK hHeld.1.out hbb⟩,(bNu hbb hHeld.2)⟩ (fun hHeld=>?_);clear hK K;refine nS 19 ?_;refine pD (i:=7) (N:=some 7) #[true,true,true,true,true,true,true,true,false] rfl rfl (by kernel_rfl) (by decide) (fun K hK=>?_);have hgX:=hHeld.1.out.size;refine rH (w1:=?_) (v:=?_) (by rfl) rfl ?_ ?_;rotate_left 2
    ·go_simp
     constructor
     ·rfl
     ·rfl
    refine hK.out _ _ ⟨⟨bJ hHeld.1.out _⟩,(bU (bJ (bH _ _) _) hHeld.2.1),(bU (bJ (bH _ _) _) hHeld.2.2.1),(bU (bJ (bH _ _) _) hHeld.2.2.2.1),(bU (bJ (bH _ _) _) hHeld.2.2.2.2.1),(bU (bJ (bH _ _) _) hHeld.2.2.2.2.2.1),(bU (bJ (bH _ _) _) hHeld.2.2.2.2.2.2)⟩ (fun hHeld=>?_);clear hK K;refine nS 7 ?_;exact sH bCw (hCont (gm,B,gw,cU,AV,cV,wb.heap.size) _ ⟨HMG.out.below (bJ (bH wb.heap.size wb) _),kU wb _,hgX,hHeld⟩)
   ·skip
    have hgX:=hHeld.1.out.size;refine rH (w1:=?_) (v:=?_) (by rfl) rfl ?_ ?_;rotate_left 2
    ·go_simp
     constructor
     ·rfl
     ·rfl
    refine hK.out _ _ ⟨⟨bJ hHeld.1.out _⟩,(bU (bJ (bH _ _) _) hHeld.2.1),(bU (bJ (bH _ _) _) hHeld.2.2.1),(bU (bJ (bH _ _) _) hHeld.2.2.2.1),(bU (bJ (bH _ _) _) hHeld.2.2.2.2.1),(bU (bJ (bH _ _) _) hHeld.2.2.2.2.2.1),(bU (bJ (bH _ _) _) hHeld.2.2.2.2.2.2)⟩ (fun hHeld=>?_);clear hK K;refine nS 7 ?_;refine pD (i:=6) (N:=some 19) #[true,true,true,true,true,true,true,true,false] rfl rfl (by kernel_rfl) (by decide) (fun K hK=>?_);replace HU:=aK (bZ HU.out (bJ (bH wa.heap.size wa) (.cells #[.pointer none] 83 (0,0))));replace HV:=aK (bZ HV.out (bJ (bH wa.heap.size wa) (.cells #[.pointer none] 83 (0,0))));refine gO Try.func51 #[.pointer (some ⟨g,0,none⟩),.agg #[.slice (some ⟨gw,0,none⟩) m.words.length cU,.int .i64 m.young,.int .i64 m.top,.int .i64 m.old,.slice AV m.cards.length cV]] ?_;(with_reducible refine (yW g (.slice (some ⟨gw,0,none⟩) m.words.length cU) (.slice AV m.cards.length cV) m.young m.top m.old ⟨_,_,_,rfl⟩ ⟨_,_,_,rfl⟩ _).mono ?_);rintro e wb ⟨gm,B,rfl,hgm,hM,hge,hbb⟩;have HMG:=aK (show Mg w.heap.size w g gm B gw cU AV cV none 0 wb (mv0 m) [] from ⟨hgm,⟨dO (bW (bK HB.out hHeld.1.out)) hge.1,dO (bW (bK HB.out hHeld.1.out)) hge.2⟩,cI (bZ (fZ HU.out) hbb) (fun k hk=>⟨by have:=hk.2.2.1;omega,by have:=hk.2.2.1;omega⟩),cI (bZ (fZ HV.out) hbb) (fun k hk=>⟨by have:=hk.2.2.1;omega,by have:=hk.2.2.1;omega,fun e=>hk.1 (by rw [e];rfl)⟩),mI _ _ _ _ _,hM,bK (bK HB.out hHeld.1.out) hbb,dO (bW (bK HB.out hHeld.1.out)) hbb.size⟩);clear hgm hM hge;have hbox:=bS (kU wa (.cells #[.pointer none] 83 (0,0))) hbb;refine ⟨_,rfl,?_⟩;refine hK.out _ _ ⟨⟨bK hHeld.1.out hbb⟩,(bNu hbb hHeld.2)⟩ (fun hHeld=>?_);clear hK K;refine nS 19 ?_;exact sH bCw (hCont (gm,B,gw,cU,AV,cV,wa.heap.size) _ ⟨HMG.out,hbox,hgX,hHeld⟩)
  ·skip
   have hgX:=hHeld.1.out.size;refine rH (w1:=?_) (v:=?_) (by rfl) rfl ?_ ?_;rotate_left 2
   ·go_simp
    constructor
    ·rfl
    ·rfl
   refine hK.out _ _ ⟨⟨bJ hHeld.1.out _⟩,(bU (bJ (bH _ _) _) hHeld.2.1),(bU (bJ (bH _ _) _) hHeld.2.2.1),(bU (bJ (bH _ _) _) hHeld.2.2.2.1),(bU (bJ (bH _ _) _) hHeld.2.2.2.2.1),(bU (bJ (bH _ _) _) hHeld.2.2.2.2.2.1),(bU (bJ (bH _ _) _) hHeld.2.2.2.2.2.2)⟩ (fun hHeld=>?_);clear hK K;refine nS 7 ?_;refine oS 5 18 #[true,true,true,true,true,true,false,true,false] rfl rfl (fun K hK=>?_);refine gO Try.func52 #[.agg #[.slice AW m.words.length cM,.int .i64 m.young,.int .i64 m.top,.int .i64 m.old,.slice ACm m.cards.length cC']] ?_;(with_reducible refine (sS AW cM m.words m.young m.top m.old ACm cC' m.cards _ (cG HCW.out (bK HB.out hHeld.1.out)) HLW.out (cG HCC.out (bK HB.out hHeld.1.out)) HLC.out (by have:=HSZ.out;omega) (by have:=HSZ.out;omega)).mono ?_);rintro e wa ⟨u,v,rfl,hu,hv,hba⟩;have HU:=aK (dE hu (bW (bK HB.out hHeld.1.out)));have HV:=aK (dE hv (bW (bK HB.out hHeld.1.out)));obtain ⟨AU,cU,rfl⟩:=cL hu;obtain ⟨AV,cV,rfl⟩:=cL hv;obtain ⟨gw,cW,eU,_,_,_⟩:=pG hu (by have:=HSZ.out;omega);injection eU with e1 e2 e3;subst e1 e3;clear hu hv e2;have hbox:=bS (kU Wd (.cells #[.pointer none] 83 (0,0))) hba;refine ⟨_,rfl,?_⟩;refine hK.out _ _ ⟨⟨bK hHeld.1.out hba⟩,(bNu hba hHeld.2)⟩ (fun hHeld=>?_);clear hK K;refine nS 18 ?_;refine oS 6 19 #[true,true,true,true,true,true,true,true,false] rfl rfl (fun K hK=>?_);refine gO Try.func51 #[.pointer (some ⟨g,0,none⟩),.agg #[.slice (some ⟨gw,0,none⟩) m.words.length cU,.int .i64 m.young,.int .i64 m.top,.int .i64 m.old,.slice AV m.cards.length cV]] ?_;(with_reducible refine (yW g (.slice (some ⟨gw,0,none⟩) m.words.length cU) (.slice AV m.cards.length cV) m.young m.top m.old ⟨_,_,_,rfl⟩ ⟨_,_,_,rfl⟩ _).mono ?_);rintro e wb ⟨gm,B,rfl,hgm,hM,hge,hbb⟩;have HMG:=aK (show Mg w.heap.size w g gm B gw cU AV cV none 0 wb (mv0 m) [] from ⟨hgm,⟨dO (bW (bK HB.out hHeld.1.out)) hge.1,dO (bW (bK HB.out hHeld.1.out)) hge.2⟩,cI (bZ (fZ HU.out) hbb) (fun k hk=>⟨by have:=hk.2.2.1;omega,by have:=hk.2.2.1;omega⟩),cI (bZ (fZ HV.out) hbb) (fun k hk=>⟨by have:=hk.2.2.1;omega,by have:=hk.2.2.1;omega,fun e=>hk.1 (by rw [e];rfl)⟩),mI _ _ _ _ _,hM,bK (bK HB.out hHeld.1.out) hbb,dO (bW (bK HB.out hHeld.1.out)) hbb.size⟩);clear hgm hM hge;have hbox:=bS hbox hbb;refine ⟨_,rfl,?_⟩;refine hK.out _ _ ⟨⟨bK hHeld.1.out hbb⟩,(bNu hbb hHeld.2)⟩ (fun hHeld=>?_);clear hK K;refine nS 19 ?_;exact sH bCw (hCont (gm,B,gw,cU,AV,cV,Wd.heap.size) _ ⟨HMG.out,hbox,hgX,hHeld⟩)
 rintro ⟨gm,B,gw,cW,AC,cC,gq⟩ w3 ⟨hmg,hqz,hqg,hHeld⟩;have HG:=aK hmg;have HZ:=aK hqz;have HGq:=aK hqg;have HWc:=hHeld.1;have z0:=(bA hqz 0).trans rfl;have y0:=bL hqz 0;clear hmg hqz hqg;refine sH (a':=?_) ?_ ?_;rotate_left
 ·simp only [zZ, Act.put, dU, fY, fT]
  rfl
 refine qL (i:=8) (N:=none) #[true,true,true,true,true,true,true,true,true] rfl rfl (by kernel_rfl) (by decide) (fun K hK=>?_);refine vN (w1:=?_) (by rfl) rfl ?_ ?_;rotate_left
 ·go_simp
  rfl
 refine hK.out _ _ ?_;clear hK K;refine gT (by kernel_rfl) ?_;obtain ⟨w4,hw⟩: ∃z,z=w3.setCell ⟨gq,0,none⟩ (.pointer (some ⟨gm,0,none⟩)):=⟨_,rfl⟩;rw [←hw];have hcx:Ch (fun k=>k=gq) w3 w4:=by rw [hw];exact (Ch.refl (fun k=>k=gq) w3).set (p:=⟨gq,0,none⟩) (.inl rfl) _
 have hgp:=dN BP.out;have hgr:=dN BR.out;have hgq:w2.heap.size≤gq:=HGq.out
 have hsz:=bW HB.out;have BQ:=aK (show w4.heap[gq]? =some (.cells #[.pointer (some ⟨gm,0,none⟩)] 83 (0,0)) by rw [hw];exact fF HZ.out 0 _ rfl);replace HG:=aK (HG.out.far (q:=gq) HZ.out ⟨by decide,by decide,by decide⟩ hcx (by omega));replace BP:=aK (hcx.blk (bS BP.out HWc.out) (by omega));replace BR:=aK (hcx.blk (bS BR.out HWc.out) (by omega));clear hw hcx hgp hgr hgq hsz HZ HGq HWc hHeld HB HCW HCC HLW HLC p0 g0_ g1_ g2_ g3_ g4_ z0 y0;replace HG:=aK (show∃(AO:Option Addr) (cO:Nat),Mg w.heap.size w g gm B gw cW AC cC AO cO w4 (mv0 m) (mv0 m).mv from ⟨none,0,HG.out⟩);go_wp2
 go_loopw [22] (fun v22 wr=> ∃(k_:Nat) (t:Mv),v22= .int .i64 (k_:Int)∧Aside0 (k_≤roots.length∧sK (bDk m) t (roots.drop k_)=some s1)∧Aside0 (∃(AO:Option Addr) (cO:Nat),Mg w.heap.size w g gm B gw cW AC cC AO cO wr t t.mv)∧Aside0 (wr.heap[gp]? =some (.cells #[.pointer (some ⟨g,0,none⟩)] 56 (0,0)))∧Aside0 (wr.heap[gq]? =some (.cells #[.pointer (some ⟨gm,0,none⟩)] 83 (0,0)))∧Aside0 (wr.heap[gr]? =some (.cells #[.slice none 0 0,.int .i64 0,.int .i64 0,.int .i64 0,.slice none 0 0] 29 (0,0)))) (fun v22 _=>roots.length - (intOf v22).toNat)
 case atStart=>exact ⟨0,mv0 m,rfl,⟨hU _,H1.out⟩,HG,BP,BQ,BR⟩
 case round =>
  clear H1 HG BP BQ BR;obtain ⟨k_,t,rfl,H1,HG,BP,BQ,BR⟩:=hrel;by_cases cx:(k_:Int)<(roots.length:Int)
  ·have d0 : decide ((k_ : Int) < (roots.length : Int)) = true := bD cx
   have d0b:=bO (show k_<roots.length by omega);obtain ⟨AO,cO,hg⟩:=HG.out;have hlt:k_<roots.length:=by omega
   have hd:=fO hlt;have hg_:roots[k_]=rd roots k_:=by unfold rd;rw [dF,bP,bT hlt];rfl
   obtain ⟨ad,e0,hcell⟩:=dL (cG HR.out hg.be) k_ (by omega) (by omega)
   cases e0
   rw [dF] at hcell;obtain ⟨x,hx⟩: ∃x,x=rd roots k_:=⟨_,rfl⟩;rw [←hx] at hcell;have hp:=H1.out.2;rw [hd,hg_,←hx] at hp;unfold sK at hp;obtain ⟨t1,hf,hp⟩:=Option.bind_eq_some_iff.mp hp;unfold bDk at hf
   split at hf
   case isFalse=>simp at hf
   case isTrue hsm=>
   have HS:=aK hsm;have HF:=aK hf;have H3:=aK hp;have HK1:=aK hlt;replace HG:=aK hg;have i1:=bO (show 0≤(k_:Int) by omega);have i2:=bO cx;have q0:=(bA BQ.out 0).trans rfl;clear hd hg_ hx hf hp hsm H1 cx hlt hg
   go_wp2_with (go_at_call 53;refine bF (fun hng=>?_))
   refine hng ?_;clear hng;refine (vP w.heap.size w g gm B gw cW AC cC AO cO m t t1 x _ HM.out rfl HG.out (vO HS.out.1) HS.out.2.1 HS.out.2.2 HF.out).mono ?_;rintro e w5 ⟨rfl,AN,cN,hgn,hk_⟩;replace HG:=aK (show∃(AO:Option Addr) (cO:Nat),Mg w.heap.size w g gm B gw cW AC cC AO cO w5 t1 t1.mv from ⟨AN,cN,hgn⟩);replace BP:=aK (hk_.pm BP.out);replace BQ:=aK (hk_.pg BQ.out);replace BR:=aK (hk_.mem BR.out);clear hgn hk_ q0 hcell;have u1:IntKind.i64.wrap ((k_:Int)+1)=(k_:Int)+1:=dD _ (by have:=HK1.out;have:=HSZ.out;omega)
   go_wp2
   go_roundw
   case rel=>exact ⟨k_+1,t1,rfl,⟨HK1.out,H3.out⟩,HG,BP,BQ,BR⟩
   case measure=>have:=HK1.out;simp only [intOf];omega
  ·have d0 : decide ((k_ : Int) < (roots.length : Int)) = false := bM cx
   have d0b:=pO (show¬k_<roots.length by omega);have hp:=H1.out.2;rw [hZ (by omega)] at hp;unfold sK at hp;obtain rfl:=bE hp;clear hp H1 cx;obtain ⟨AO,cO,hg⟩:=HG.out;replace HG:=aK hg;have p0:=(bA BP.out 0).trans rfl;clear hg
   go_wp2_with (go_at_call 54;refine bF (fun hng=>?_))
   refine hng ?_;clear hng;refine (zS k g m ol w _ HM.out HG.out.be H2.out).mono ?_;rintro e w6 ⟨⟨AS,cS,rfl,hs,hcs⟩,hb⟩;have HOl:=aK hs;replace HG:=aK (show∃(AO:Option Addr) (cO:Nat),Mg w.heap.size w g gm B gw cW AC cC AO cO w6 t t.mv from ⟨AO,cO,HG.out.below hb⟩);replace BP:=aK (bS BP.out hb);replace BQ:=aK (bS BQ.out hb);replace BR:=aK (bS BR.out hb);clear hs hcs hb p0 d0 d0b
   skip
   go_wp2
   go_loopw [33] (fun v33 wr=> ∃(k_:Nat) (t2:Mv),v33= .int .i64 (k_:Int)∧Aside0 (k_≤ol.length∧bGb m (bEj m) t2 (ol.drop k_)=some s2)∧Aside0 (∃(AO:Option Addr) (cO:Nat),Mg w.heap.size w g gm B gw cW AC cC AO cO wr t2 t2.mv)∧Aside0 (wr.heap[gp]? =some (.cells #[.pointer (some ⟨g,0,none⟩)] 56 (0,0)))∧Aside0 (wr.heap[gq]? =some (.cells #[.pointer (some ⟨gm,0,none⟩)] 83 (0,0)))∧Aside0 (wr.heap[gr]? =some (.cells #[.slice none 0 0,.int .i64 0,.int .i64 0,.int .i64 0,.slice none 0 0] 29 (0,0)))) (fun v33 _=>ol.length - (intOf v33).toNat)
   case atStart=>exact ⟨0,t,rfl,⟨hU _,H3.out⟩,HG,BP,BQ,BR⟩
   case round =>
    clear H3 HG BP BQ BR;obtain ⟨k_,t,rfl,H3,HG,BP,BQ,BR⟩:=hrel;by_cases cx:(k_:Int)<(ol.length:Int)
    ·have d0 : decide ((k_ : Int) < (ol.length : Int)) = true := bD cx
     have d0b:=bO (show k_<ol.length by omega);obtain ⟨AO,cO,hg⟩:=HG.out;have hlt:k_<ol.length:=by omega
     have hd:=fO hlt;have hg_:ol[k_]=rd ol k_:=by unfold rd;rw [dF,bP,bT hlt];rfl
     obtain ⟨ad,e0,hcell⟩:=dL (cG HOl.out hg.be) k_ (by omega) (by omega)
     cases e0
     rw [dF] at hcell;obtain ⟨x,hx⟩: ∃x,x=rd ol k_:=⟨_,rfl⟩;rw [←hx] at hcell;have hp:=H3.out.2;rw [hd,hg_,←hx] at hp;unfold bGb at hp;obtain ⟨ws,hws,hp⟩:=Option.bind_eq_some_iff.mp hp;obtain ⟨t1,hf,hp⟩:=Option.bind_eq_some_iff.mp hp;have HW:=aK hws;have HF:=aK hf;have H5:=aK hp;have HK1:=aK hlt;replace HG:=aK hg;have i1:=bO (show 0≤(k_:Int) by omega);have i2:=bO cx;have p0:=(bA BP.out 0).trans rfl;clear hd hg_ hx hf hws hp H3 cx hlt hg
     go_wp2_with (go_at_call 55;refine bF (fun hng=>?_))
     refine hng ?_;clear hng;refine (vG 56 _ Try.func56 (by kernel_rfl) rfl #[.pointer (some ⟨gp,0,none⟩),.pointer (some ⟨gq,0,none⟩)] w.heap.size w g gm B gw cW AC cC AO cO m (bEj m) x ws (fun W=>W.heap[gp]? =some (.cells #[.pointer (some ⟨g,0,none⟩)] 56 (0,0))∧W.heap[gq]? =some (.cells #[.pointer (some ⟨gm,0,none⟩)] 83 (0,0))) (fun _ _=>True) t t1 _ (fun W W' h hb=>⟨bS h.1 hb,bS h.2 hb⟩) (fun AO2 cO2 u u' y W _ hgu hx hu=>(bKb w.heap.size w g gm B gw cW AC cC AO2 cO2 m u u' y gq gp W HM.out rfl hgu hx.2 hx.1 hu).mono (fun e W' hh=>⟨⟨hh.1,(let ⟨_,A,c,h1,h2⟩:=hh;⟨A,c,dT,h1⟩),(let ⟨_,A,c,h1,h2⟩:=hh;h2)⟩,(let ⟨_,A,c,h1,h2⟩:=hh;⟨h2.pm hx.1,h2.pg hx.2⟩)⟩)) HM.out rfl dT HG.out ⟨BP.out,BQ.out⟩ HW.out HF.out).mono ?_;rintro e w7 ⟨⟨rfl,⟨AN,cN,_,hgn⟩,hk_⟩,_⟩;replace HG:=aK (show∃(AO:Option Addr) (cO:Nat),Mg w.heap.size w g gm B gw cW AC cC AO cO w7 t1 t1.mv from ⟨AN,cN,hgn⟩);replace BP:=aK (hk_.pm BP.out);replace BQ:=aK (hk_.pg BQ.out);replace BR:=aK (hk_.mem BR.out);clear hgn hk_;clear p0 hcell;have u1:IntKind.i64.wrap ((k_:Int)+1)=(k_:Int)+1:=dD _ (by have:=HK1.out;have:=HLo.out;omega)
     go_wp2
     go_roundw
     case rel=>exact ⟨k_+1,t1,rfl,⟨HK1.out,H5.out⟩,HG,BP,BQ,BR⟩
     case measure=>have:=HK1.out;simp only [intOf];omega
    ·have d0 : decide ((k_ : Int) < (ol.length : Int)) = false := bM cx
     have d0b:=pO (show¬k_<ol.length by omega);have hp:=H3.out.2;rw [hZ (by omega)] at hp;unfold bGb at hp;obtain rfl:=bE hp;clear hp H3 cx;go_wp2
     go_step3
     go_wp2
     go_loopw [12] (fun v12 wr=> ∃(k_:Nat) (t2:Mv),v12= .int .i64 (k_:Int)∧Aside0 (k_≤k∧bHw m (k - k_) k_ t2=some s3)∧Aside0 (∃(AO:Option Addr) (cO:Nat),Mg w.heap.size w g gm B gw cW AC cC AO cO wr t2 t2.mv)∧Aside0 (wr.heap[gp]? =some (.cells #[.pointer (some ⟨g,0,none⟩)] 56 (0,0)))∧Aside0 (wr.heap[gq]? =some (.cells #[.pointer (some ⟨gm,0,none⟩)] 83 (0,0)))∧Aside0 (wr.heap[gr]? =some (.cells #[.slice none 0 0,.int .i64 0,.int .i64 0,.int .i64 0,.slice none 0 0] 29 (0,0)))) (fun v12 _=>k - (intOf v12).toNat)
     case atStart=>exact ⟨0,t,rfl,⟨hU _,H4.out⟩,HG,BP,BQ,BR⟩
     case round =>
      clear H4 HG BP BQ BR;obtain ⟨k_,t,rfl,H4,HG,BP,BQ,BR⟩:=hrel;obtain ⟨AO,cO,hg⟩:=HG.out;replace HG:=aK hg;obtain ⟨q,hq⟩: ∃q,k - k_=q:=⟨_,rfl⟩;have hc:=H4.out.2;rw [hq] at hc
      cases q with
      |zero=>
       unfold bHw at hc;simp at hc
      | succ q =>
       unfold bHw at hc;have HK1:=aK (show k_<k∧k - (k_+1)=q by omega);have q0:=(bA BQ.out 0).trans rfl;have p0:=(bA BP.out 0).trans rfl;have k8:=(bA hg.bx 8).trans rfl;have k7:=(bA hg.bx 7).trans rfl;clear hg hq H4
       cases hfu:t.full with
       |true=>
        rw [hfu] at hc k8;rw [if_pos (Or.inl rfl)] at hc;obtain rfl:=bE hc;have h:=H.out;rw [if_pos hfu] at h;obtain rfl:=bE h;have HBe:=aK HG.out.be;have z0:=(bA BR.out 0).trans rfl;have z1:=(bA BR.out 1).trans rfl;have z2:=(bA BR.out 2).trans rfl;have z3:=(bA BR.out 3).trans rfl;have z4:=(bA BR.out 4).trans rfl;have f0:=bL BR.out 0;have f1:=bL BR.out 1;have f2:=bL BR.out 2;have f3:=bL BR.out 3;have f4:=bL BR.out 4;clear hc h hfu H;go_wp2;rw [Exit.noGoto_ret];refine fM (kG (rs:=[.cell 4 29,.tmp 5,.tmp 6]) rfl (by simp) (.cell gr 29 #[.slice none 0 0,.int .i64 0,.int .i64 0,.int .i64 0,.slice none 0 0] (0,0) _ rfl (jH BR.out) Try.underlying29 rfl (by kernel_rfl) (.tmp (.tmp .nil)))) rfl ?_;exact ⟨rfl,HBe.out.trans ((Ch.box5 (Ch.refl (fun k=>k=gr) wr) (.inl rfl) _ _ _ _ _).toBelow (bW HBe.out) (fun k hk=>by rw [hk];exact HGr.out))⟩
       | false =>
        rw [hfu] at hc k8;by_cases cl:t.mv.length≤k_
        ·rw [if_pos (Or.inr cl)] at hc
         obtain rfl:=bE hc;have d1:decide ((k_:Int)≥(t.mv.length:Int))=true:=bD (by omega)
         have d1b:=bO (show t.mv.length≤k_ from cl);have h:=H.out;rw [if_neg (by rw [hfu];simp)] at h;obtain ⟨s4,hld,h⟩:=Option.bind_eq_some_iff.mp h
         split at h
         case isFalse=>simp at h
         case isTrue hy=>
         have HRr:=aK (bE h);have HLd:=aK hld;have HY:=aK hy;clear h hld hy hc hfu cl H;go_wp2;refine sT 4 (S:=fun w'=>w'.cell? ⟨gq,0,none⟩=some (.pointer (some ⟨gm,0,none⟩))∧w'.cell? ⟨gp,0,none⟩=some (.pointer (some ⟨g,0,none⟩))) (ds:=[3]) ⟨(by go_simp),(by go_simp)⟩ (fun hHeld=>?_);replace HG:=aK (HG.out.below (bG (bH wr.heap.size wr)));replace BP:=aK (bS BP.out (bG (bH wr.heap.size wr)));replace BQ:=aK (bS BQ.out (bG (bH wr.heap.size wr)));replace BR:=aK (bS BR.out (bG (bH wr.heap.size wr)));generalize World.drew wr=wt at HG BP BQ BR hHeld ⊢;refine tS 0 72 #[true,false,false,false] rfl rfl (by kernel_rfl) hHeld bAe ?_;refine tS 1 73 #[true,true,false,false] rfl rfl (by kernel_rfl) hHeld bAe ?_;refine oS 2 74 #[true,true,true,false] rfl rfl (fun K hK=>?_);refine gO Try.func54 #[.pointer (some ⟨g,0,none⟩)] ?_;(with_reducible refine (zS k g m ol w _ HM.out HG.out.be H2.out).mono ?_);rintro e w5 ⟨⟨AS2,cS2,rfl,hs,hcs⟩,hb5⟩;have HOl2:=aK hs;clear hs hcs;replace HG:=aK (HG.out.below hb5);replace BP:=aK (bS BP.out hb5);replace BQ:=aK (bS BQ.out hb5);replace BR:=aK (bS BR.out hb5);refine ⟨_,rfl,?_⟩;refine hK.out _ _ (b7_2 hb5 hHeld) (fun hHeld=>?_);clear hK K;refine nS 74 ?_;refine qL (i:=3) (N:=some 75) #[true,true,true,true] rfl rfl (by kernel_rfl) (by decide) (fun K hK=>?_);refine gO Try.func59 #[.pointer (some ⟨gm,0,none⟩),.slice AS2 ol.length cS2] ?_;(with_reducible refine (bFl w.heap.size w g gm B gw cW AC cC AO cO AS2 cS2 m t s4 ol _ HM.out rfl HG.out HOl2.out HLd.out).mono ?_);rintro e w6 ⟨rfl,hg6,hk6⟩;refine ⟨_,rfl,?_⟩;refine hK.out _ _ ?_;clear hK K;refine nS 75 ?_;refine gT (by kernel_rfl) ?_;clear hHeld d1 d1b q0 p0 k7 k8;have HG:=aK hg6;replace BP:=aK (hk6.pm BP.out);replace BQ:=aK (hk6.pg BQ.out);replace BR:=aK (hk6.mem BR.out);clear hg6 hk6;have q0:=(bA BQ.out 0).trans rfl;have k1:=(bA HG.out.bx 1).trans rfl;have k2:=(bA HG.out.bx 2).trans rfl;have HCw:=aK ((cD HG.out.rw_).2.1);have i1:=bO HY.out.1;have i2:=bO (show s4.y≤(cW:Int) by have:=HY.out;have:=HCw.out;omega);go_wp2;refine sT 12 (S:=fun w'=>w'.cell? ⟨gq,0,none⟩=some (.pointer (some ⟨gm,0,none⟩))∧w'.cell? ⟨gm,1,none⟩=some (.slice (some ⟨gw,0,none⟩) s4.tw.length cW)∧w'.cell? ⟨gm,2,none⟩=some (.int .i64 s4.y)) (ds:=[11]) ⟨(by go_simp),(by go_simp),(by go_simp)⟩ (fun hHeld=>?_);replace HG:=aK (HG.out.below (bG (bH w6.heap.size w6)));replace BP:=aK (bS BP.out (bG (bH w6.heap.size w6)));replace BQ:=aK (bS BQ.out (bG (bH w6.heap.size w6)));replace BR:=aK (bS BR.out (bG (bH w6.heap.size w6)));generalize World.drew w6=wt at HG BP BQ BR hHeld ⊢;obtain ⟨w7,hcl,hcr,hch⟩:=bJl (enc:=Value.int .i64) (h1:=fun _=>rfl) 0 0 (c:=cW) (n:=s4.y.toNat) HG.out.rw_ (by have:=HY.out;omega) 23 0 Try.underlying23 (fun w=>by kernel_rfl) rfl;refine tS 0 76 (lA 12 1) rfl rfl (by kernel_rfl) hHeld bBg ?_;refine cJ 1 ?_;refine cJ 2 ?_;refine cJ 3 ?_;refine tS 4 80 (lA 12 31) rfl rfl (by kernel_rfl) hHeld bBg ?_;refine tS 5 81 (lA 12 63) rfl rfl (by kernel_rfl) hHeld bBg ?_;refine cJ 6 ?_;refine cJ 7 ?_;refine cJ 8 ?_;refine tS 9 85 (lA 12 1023) rfl rfl (by kernel_rfl) hHeld bBg ?_;refine cJ 10 ?_;refine qL (i:=11) (N:=none) (lA 12 4095) rfl rfl (by kernel_rfl) (by decide) (fun K hK=>?_);refine rH (w1:=?_) (v:=?_) (by rfl) rfl ?_ ?_;rotate_left 2
         ·go_simp
          constructor
          ·rfl
          ·rfl
         refine hK.out _ _ ?_;clear hK K;refine gT (by kernel_rfl) ?_;clear hHeld hcl q0 k1 k2 i1 i2;have hn:=HG.out.words hch hcr (by rw [cH,fI,dJ];have:=HY.out;omega);replace HG:=aK hn.1;have hk_:=hn.2;replace BP:=aK (hk_.pm BP.out);replace BQ:=aK (hk_.pg BQ.out);replace BR:=aK (hk_.mem BR.out);clear hn hk_ hch hcr;obtain ⟨s5,hs5⟩: ∃z,z=({s4 with tw:=List.replicate s4.y.toNat 0++s4.tw.drop s4.y.toNat}:Mv):=⟨_,rfl⟩;replace HG:=aK (show Mg w.heap.size w g gm B gw cW AC cC AO cO w7 s5 s5.mv by rw [hs5];exact HG.out);have HS5:=aK hs5;clear hs5;obtain ⟨w8,hcl,hcr,hch⟩:=bQa (c:=cC) HG.out.rc 24 0 Try.underlying24 (fun w=>by kernel_rfl);have HG8:=aK (show Mg w.heap.size w g gm B gw cW AC cC AO cO w8 {s5 with tc:=List.replicate s5.tc.length false} s5.mv from HG.out.cards hch hcr);have hk_:=HG.out.cardsK hch;have q0:=(bA BQ.out 0).trans rfl;have k5:=(bA HG.out.bx 5).trans rfl;replace BP:=aK (hk_.pm BP.out);replace BQ:=aK (hk_.pg BQ.out);replace BR:=aK (hk_.mem BR.out);have q8:=(bA BQ.out 0).trans rfl;have k8:=(bA HG8.out.bx 3).trans rfl;have f8:=bL HG8.out.bx 3;clear hk_ hch hcr HG;go_wp2;clear q0 k5 q8 k8 f8 hcl;obtain ⟨w9,hw⟩: ∃z,z=w8.setCell ⟨gm,3,none⟩ (.int .i64 0):=⟨_,rfl⟩;rw [←hw];have hn:=HG8.out.topS 0;rw [←hw] at hn;obtain ⟨s6,hs6⟩: ∃z,z=({s5 with tc:=List.replicate s5.tc.length false,t:=0}:Mv):=⟨_,rfl⟩;have HG:=aK (show Mg w.heap.size w g gm B gw cW AC cC AO cO w9 s6 s6.mv by rw [hs6];exact hn.1);have hk_:=hn.2;replace BP:=aK (hk_.pm BP.out);replace BQ:=aK (hk_.pg BQ.out);replace BR:=aK (hk_.mem BR.out);have HS6:=aK hs6;clear hn hk_ hw hs6 HG8;have q0:=(bA BQ.out 0).trans rfl;have k1:=(bA HG.out.bx 1).trans rfl;have k2:=(bA HG.out.bx 2).trans rfl;have k3:=(bA HG.out.bx 3).trans rfl;have k4:=(bA HG.out.bx 4).trans rfl;have k5:=(bA HG.out.bx 5).trans rfl;refine sT 10 (S:=fun w'=>w'.cell? ⟨gq,0,none⟩=some (.pointer (some ⟨gm,0,none⟩))∧w'.cell? ⟨gm,1,none⟩=some (.slice (some ⟨gw,0,none⟩) s6.tw.length cW)∧w'.cell? ⟨gm,2,none⟩=some (.int .i64 s6.y)∧w'.cell? ⟨gm,3,none⟩=some (.int .i64 s6.t)∧w'.cell? ⟨gm,4,none⟩=some (.int .i64 s6.o)∧w'.cell? ⟨gm,5,none⟩=some (.slice AC s6.tc.length cC)) (ds:=[7]) ⟨(by go_simp),(by go_simp),(by go_simp),(by go_simp),(by go_simp),(by go_simp)⟩ (fun hHeld=>?_);replace HG:=aK (HG.out.below (bG (bH w9.heap.size w9)));replace BP:=aK (bS BP.out (bG (bH w9.heap.size w9)));replace BQ:=aK (bS BQ.out (bG (bH w9.heap.size w9)));replace BR:=aK (bS BR.out (bG (bH w9.heap.size w9)));generalize World.drew w9=wt at HG BP BQ BR hHeld ⊢;refine pS 5 101 #[false,false,false,false,false,true,false,false,false,false] ?_;refine tS 0 96 #[true,false,false,false,false,true,false,false,false,false] rfl rfl (by kernel_rfl) hHeld pK ?_;refine pS 1 97 #[true,true,false,false,false,true,false,false,false,false] ?_;refine pS 2 98 #[true,true,true,false,false,true,false,false,false,false] ?_;refine tS 3 99 #[true,true,true,true,false,true,false,false,false,false] rfl rfl (by kernel_rfl) hHeld pK ?_;refine tS 4 100 #[true,true,true,true,true,true,false,false,false,false] rfl rfl (by kernel_rfl) hHeld pK ?_;refine oS 6 102 #[true,true,true,true,true,true,true,false,false,false] rfl rfl (fun K hK=>?_);refine gO Try.func60 #[.pointer (some ⟨gm,0,none⟩),.slice AR roots.length cR] ?_;(with_reducible refine (bDw w.heap.size w g gm B gw cW AC cC AO cO s6 AR cR roots _ HG.out (cG HR.out HG.out.be) HSZ.out.2.2.2 HSM.out).mono ?_);rintro e wb ⟨vr,rfl,hvr,hbb⟩;have HVW:=aK (Kd.R_elder HG.out.rw_ hvr hbb);have HVC:=aK (Kd.R_elder HG.out.rc hvr hbb);have HVR:=aK (dE (Kd.R_newR hvr HG.out.rw_) HG.out.sz);clear hvr;replace HG:=aK (HG.out.below hbb);replace BP:=aK (bS BP.out hbb);replace BQ:=aK (bS BQ.out hbb);replace BR:=aK (bS BR.out hbb)
         have z0:=(bA BR.out 0).trans rfl;have f0:=bL BR.out 0;have z1:=(bA BR.out 1).trans rfl;have f1:=bL BR.out 1;have z2:=(bA BR.out 2).trans rfl;have f2:=bL BR.out 2;have z3:=(bA BR.out 3).trans rfl;have f3:=bL BR.out 3;have z4:=(bA BR.out 4).trans rfl;have f4:=bL BR.out 4;refine ⟨_,rfl,?_⟩;refine hK.out _ _ (bNu hbb hHeld) (fun hHeld=>?_);clear hK K;refine nS 102 ?_;refine qL (i:=7) (N:=none) #[true,true,true,true,true,true,true,true,false,false] rfl rfl (by kernel_rfl) (by decide) (fun K hK=>?_);refine vN (w1:=?_) (by rfl) rfl ?_ ?_;rotate_left
         ·go_simp
          rfl
         refine hK.out _ _ ?_;clear hK K;refine pS 8 5 #[true,true,true,true,true,true,true,true,true,false] ?_;refine pS 9 6 #[true,true,true,true,true,true,true,true,true,true] ?_;refine gT (by kernel_rfl) ?_;clear HLd HY q0 k1 k2 k3 k4 k5;go_wp2;rw [Exit.noGoto_ret];refine fM (kG (rs:=[.cell 4 29,.tmp 5,.tmp 6]) rfl (by simp) (.cell gr 29 #[.slice (some ⟨gw,0,none⟩) s6.tw.length cW,.int .i64 s6.y,.int .i64 s6.t,.int .i64 s6.o,.slice AC s6.tc.length cC] (0,0) _ rfl (jH BR.out) Try.underlying29 rfl (by kernel_rfl) (.tmp (.tmp .nil)))) rfl ?_;have he:({s4 with tw:=List.replicate s4.y.toNat 0++s4.tw.drop s4.y.toNat,tc:=List.replicate s4.tc.length false,t:=0}:Mv)=s6:=by rw [HS6.out,HS5.out]
         have hm6:s4.mv=s6.mv:=by rw [←he]
         rw [←HRr.out,he,hm6];have hcx:Ch (fun k=>k=gr) wb (nF wb gr (.slice (some ⟨gw,0,none⟩) s6.tw.length cW) (.int .i64 s6.y) (.int .i64 s6.t) (.int .i64 s6.o) (.slice AC s6.tc.length cC)):=Ch.box5 (Ch.refl (fun k=>k=gr) wb) (.inl rfl) _ _ _ _ _
         exact ⟨_,_,vr,rfl,cI (pC HVW.out BR.out (by decide)) (fun k hk=>by first|exact hk.2|exact hk.1.2),cI (pC HVC.out BR.out (by decide)) (fun _ _=>trivial),cI (pC HVR.out BR.out (by decide)) (fun k hk=>by first|exact hk.2|exact hk.1.2),HG.out.be.trans (hcx.toBelow HG.out.sz (fun k hk=>by rw [hk];exact HGr.out))⟩
        ·rw [if_neg (fun h => h.elim (fun h => by cases h) cl)] at hc
         have d1:decide ((k_:Int)≥(t.mv.length:Int))=false:=bM (by omega)
         have d1b:=pO (show¬t.mv.length≤k_ from cl);obtain ⟨ws,hws,hc⟩:=Option.bind_eq_some_iff.mp hc;obtain ⟨t1,hf,hc⟩:=Option.bind_eq_some_iff.mp hc;obtain ⟨ad,e0,hcell⟩:=dL (cD HG.out.ro).2.2 k_ (by omega) (by rw [dP];omega)
         cases e0
         rw [dF] at hcell;obtain ⟨x,hx⟩: ∃x,x=rd (t.mv.map Prod.fst) k_:=⟨_,rfl⟩;rw [←hx] at hcell hws;have HW:=aK hws;have HF:=aK hf;have H5:=aK hc;have i1:=bO (show 0≤(k_:Int) by omega);have i2:=bO (show (k_:Int)<(t.mv.length:Int) by omega);have HKl:=aK (show k_<t.mv.length by omega);have HMX:=aK (Kd.C_max (cD HG.out.ro).2.2);clear hc hws hf hx cl hfu;go_wp2;refine sT 10 (S:=fun w'=>w'.cell? ⟨gq,0,none⟩=some (.pointer (some ⟨gm,0,none⟩))∧w'.cell? ⟨gp,0,none⟩=some (.pointer (some ⟨g,0,none⟩))∧w'.cell? ⟨gm,7,none⟩=some (.slice (some ad) t.mv.length cO)∧w'.cell? (ad.add k_)=some (.int .i64 x)) (ds:=[9]) ⟨(by go_simp),(by go_simp),(by go_simp),(by go_simp)⟩ (fun hHeld=>?_);replace HG:=aK (HG.out.below (bG (bH wr.heap.size wr)));replace BP:=aK (bS BP.out (bG (bH wr.heap.size wr)));replace BQ:=aK (bS BQ.out (bG (bH wr.heap.size wr)));replace BR:=aK (bS BR.out (bG (bH wr.heap.size wr)));generalize World.drew wr=wt at HG BP BQ BR hHeld ⊢;have hcall:=vG 58 _ Try.func58 (by kernel_rfl) rfl #[.pointer (some ⟨gq,0,none⟩),.pointer (some ⟨gp,0,none⟩)] w.heap.size w g gm B gw cW AC cC (some ad) cO m (bEi m) x ws (fun W=>W.heap[gp]? =some (.cells #[.pointer (some ⟨g,0,none⟩)] 56 (0,0))∧W.heap[gq]? =some (.cells #[.pointer (some ⟨gm,0,none⟩)] 83 (0,0))) (fun _ _=>True) t t1 _ (fun W W' h hb=>⟨bS h.1 hb,bS h.2 hb⟩) (fun AO2 cO2 u u' y W _ hgu hx hu=>(bKa w.heap.size w g gm B gw cW AC cC AO2 cO2 m u u' y gq gp W HM.out rfl hgu hx.2 hx.1 hu).mono (fun e W' hh=>⟨⟨hh.1,(let ⟨_,A,c,h1,h2⟩:=hh;⟨A,c,dT,h1⟩),(let ⟨_,A,c,h1,h2⟩:=hh;h2)⟩,(let ⟨_,A,c,h1,h2⟩:=hh;⟨h2.pm hx.1,h2.pg hx.2⟩)⟩)) HM.out rfl dT HG.out ⟨BP.out,BQ.out⟩ HW.out HF.out;refine pS 5 62 #[false,false,false,false,false,true,false,false,false,false] ?_;refine pS 8 65 #[false,false,false,false,false,true,false,false,true,false] ?_;refine tS 0 57 #[true,false,false,false,false,true,false,false,true,false] rfl rfl (by kernel_rfl) hHeld sM ?_;refine tS 1 58 #[true,true,false,false,false,true,false,false,true,false] rfl rfl (by kernel_rfl) hHeld sM ?_;refine pS 2 59 #[true,true,true,false,false,true,false,false,true,false] ?_;refine pS 3 60 #[true,true,true,true,false,true,false,false,true,false] ?_;refine tS 4 61 #[true,true,true,true,true,true,false,false,true,false] rfl rfl (by kernel_rfl) hHeld sM ?_;refine pS 6 63 #[true,true,true,true,true,true,true,false,true,false] ?_;refine tS 7 64 #[true,true,true,true,true,true,true,true,true,false] rfl rfl (by kernel_rfl) hHeld sM ?_;refine qL (i:=9) (N:=some 66) #[true,true,true,true,true,true,true,true,true,true] rfl rfl (by kernel_rfl) (by decide) (fun K hK=>?_);refine gO Try.func55 #[.pointer (some ⟨g,0,none⟩),.int .i64 x,.func (.func 58) #[] #[.pointer (some ⟨gq,0,none⟩),.pointer (some ⟨gp,0,none⟩)]] ?_;(with_reducible refine (hcall).mono ?_);rintro e w9 ⟨⟨rfl,⟨AN,cN,_,hgn⟩,hk_⟩,_⟩;refine ⟨_,rfl,?_⟩;refine hK.out _ _ ?_;clear hK K;refine nS 66 ?_;refine gT (by kernel_rfl) ?_;clear hHeld;replace HG:=aK (show∃(AO:Option Addr) (cO:Nat),Mg w.heap.size w g gm B gw cW AC cC AO cO w9 t1 t1.mv from ⟨AN,cN,hgn⟩);replace BP:=aK (hk_.pm BP.out);replace BQ:=aK (hk_.pg BQ.out);replace BR:=aK (hk_.mem BR.out);clear hgn hk_;clear q0 p0 k7 k8 hcell i1 i2 d1 d1b;have u1:IntKind.i64.wrap ((k_:Int)+1)=(k_:Int)+1:=dD _ (by have h2:=HKl.out;have h3:=HMX.out;rw [dP] at h3;omega)
         go_wp2
         go_roundw
         case rel=>exact ⟨k_+1,t1,rfl,⟨HK1.out.1,by rw [HK1.out.2];exact H5.out⟩,HG,BP,BQ,BR⟩
         case measure=>have:=HK1.out;simp only [intOf];omega
def gmOut:Option (Mv×List Int)→(List Int×Int×Int×Int×List Bool×List Int×Bool)
  |none=>([],0,0,0,[],[],false)
  |some p=>(p.1.tw,p.1.y,p.1.t,p.1.o,p.1.tc,p.2,true)
def gmOf (k:Nat) (roots:List Int):Option Mm→Option (List Int×Int×Int×Int×List Bool×List Int×Bool)
  |none=>some (gmOut none)
  |some m=>(bDy k m roots).bind fun r=>some (gmOut r)
def pB (k:Nat) (l0:List (S53)) (l1_0:List Int) (a1_1:Int) (a1_2:Int) (a1_3:Int) (l1_4:List Bool) (l2:List Int):Option (List Int×Int×Int×Int×List Bool×List Int×Bool):=
  if l2.length≤281474976710656 then (bJj k k l0 l1_0 a1_1 a1_2 a1_3 l1_4 l2).bind fun r=>gmOf k l2 r else none
theorem bNs {a:List Int×Int×Int×Int×List Bool×List Int×Bool} {r1:List Int} {r2 r3 r4:Int} {r5:List Bool} {r6:List Int} {r7:Bool} (h:some a=some (r1,r2,r3,r4,r5,r6,r7)):a=(r1,r2,r3,r4,r5,r6,r7):=bE h
theorem bEb (k:Nat) (A0:Option Addr) (c0:Nat) (l0:List (S53)) (A1_0:Option Addr) (c1_0:Nat) (l1_0:List Int) (a1_1:Int) (a1_2:Int) (a1_3:Int) (A1_4:Option Addr) (c1_4:Nat) (l1_4:List Bool) (A2:Option Addr) (c2:Nat) (l2:List Int) (r1:List Int) (r2 r3 r4:Int) (r5:List Bool) (r6:List Int) (r7:Bool) (w:World) (hr0:Kd.C tU w A0 l0.length l0) (hc0:l0.length≤c0) (hr1_0:Kd.C (Kd.int .i64) w A1_0 l1_0.length l1_0) (hc1_0:l1_0.length≤c1_0) (hr1_4:Kd.C Kd.bool w A1_4 l1_4.length l1_4) (hc1_4:l1_4.length≤c1_4) (hr2:Kd.C (Kd.int .i64) w A2 l2.length l2) (hc2:l2.length≤c2) (h:pB k l0 l1_0 a1_1 a1_2 a1_3 l1_4 l2=some (r1,r2,r3,r4,r5,r6,r7)):
  Calls Try.prog 11 #[.slice A0 l0.length c0,.agg #[.slice A1_0 l1_0.length c1_0,.int .i64 a1_1,.int .i64 a1_2,.int .i64 a1_3,.slice A1_4 l1_4.length c1_4],.slice A2 l2.length c2] w fun e w'=> ∃v0_ v4_ v5_:Value,e= .returned (.tuple #[.agg #[v0_,.int .i64 r2,.int .i64 r3,.int .i64 r4,v4_],v5_,.bool r7])∧Kd.R (Kd.int .i64) 3 w' w.heap.size (fun k_=>some k_≠(v5_:Value).ownBlock) v0_ r1∧Kd.R Kd.bool 4 w' w.heap.size (fun _=>True) v4_ r5∧Kd.R (Kd.int .i64) 3 w' w.heap.size (fun k_=>some k_≠(v0_:Value).ownBlock) v5_ r6∧Below w.heap.size w w':=by
 unfold pB at h
 split at h
 case isFalse=>simp at h
 case isTrue hl2=>
 obtain ⟨m,hm,h⟩:=Option.bind_eq_some_iff.mp h;have HM:=aK hm;have HL2:=aK hl2;have HR0:=aK hr0;have HC0:=aK hc0;have HR1:=aK hr1_0;have HC1:=aK hc1_0;have HR4:=aK hr1_4;have HC4:=aK hc1_4;have HR2:=aK hr2;have HB:=aK (bJ (bJ (bH w.heap.size w) (.cells #[.slice A1_0 l1_0.length c1_0,.int .i64 a1_1,.int .i64 a1_2,.int .i64 a1_3,.slice A1_4 l1_4.length c1_4] 29 (0,0))) (.cells #[.slice none 0 0,.int .i64 0,.int .i64 0,.int .i64 0,.slice none 0 0] 29 (0,0)));have BR:=aK (bJp w (.cells #[.slice A1_0 l1_0.length c1_0,.int .i64 a1_1,.int .i64 a1_2,.int .i64 a1_3,.slice A1_4 l1_4.length c1_4] 29 (0,0)) (.cells #[.slice none 0 0,.int .i64 0,.int .i64 0,.int .i64 0,.slice none 0 0] 29 (0,0)));have HS:=aK (show w.heap.size+1<((w.alloc (.cells #[.slice A1_0 l1_0.length c1_0,.int .i64 a1_1,.int .i64 a1_2,.int .i64 a1_3,.slice A1_4 l1_4.length c1_4] 29 (0,0))).alloc (.cells #[.slice none 0 0,.int .i64 0,.int .i64 0,.int .i64 0,.slice none 0 0] 29 (0,0))).heap.size by simp);have HZ:=aK (show w.heap.size≤((w.alloc (.cells #[.slice A1_0 l1_0.length c1_0,.int .i64 a1_1,.int .i64 a1_2,.int .i64 a1_3,.slice A1_4 l1_4.length c1_4] 29 (0,0))).alloc (.cells #[.slice none 0 0,.int .i64 0,.int .i64 0,.int .i64 0,.slice none 0 0] 29 (0,0))).heap.size by simp;omega);have HH:=aK h;clear hr0 hc0 hr1_0 hc1_0 hr1_4 hc1_4 hr2 hc2 h hm hl2;go_enter Try.func11,Try.ntmps11
 go_wp2_with fail
 go_at_call 31;refine (bKg k k A0 c0 l0 A1_0 c1_0 l1_0 a1_1 a1_2 a1_3 A1_4 c1_4 l1_4 A2 c2 l2 m _ (cG HR0.out HB.out) HC0.out (cG HR1.out HB.out) HC1.out (cG HR4.out HB.out) HC4.out (cG HR2.out HB.out) HL2.out HM.out).mono ?_
 cases m with
 |none=>
  rintro e w1 ⟨rfl,hb⟩;have HB1:=aK (bK HB.out hb);replace BR:=aK (bS BR.out hb);clear hb HM;have hz:=bNs HH.out;injection hz with e1 hz;injection hz with e2 hz;injection hz with e3 hz;injection hz with e4 hz;injection hz with e5 hz;injection hz with e6 e7;subst e1;subst e2;subst e3;subst e4;subst e5;subst e6;subst e7;have z0:=(bA BR.out 0).trans rfl;have z1:=(bA BR.out 1).trans rfl;have z2:=(bA BR.out 2).trans rfl;have z3:=(bA BR.out 3).trans rfl;have z4:=(bA BR.out 4).trans rfl;have y0:=bL BR.out 0;have y1:=bL BR.out 1;have y2:=bL BR.out 2;have y3:=bL BR.out 3;have y4:=bL BR.out 4;go_wp2;refine fM (kG (rs:=[.cell 6 29,.tmp 7,.tmp 8]) rfl (by simp) (.cell (w.heap.size+1) 29 #[.slice none 0 0,.int .i64 0,.int .i64 0,.int .i64 0,.slice none 0 0] (0,0) _ rfl (jH BR.out) Try.underlying29 rfl (by kernel_rfl) (.tmp (.tmp .nil)))) rfl ?_;exact ⟨_,_,_,rfl,mI _ _ _ _ _,mI _ _ _ _ _,mI _ _ _ _ _,zI HB1.out (by omega)⟩
 | some m =>
  rintro e w1 ⟨g,rfl,hmo,hb⟩;have HB1:=aK (bK HB.out hb);replace BR:=aK (bS BR.out hb);have HMO:=aK hmo;obtain ⟨r,hr,hh⟩:=Option.bind_eq_some_iff.mp HH.out;replace HH:=aK hh;have HF:=aK hr;have HZ1:=aK (show w.heap.size+1<w1.heap.size from dN BR.out);clear hb HM hmo hr hh
  go_wp2_with fail
  go_at_call 32;refine (bDz k g m A2 c2 l2 r _ (bIa HMO.out) (cG HR2.out HB1.out) HF.out).mono ?_
  cases r with
  |none=>
   rintro e w2 ⟨rfl,hb⟩;have HB2:=aK (bK HB1.out hb);replace BR:=aK (bS BR.out hb);clear hb;have hz:=bNs HH.out;injection hz with e1 hz;injection hz with e2 hz;injection hz with e3 hz;injection hz with e4 hz;injection hz with e5 hz;injection hz with e6 e7;subst e1;subst e2;subst e3;subst e4;subst e5;subst e6;subst e7;have z0:=(bA BR.out 0).trans rfl;have z1:=(bA BR.out 1).trans rfl;have z2:=(bA BR.out 2).trans rfl;have z3:=(bA BR.out 3).trans rfl;have z4:=(bA BR.out 4).trans rfl;have y0:=bL BR.out 0;have y1:=bL BR.out 1;have y2:=bL BR.out 2;have y3:=bL BR.out 3;have y4:=bL BR.out 4;go_wp2;refine fM (kG (rs:=[.cell 6 29,.tmp 7,.tmp 8]) rfl (by simp) (.cell (w.heap.size+1) 29 #[.slice none 0 0,.int .i64 0,.int .i64 0,.int .i64 0,.slice none 0 0] (0,0) _ rfl (jH BR.out) Try.underlying29 rfl (by kernel_rfl) (.tmp (.tmp .nil)))) rfl ?_;exact ⟨_,_,_,rfl,mI _ _ _ _ _,mI _ _ _ _ _,mI _ _ _ _ _,zI HB2.out (by omega)⟩
  |some p=>
   rintro e w2 ⟨v0,v4,vr,rfl,h0,h4,h5,hb⟩;have HB2:=aK (bK HB1.out hb);replace BR:=aK (bS BR.out hb);obtain ⟨B0,b0,rfl⟩:=cL h0;obtain ⟨B4,b4,rfl⟩:=cL h4;have H0:=aK h0;have H4:=aK h4;have H5:=aK h5;have HZ2:=aK (bW HB1.out);clear hb h0 h4 h5;have hz:=bNs HH.out;injection hz with e1 hz;injection hz with e2 hz;injection hz with e3 hz;injection hz with e4 hz;injection hz with e5 hz;injection hz with e6 e7;subst e1;subst e2;subst e3;subst e4;subst e5;subst e6;subst e7;have z0:=(bA BR.out 0).trans rfl;have z1:=(bA BR.out 1).trans rfl;have z2:=(bA BR.out 2).trans rfl;have z3:=(bA BR.out 3).trans rfl;have z4:=(bA BR.out 4).trans rfl;have y0:=bL BR.out 0;have y1:=bL BR.out 1;have y2:=bL BR.out 2;have y3:=bL BR.out 3;have y4:=bL BR.out 4;go_wp2;refine fM (kG (rs:=[.cell 6 29,.tmp 7,.tmp 8]) rfl (by simp) (.cell (w.heap.size+1) 29 #[.slice B0 p.1.tw.length b0,.int .i64 p.1.y,.int .i64 p.1.t,.int .i64 p.1.o,.slice B4 p.1.tc.length b4] (0,0) _ rfl (jH BR.out) Try.underlying29 rfl (by kernel_rfl) (.tmp (.tmp .nil)))) rfl ?_;exact ⟨_,_,vr,rfl,dE (cI (pC H0.out BR.out (by decide)) (fun k hk=>by first|exact hk.1|exact hk)) HZ2.out,dE (cI (pC H4.out BR.out (by decide)) (fun _ _=>trivial)) HZ2.out,dE (cI (pC H5.out BR.out (by decide)) (fun k hk=>by first|exact hk.1|exact hk)) HZ2.out,zI HB2.out (by omega)⟩
end Go.Proofs.Ytbaklikaoleplaa.K
