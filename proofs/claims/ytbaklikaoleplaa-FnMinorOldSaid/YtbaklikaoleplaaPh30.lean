import Derived.Test.YtbaklikaoleplaaPh24
import Derived.Test.YtbaklikaoleplaaPh28
import Derived.Test.YtbaklikaoleplaaPh25
import Derived.Test.YtbaklikaoleplaaPh26
import Derived.Test.YtbaklikaoleplaaPh29
import Derived.Deep.CutRange
import Derived.Deep.CutBlock
set_option maxHeartbeats 64000000
set_option maxRecDepth 100000
namespace Go.Proofs.Ytbaklikaoleplaa.K
open Go.RowKit Go.Proofs.YtbaklikaoleplaaW.PrintWords Go.Proofs.YtbaklikaoleplaaW.PrintLast Go.Proofs.YtbaklikaoleplaaW.PrintMore
attribute [local go_sem] gD gB gY gW fR fQ gC gA
set_option linter.unusedVariables false
set_option linter.unusedSimpArgs false
open Go.Proofs.Ytbaklikaoleplaa.Pure
def FillP (M:Int) (cs:Cs) (w0 w:World) (g:Nat) (e:Ending) (w':World):Prop:= ∃(gw cW gc cC:Nat) (ws:List Int) (y t o:Int) (cards:List Bool) (v7:Value) (rt:List Int),e= .returned (.tuple #[.agg #[.slice (some ⟨gw,0,none⟩) ws.length cW,.int .i64 y,.int .i64 t,.int .i64 o,.slice (some ⟨gc,0,none⟩) cards.length cC],v7])∧Bnd cs ws y t o cards∧rt.length≤60∧OM w.heap.size gw cW gc cC w' ws cards∧Kd.R (Kd.int .i64) 3 w' w.heap.size (fun k=>k≠gw) v7 rt∧xG (M+4000) w0 w' g∧Ch (fun k=>k=g) w w'
theorem bEg (b gw cW gc cC:Nat) (ws:List Int) (y t o:Int) (cards:List Bool) (A:Option Addr) (cA:Nat) (cs:Cs) (c n:Int) (v:Bool) (w:World) (h:OM b gw cW gc cC w ws cards) (hb:Bnd cs ws y t o cards) (hs:jJ (gI cs) c n≠0) (hC:Kd.C tU w A cs.length cs) (hcA:cs.length≤cA) {ws1:List Int} {y1 t1 o1:Int} {cd1:List Bool} {a1:Int} (hR:bAp ws y t o cards c n (jJ (gI cs) c n) v=(ws1,y1,t1,o1,cd1,a1)):
  Calls Try.prog 92 #[.slice A cs.length cA,.agg #[.slice (some ⟨gw,0,none⟩) ws.length cW,.int .i64 y,.int .i64 t,.int .i64 o,.slice (some ⟨gc,0,none⟩) cards.length cC],.int .i64 c,.int .i64 n,.bool v] w fun e w'=>e= .returned (.tuple #[.agg #[.slice (some ⟨gw,0,none⟩) ws.length cW,.int .i64 y,.int .i64 t1,.int .i64 o1,.slice (some ⟨gc,0,none⟩) cards.length cC],.int .i64 a1])∧OM b gw cW gc cC w' ws1 cards∧Ch (fun k=>k=gw) w w':=by
 have h2:=try_any b gw cW gc cC ws y t o cards A cA cs c n v w h hb hs hC hcA;rw [hR] at h2;exact h2
theorem bRx (M : Int) (g : Nat) (A : Option Addr) (cA : Nat) (cs : Cs) (w0 w : World) (hi : xG M w0 w g) (hM : M ≤ 600000) (hok : rP cs = true) (hC : ∀ W', gZ w W' g none → Kd.C tU W' A cs.length cs) (hcA : cs.length ≤ cA) :
  Calls Try.prog 62 #[.pointer (some ⟨g,0,none⟩),.slice A cs.length cA] w (FillP M cs w0 w g):=by
 obtain ⟨b0,hb0⟩: ∃b,b=w.heap.size:=⟨_,rfl⟩;have HG:=aK (show g<b0∧w0.heap.size≤b0 by have h1:=hi.lt;have h2:=hi.ge;rw [hb0];omega);have HBW:=aK hb0;have HI:=aK hi;have HM:=aK hM;have HOk:=aK hok;have HC:=aK hC;have HCA:=aK hcA;have HL:=aK (sL hok);have HCh:=aK (Ch.refl (fun k=>k=g) w);clear hi hM hok hC hcA hb0;go_enter Try.func62,Try.ntmps62
 go_wp2_with ((with_reducible refine dK (N:=4) rfl ?_);refine bF (fun hng=>?_))
 refine hng ?_;clear hng;refine dM ?hg (N:=4) ?hd (cs:= #[.slice none 0 0,.int .i64 0,.int .i64 0,.int .i64 0,.slice none 0 0]) (t:=29) ?hr ?_
 (case hd=>rfl)
 (case hg=>rfl)
 (case hr=>first|(go_simp;done)|(go_simp;rfl))
 intro gz hg w1 hbox hb;have BZ1:=aK hbox;have HI1:=aK (HI.out.below hb);have HCh1:=aK (HCh.out.below hb);have HGz:=aK (show b0≤gz by rw [hg,HBW.out];exact bV _);clear hb hbox hg HI HCh
 go_wp2_with (go_at_call 63;refine bF (fun hng=>?_))
 refine hng ?_;clear hng;refine (jF _ g 24 w0 _ HI1.out zM xH xH).mono ?_;rintro e w2 ⟨y,rfl,hy,hi,hk⟩;have hst:=HI1.out.step hi hk;have HI2:=aK hi;have HCh2:=aK (HCh1.out.then_ hst);have BZ2:=aK (hst.blk BZ1.out (by have:=HG.out;have:=HGz.out;omega));have HY:=aK hy;clear hy BZ1;clear hst hi hk HI1 HCh1
 go_wp2_with (go_at_call 63;refine bF (fun hng=>?_))
 refine hng ?_;clear hng;refine (jF _ g 50 w0 _ HI2.out zM xH xH).mono ?_;rintro e w3 ⟨n0,rfl,hn,hi,hk⟩;have hst:=HI2.out.step hi hk;have HI3:=aK hi;have HCh3:=aK (HCh2.out.then_ hst);have BZ3:=aK (hst.blk BZ2.out (by have:=HG.out;have:=HGz.out;omega));obtain ⟨n,hn_⟩: ∃n,n=14+n0:=⟨_,rfl⟩;have qn:IntKind.i64.wrap (14+n0)=n:=by rw [hn_];exact dD _ (by omega)
 have HN:=aK (show 14≤n∧n≤63 by omega);clear hn hn_ BZ2;clear hst hi hk HI2 HCh2
 go_wp2_with (go_at_call 91;refine bF (fun hng=>?_))
 refine hng ?_;clear hng;refine (bEm y n (List.replicate (y+n).toNat 0) y 0 y (List.replicate ((n+3)/4).toNat false) _ (bPn (by have:=HY.out;omega) (by have:=HN.out;omega))).mono ?_;rintro e w4 ⟨v0,v4,rfl,hr0,hr4,hb⟩;have HB0:=aK (Bnd_new HOk.out (y:=y) (n:=n) (by have:=HY.out;omega) (by have:=HN.out;omega));have HLn:=aK (show ((List.replicate (y+n).toNat (0:Int)).length:Int)=y+n∧4≤(List.replicate ((n+3)/4).toNat false).length by have:=HY.out;have:=HN.out;rw [fI,fI];omega);obtain ⟨ws,hws⟩: ∃l,l=List.replicate (y+n).toNat (0:Int):=⟨_,rfl⟩;obtain ⟨cards,hcd⟩: ∃l,l=List.replicate ((n+3)/4).toNat false:=⟨_,rfl⟩;rw [←hws] at hr0 HB0 HLn;rw [←hcd] at hr4 HB0 HLn;clear hws hcd;have hle:=HCh3.out.size;rw [←HBW.out] at hle;obtain ⟨gw,cW,e0,hgw,hgl,_⟩:=pG hr0 (by have:=HLn.out;have:=HY.out;have:=HN.out;omega);subst e0;obtain ⟨gc,cC,e4,hgc,hgl4,_⟩:=pG hr4 (by have:=HLn.out;omega);subst e4;have HO4:=aK (show OM b0 gw cW gc cC w4 ws cards from ⟨cI (Kd.R_tight rfl (dE hr0 hle)) (fun k hk=>by simpa [Value.ownBlock] using hk),cI (Kd.R_tight rfl (dE hr4 hle)) (fun k hk=>by simpa [Value.ownBlock] using hk),fun e=>by (obtain ⟨c1,h1⟩:=Kd.R_typed hr0 gw (by simp [Value.ownBlock]);obtain ⟨c2,h2⟩:=Kd.R_typed hr4 gc (by simp [Value.ownBlock]);rw [e] at h1;rw [h1] at h2;cases h2)⟩);have BZ4:=aK (bS BZ3.out hb);have HI4:=aK (HI3.out.below hb);have HCh4:=aK (HCh3.out.below hb);clear hr0 hr4 hb hle hgw hgl hgc hgl4 HI3 HCh3 BZ3
 go_wp2_with ((with_reducible refine dK (N:=6) rfl ?_);refine bF (fun hng=>?_))
 refine hng ?_;clear hng;refine dM ?hg (N:=6) ?hd (cs:= #[.slice none 0 0,.int .i64 0,.int .i64 0,.int .i64 0,.slice none 0 0]) (t:=29) ?hr ?_
 (case hd=>rfl)
 (case hg=>rfl)
 (case hr=>first|(go_simp;done)|(go_simp;rfl))
 intro gm hg w5 hbox hb;have HO5:=aK (HO4.out.ch ((Ch.refl (fun _=>False) _).below hb) (fun h=>h) (fun h=>h));have BZ5:=aK (bS BZ4.out hb);have HI5:=aK (HI4.out.below hb);have HCh5:=aK (HCh4.out.below hb);have HGm:=aK (show gz<gm by rw [hg];exact dN BZ4.out);have BM5:=aK hbox;clear hb hbox hg HO4 BZ4 HI4 HCh4;have c0:=(bA BM5.out 0).trans rfl;have c1:=(bA BM5.out 1).trans rfl;have c2:=(bA BM5.out 2).trans rfl;have c3:=(bA BM5.out 3).trans rfl;have c4:=(bA BM5.out 4).trans rfl;have f0:=bL BM5.out 0;have f1:=bL BM5.out 1;have f2:=bL BM5.out 2;have f3:=bL BM5.out 3;have f4:=bL BM5.out 4
 go_wp2_with ((with_reducible refine fX (t:=29) (p:=6) rfl ?_);refine bF (fun hng=>?_))
 refine hng ?_;clear hng;refine fN (t:=29) (p:=6) (v:=?vm1) (w1:=(nF w5 gm (.slice (some ⟨gw,0,none⟩) ws.length cW) (.int .i64 y) (.int .i64 0) (.int .i64 y) (.slice (some ⟨gc,0,none⟩) cards.length cC))) ?hg ?ho ?hn ?hr ?_
 (case ho=>rfl)
 (case hg=>rfl)
 (case hn=>rfl)
 (case hr=>first|(go_simp;done)|(go_simp;rfl))
 intro w6 hw;have n5:=HO5.out.nbox BM5.out;have HO6:=aK (show OM b0 gw cW gc cC w6 ws cards by rw [hw];exact HO5.out.ch (Ch.box5 (Ch.refl (fun k=>k=gm) _) (.inl rfl) _ _ _ _ _) n5.1 n5.2);have BM6:=aK (show w6.heap[gm]? =some (.cells #[.slice (some ⟨gw,0,none⟩) ws.length cW,.int .i64 y,.int .i64 0,.int .i64 y,.slice (some ⟨gc,0,none⟩) cards.length cC] 29 (0,0)) by rw [hw];exact jH BM5.out);have BZ6:=aK (show w6.heap[gz]? =some (.cells #[.slice none 0 0,.int .i64 0,.int .i64 0,.int .i64 0,.slice none 0 0] 29 (0,0)) by rw [hw];exact (bCf (by have:=HGm.out;omega)).trans BZ5.out);have HI6:=aK (show xG (M+1+1) w0 w6 g by rw [hw];exact HI5.out.ch (Ch.box5 (Ch.refl (fun k=>k=gm) _) (.inl rfl) _ _ _ _ _) (by have:=HG.out;have:=HGz.out;have:=HGm.out;omega) (fun k hk=>by have:=HG.out;have:=HGz.out;have:=HGm.out;omega));have HCh6:=aK (show Ch (fun k=>k=g) w w6 by rw [hw];exact HCh5.out.box5 (.inr (by have:=HGz.out;have:=HGm.out;rw [←HBW.out];omega)) _ _ _ _ _);clear hw n5 HO5 BM5 BZ5 HI5 HCh5;clear c0 c1 c2 c3 c4;clear f0 f1 f2 f3 f4
 go_wp2_with ((with_reducible refine dK (N:=21) rfl ?_);refine bF (fun hng=>?_))
 refine hng ?_;clear hng;refine yI (Kd.int .i64) _ 3 ?hg (N:=21) ?hd (xs:=([]:List Int)) (inner:=[]) (ok:=fun _=>True) (okp:=fun _=>True) ?hr ?hp (fun _ hk=>hk) dT (bH _ _) (bV _) (by simp) ?_
 (case hd=>rfl)
 (case hg=>rfl)
 (case hr=>first|(go_simp;done)|(go_simp;rfl))
 (case hp=>exact (pP.none _ _))
 intro v7 w7 ho hb hg_ hnew_;have HO7:=aK (HO6.out.ch ((Ch.refl (fun _=>False) _).below hb) (fun h=>h) (fun h=>h));have BM7:=aK (bS BM6.out hb);have BZ7:=aK (bS BZ6.out hb);have HI7:=aK (HI6.out.below hb);have HCh7:=aK (HCh6.out.below hb);have hsz:b0≤w6.heap.size:=by have:=HO6.out.bw;omega
 have HR7:=aK (show Kd.R (Kd.int .i64) 3 w7 b0 (fun k=>(b0≤k∧k≠gw)∧k<w7.heap.size) v7 [] from cI (fZ (dE ho hsz |> fun _=>dE (cI (fZ ho) (fun k hk=>show w6.heap.size≤k from hk.2.1)) hsz)) (fun k hk=>⟨⟨by have:=hk.1;omega,by have:=hk.1;have:=HO6.out.bw;omega⟩,hk.2.2.1⟩));clear ho hb hg_ hnew_ hsz HO6 BM6 BZ6 HI6 HCh6
 go_wp2_with ((with_reducible refine dK (N:=22) rfl ?_);refine bF (fun hng=>?_))
 refine hng ?_;clear hng;refine yI (Kd.int .i64) _ 3 ?hg (N:=22) ?hd (xs:=([0]:List Int)) (inner:=[.int .i64 0]) (ok:=fun _=>True) (okp:=fun _=>True) ?hr ?hp (fun _ hk=>hk) dT (bH _ _) (bV _) (by simp) ?_
 (case hd=>rfl)
 (case hg=>rfl)
 (case hr=>first|(go_simp;done)|(go_simp;rfl))
 (case hp=>exact (pP.one (show Kd.M (Kd.int .i64) _ _ _ 0 [.int .i64 0] from rfl) (pP.none _ _)))
 intro v8 w8 ho hb hg_ hnew_;have HO8:=aK (HO7.out.ch ((Ch.refl (fun _=>False) _).below hb) (fun h=>h) (fun h=>h));have BM8:=aK (bS BM7.out hb);have BZ8:=aK (bS BZ7.out hb);have HI8:=aK (HI7.out.below hb);have HCh8:=aK (HCh7.out.below hb);have hsz:b0≤w7.heap.size:=by have:=HO7.out.bw;omega
 have HR8:=aK (show Kd.R (Kd.int .i64) 3 w8 b0 (fun k=>w7.heap.size≤k) v8 [0] from dE (cI (fZ ho) (fun k hk=>hk.2.1)) hsz);have HF8:=aK (show Fl b0 gz gm gw cW gc cC w8 v7 v8 ws y 0 y cards [0] [] from ⟨HO8.out,BM8.out,BZ8.out,cI HR8.out (fun k hk=>⟨⟨by omega,by have:=HO7.out.bw;omega⟩,fun e=>by have:=HR7.out.1 k e.symm;omega⟩),cI (bZ HR7.out hb) (fun k hk=>⟨hk.1,fun e=>by have:=HR8.out.1 k e.symm;omega⟩),⟨HGz.out,HGm.out⟩⟩);clear ho hb hg_ hnew_ hsz HO7 BM7 BZ7 HI7 HCh7 HR7 HR8 HO8 BM8 BZ8
 go_wp2_with (go_at_call 63;refine bF (fun hng=>?_))
 refine hng ?_;clear hng;refine (jF _ g 22 w0 _ HI8.out zM xH xH).mono ?_;rintro e w9 ⟨x0,rfl,hx0,hi,hk⟩;have hst:=HI8.out.step hi hk;have HI9:=aK hi;have HCh9:=aK (HCh8.out.then_ hst);have HF9:=aK (HF8.out.ch hst (fun k hk=>by have:=HG.out;omega));have HX0:=aK hx0;clear hx0;clear hst hi hk HI8 HCh8 HF8;go_wp2
 go_loopw [7,8,9] (fun v7 v8 v9 wr=> ∃(x:Int) (ws:List Int) (t o:Int) (cards:List Bool) (pl rt:List Int),v9= .int .i64 x∧Aside0 (Fl b0 gz gm gw cW gc cC wr v7 v8 ws y t o cards pl rt)∧Aside0 (Bnd cs ws y t o cards∧(∀z∈pl,0≤z∧z≤y+n)∧(ws.length:Int)=y+n)∧Aside0 (0≤x∧x≤22∧1≤pl.length∧pl.length+x≤25∧rt.length+x≤25)∧Aside0 (xG (M+10+100*(22 - x)) w0 wr g)∧Aside0 (Ch (fun k=>k=g) w wr)) (fun _ _ v9 _=>(intOf v9).toNat)
 case atStart=>exact ⟨x0,ws,0,y,cards,[0],[],rfl,HF9,⟨HB0.out,fun z hz=>by have:=HY.out;have:=HN.out;simp at hz;omega,HLn.out.1⟩,⟨by have:=HX0.out;simp;omega⟩,⟨HI9.out.le (by have:=HX0.out;omega)⟩,HCh9⟩
 case round =>
  clear HF9 HI9 HCh9 HX0 HB0 HLn;obtain ⟨x,ws,t,o,cards,pl,rt,rfl,HF,HB,HX,HI,HCh⟩:=hrel;by_cases cx:0<x
  ·have d0 : decide (0 < x) = true := bD cx
   have HX2:=aK (show 0<x∧x≤22∧1≤pl.length∧pl.length+x≤25∧rt.length+x≤25 by have:=HX.out;omega);have q0:IntKind.i64.wrap (x - 1)=x - 1:=dD _ (by have:=HX.out;omega)
   have q1:IntKind.i64.wrap ((cs.length:Int)+2)=(cs.length:Int)+2:=dD _ xH
   clear cx HX
   go_wp2_with fail
   go_at_call 63;refine (jF _ g ((cs.length:Int)+2) w0 _ HI.out bGx xH xH).mono ?_;rintro e w1 ⟨c0,rfl,hc0,hi,hk⟩;have hst:=HI.out.step hi hk;have HI1:=aK hi;have HCh1:=aK (HCh.out.then_ hst);have HF1:=aK (HF.out.ch hst (fun k hk=>by have:=HG.out;omega));obtain ⟨c,hc⟩: ∃c,c=c0 - 2:=⟨_,rfl⟩;have q2:IntKind.i64.wrap (c0 - 2)=c:=by rw [hc];exact dD _ xH
   have HCc:=aK (show -2≤c∧c<cs.length by omega);clear hc hc0;clear hst hi hk HI HCh HF;go_wp2;replace HI1:=aK HI1.out.drew;replace HCh1:=aK HCh1.out.drew;replace HF1:=aK (HF1.out.ch (Ch.drew (Ch.refl (fun _=>False) _)) (fun _ h=>h.elim));have HF0:=HF1;have HI0:=HI1;have HCh0:=HCh1;clear HF1 HI1 HCh1;refine sT 15 (S:=fun w'=>w'.cell? ⟨gm,0,none⟩=some (.slice (some ⟨gw,0,none⟩) ws.length cW)∧w'.cell? ⟨gm,1,none⟩=some (.int .i64 y)∧w'.cell? ⟨gm,2,none⟩=some (.int .i64 t)∧w'.cell? ⟨gm,3,none⟩=some (.int .i64 o)∧w'.cell? ⟨gm,4,none⟩=some (.slice (some ⟨gc,0,none⟩) cards.length cC)) (ds:=[13]) ⟨((bA HF0.out.bx 0).trans rfl),((bA HF0.out.bx 1).trans rfl),((bA HF0.out.bx 2).trans rfl),((bA HF0.out.bx 3).trans rfl),((bA HF0.out.bx 4).trans rfl)⟩ (fun hHeld=>?_);generalize w1.drew=w1a at HF0 HI0 HCh0 hHeld ⊢;refine cJ 0 ?_;refine cJ 2 ?_;refine cJ 3 ?_;refine cJ 5 ?_;refine tS 1 37 (lA 15 47) rfl rfl (by kernel_rfl) hHeld qV ?_;refine bJi (σ:=Nat×List Int×Int×Int×Int×Int×Int) 2 (lA 15 8191) (fun s=>[(40,.int .i64 s.2.2.2.2.2.1),(42,.int .i64 s.2.2.2.2.2.2),(43,.bool (s.2.2.2.2.2.2==0)),(44,.tuple #[.agg #[.slice (some ⟨gw,0,none⟩) ws.length cW,.int .i64 y,.int .i64 s.2.2.1,.int .i64 s.2.2.2.1,.slice (some ⟨gc,0,none⟩) cards.length cC],.int .i64 s.2.2.2.2.1]),(35,.tuple #[.agg #[.slice (some ⟨gw,0,none⟩) ws.length cW,.int .i64 y,.int .i64 s.2.2.1,.int .i64 s.2.2.2.1,.slice (some ⟨gc,0,none⟩) cards.length cC],.int .i64 s.2.2.2.2.1]),(45,.agg #[.slice (some ⟨gw,0,none⟩) ws.length cW,.int .i64 y,.int .i64 s.2.2.1,.int .i64 s.2.2.2.1,.slice (some ⟨gc,0,none⟩) cards.length cC]),(46,.int .i64 s.2.2.2.2.1),(11,.pointer (some ⟨s.1,0,none⟩))]) (fun s w'=>Fl b0 gz gm gw cW gc cC w' u7 u8 s.2.1 y t o cards pl rt∧w'.heap[s.1]? =some (.cells #[.slice none 0 0,.int .i64 0,.int .i64 0,.int .i64 0,.slice none 0 0] 29 (0,0))∧(b0≤s.1∧gm<s.1)∧xG (M+10+100*(22 - x)+1+1+1) w0 w' g∧Ch (fun k=>k=g) w w'∧(s.2.1.length=ws.length∧((s.2.2.2.2.1=0∧s.2.1=ws∧s.2.2.1=t∧s.2.2.2.1=o)∨(1≤s.2.2.2.2.1∧s.2.2.2.2.1≤ws.length∧Bnd cs s.2.1 y s.2.2.1 s.2.2.2.1 cards)))∧(w'.cell? ⟨gm,0,none⟩=some (.slice (some ⟨gw,0,none⟩) ws.length cW)∧w'.cell? ⟨gm,1,none⟩=some (.int .i64 y)∧w'.cell? ⟨gm,2,none⟩=some (.int .i64 t)∧w'.cell? ⟨gm,3,none⟩=some (.int .i64 o)∧w'.cell? ⟨gm,4,none⟩=some (.slice (some ⟨gc,0,none⟩) cards.length cC))) ?_ ?_;rotate_left
   ·intro hCont
    refine bIh (i:=4) (j:=12) (Ni:=some 40) (Nj:=some 11) (lA 15 63) (lA 15 4143) rfl rfl rfl rfl (by kernel_rfl) (by decide) (by decide) (fun K hK=>?_) (fun K hK=>?_)
    ·skip
     refine gO Try.func63 #[.pointer (some ⟨g,0,none⟩),.int .i64 4] ?_;(with_reducible refine (jF _ g 4 w0 _ HI0.out bGx (by omega) (by omega)).mono ?_);rintro e wc1 ⟨n4,rfl,hn4,hi,hk⟩;refine ⟨_,rfl,?_⟩;have hst:=HI0.out.step hi hk;have HI1:=aK hi;have HCh1:=aK (HCh0.out.then_ hst);have HF1:=aK (HF0.out.ch hst (fun k hk=>by have:=HG.out;omega));have HN4:=aK hn4;clear hn4;clear hst hi hk HI0 HCh0 HF0;refine hK.out _ _ ⟨((bA HF1.out.bx 0).trans rfl),((bA HF1.out.bx 1).trans rfl),((bA HF1.out.bx 2).trans rfl),((bA HF1.out.bx 3).trans rfl),((bA HF1.out.bx 4).trans rfl)⟩ (fun hHeld=>?_);clear hK K;refine nS 40 ?_;refine bIh (i:=6) (j:=12) (Ni:=some 42) (Nj:=some 11) (lA 15 127) (lA 15 4159) rfl rfl rfl rfl (by kernel_rfl) (by decide) (by decide) (fun K hK=>?_) (fun K hK=>?_)
     ·skip
      refine gO Try.func63 #[.pointer (some ⟨g,0,none⟩),.int .i64 3] ?_;(with_reducible refine (jF _ g 3 w0 _ HI1.out bGx (by omega) (by omega)).mono ?_);rintro e wc2 ⟨q3,rfl,hq3,hi,hk⟩;refine ⟨_,rfl,?_⟩;have hst:=HI1.out.step hi hk;have HI2:=aK hi;have HCh2:=aK (HCh1.out.then_ hst);have HF2:=aK (HF1.out.ch hst (fun k hk=>by have:=HG.out;omega));clear hq3;clear hst hi hk HI1 HCh1 HF1;refine hK.out _ _ ⟨((bA HF2.out.bx 0).trans rfl),((bA HF2.out.bx 1).trans rfl),((bA HF2.out.bx 2).trans rfl),((bA HF2.out.bx 3).trans rfl),((bA HF2.out.bx 4).trans rfl)⟩ (fun hHeld=>?_);clear hK K;refine nS 42 ?_;refine pS 7 43 (lA 15 255) ?_;refine bIh (i:=8) (j:=12) (Ni:=some 44) (Nj:=some 11) (lA 15 511) (lA 15 4351) rfl rfl rfl rfl (by kernel_rfl) (by decide) (by decide) (fun K hK=>?_) (fun K hK=>?_)
      ·skip
       obtain ⟨⟨ws1,y1,t1,o1,cd1,a1⟩,hR⟩: ∃R,bAp ws y t o cards c n4 (jJ (gI cs) c n4) (q3==0)=R:=⟨_,rfl⟩;have HMs:=aK (bCp HOk.out HCc.out (show 0≤n4∧n4≤6 by have:=HN4.out;omega));have HR:=aK (bAo HB.out.1 HMs.out hR);refine gO Try.func92 #[.slice A cs.length cA,.agg #[.slice (some ⟨gw,0,none⟩) ws.length cW,.int .i64 y,.int .i64 t,.int .i64 o,.slice (some ⟨gc,0,none⟩) cards.length cC],.int .i64 c,.int .i64 n4,.bool (q3==0)] ?_;(with_reducible refine (bEg b0 gw cW gc cC ws y t o cards A cA cs c n4 (q3==0) _ HF2.out.om HB.out.1 HMs.out (HC.out _ HCh2.out.keep) HCA.out hR).mono ?_);rintro e wc3 ⟨rfl,hO,hc⟩;refine ⟨_,rfl,?_⟩;have HF3:=aK (HF2.out.try_ hc hO HR.out.1);have HI3:=aK (HI2.out.ch hc (by have:=HF2.out.om.bw;have:=HG.out;omega) (fun k hk=>by have:=HF2.out.om.bw;have:=HG.out;omega));have HCh3:=aK (HCh2.out.trans hc (fun k hk=> .inr (by have:=HF2.out.om.bw;have:=HBW.out;omega)));have BG:=aK (show wc3.heap[gm]? =some (.cells #[.slice (some ⟨gw,0,none⟩) ws.length cW,.int .i64 y,.int .i64 t,.int .i64 o,.slice (some ⟨gc,0,none⟩) cards.length cC] 29 (0,0)) by have h_:=HF3.out.bx;rw [HR.out.1] at h_;exact h_);clear hO hc hR HMs HI2 HCh2 HF2;refine hK.out _ _ ⟨((bA BG.out 0).trans rfl),((bA BG.out 1).trans rfl),((bA BG.out 2).trans rfl),((bA BG.out 3).trans rfl),((bA BG.out 4).trans rfl)⟩ (fun hHeld=>?_);clear hK K;refine nS 44 ?_;refine pS 9 35 (lA 15 1023) ?_;refine cJ 10 ?_;refine cJ 11 ?_;refine pD (i:=12) (N:=some 11) (lA 15 8191) rfl rfl (by kernel_rfl) (by decide) (fun K hK=>?_);have HGx:=aK (show b0≤wc3.heap.size∧gm<wc3.heap.size by have:=dN HF3.out.bx;have:=HF3.out.gm0;omega);have BX4:=aK (kU wc3 (.cells #[.slice none 0 0,.int .i64 0,.int .i64 0,.int .i64 0,.slice none 0 0] 29 (0,0)));have HF4:=aK (HF3.out.below (bJ (bH _ _) (.cells #[.slice none 0 0,.int .i64 0,.int .i64 0,.int .i64 0,.slice none 0 0] 29 (0,0))));have HI4:=aK (HI3.out.alloc (.cells #[.slice none 0 0,.int .i64 0,.int .i64 0,.int .i64 0,.slice none 0 0] 29 (0,0)));have HCh4:=aK (HCh3.out.alloc (.cells #[.slice none 0 0,.int .i64 0,.int .i64 0,.int .i64 0,.slice none 0 0] 29 (0,0)));refine rH (w1:=?_) (v:=?_) (by rfl) rfl ?_ ?_;rotate_left 2
       ·go_simp
        constructor
        ·rfl
        ·rfl
       refine hK.out _ _ ⟨((bA (bQ BG.out (.cells #[.slice none 0 0,.int .i64 0,.int .i64 0,.int .i64 0,.slice none 0 0] 29 (0,0))) 0).trans rfl),((bA (bQ BG.out (.cells #[.slice none 0 0,.int .i64 0,.int .i64 0,.int .i64 0,.slice none 0 0] 29 (0,0))) 1).trans rfl),((bA (bQ BG.out (.cells #[.slice none 0 0,.int .i64 0,.int .i64 0,.int .i64 0,.slice none 0 0] 29 (0,0))) 2).trans rfl),((bA (bQ BG.out (.cells #[.slice none 0 0,.int .i64 0,.int .i64 0,.int .i64 0,.slice none 0 0] 29 (0,0))) 3).trans rfl),((bA (bQ BG.out (.cells #[.slice none 0 0,.int .i64 0,.int .i64 0,.int .i64 0,.slice none 0 0] 29 (0,0))) 4).trans rfl)⟩ (fun hHeld=>?_);clear hK K;refine nS 11 ?_;exact sH bCw (hCont (wc3.heap.size,ws1,t1,o1,a1,n4,q3) _ ⟨HF4.out,BX4.out,HGx.out,HI4.out,HCh4.out,HR.out,hHeld⟩)
      ·skip
       have HGx:=aK (show b0≤wc2.heap.size∧gm<wc2.heap.size by have:=dN HF2.out.bx;have:=HF2.out.gm0;omega);have BX3:=aK (kU wc2 (.cells #[.slice none 0 0,.int .i64 0,.int .i64 0,.int .i64 0,.slice none 0 0] 29 (0,0)));have HF3:=aK (HF2.out.below (bJ (bH _ _) (.cells #[.slice none 0 0,.int .i64 0,.int .i64 0,.int .i64 0,.slice none 0 0] 29 (0,0))));have HI3:=aK (HI2.out.alloc (.cells #[.slice none 0 0,.int .i64 0,.int .i64 0,.int .i64 0,.slice none 0 0] 29 (0,0)));have HCh3:=aK (HCh2.out.alloc (.cells #[.slice none 0 0,.int .i64 0,.int .i64 0,.int .i64 0,.slice none 0 0] 29 (0,0)));refine rH (w1:=?_) (v:=?_) (by rfl) rfl ?_ ?_;rotate_left 2
       ·go_simp
        constructor
        ·rfl
        ·rfl
       refine hK.out _ _ ⟨((bA (bQ HF2.out.bx (.cells #[.slice none 0 0,.int .i64 0,.int .i64 0,.int .i64 0,.slice none 0 0] 29 (0,0))) 0).trans rfl),((bA (bQ HF2.out.bx (.cells #[.slice none 0 0,.int .i64 0,.int .i64 0,.int .i64 0,.slice none 0 0] 29 (0,0))) 1).trans rfl),((bA (bQ HF2.out.bx (.cells #[.slice none 0 0,.int .i64 0,.int .i64 0,.int .i64 0,.slice none 0 0] 29 (0,0))) 2).trans rfl),((bA (bQ HF2.out.bx (.cells #[.slice none 0 0,.int .i64 0,.int .i64 0,.int .i64 0,.slice none 0 0] 29 (0,0))) 3).trans rfl),((bA (bQ HF2.out.bx (.cells #[.slice none 0 0,.int .i64 0,.int .i64 0,.int .i64 0,.slice none 0 0] 29 (0,0))) 4).trans rfl)⟩ (fun hHeld=>?_);clear hK K;refine nS 11 ?_;refine pD (i:=8) (N:=some 44) (lA 15 4607) rfl rfl (by kernel_rfl) (by decide) (fun K hK=>?_);obtain ⟨⟨ws1,y1,t1,o1,cd1,a1⟩,hR⟩: ∃R,bAp ws y t o cards c n4 (jJ (gI cs) c n4) (q3==0)=R:=⟨_,rfl⟩;have HMs:=aK (bCp HOk.out HCc.out (show 0≤n4∧n4≤6 by have:=HN4.out;omega));have HR:=aK (bAo HB.out.1 HMs.out hR);refine gO Try.func92 #[.slice A cs.length cA,.agg #[.slice (some ⟨gw,0,none⟩) ws.length cW,.int .i64 y,.int .i64 t,.int .i64 o,.slice (some ⟨gc,0,none⟩) cards.length cC],.int .i64 c,.int .i64 n4,.bool (q3==0)] ?_;(with_reducible refine (bEg b0 gw cW gc cC ws y t o cards A cA cs c n4 (q3==0) _ HF3.out.om HB.out.1 HMs.out (HC.out _ HCh3.out.keep) HCA.out hR).mono ?_);rintro e wc4 ⟨rfl,hO,hc⟩;refine ⟨_,rfl,?_⟩;have HF4:=aK (HF3.out.try_ hc hO HR.out.1);have HI4:=aK (HI3.out.ch hc (by have:=HF3.out.om.bw;have:=HG.out;omega) (fun k hk=>by have:=HF3.out.om.bw;have:=HG.out;omega));have HCh4:=aK (HCh3.out.trans hc (fun k hk=> .inr (by have:=HF3.out.om.bw;have:=HBW.out;omega)));have BG:=aK (show wc4.heap[gm]? =some (.cells #[.slice (some ⟨gw,0,none⟩) ws.length cW,.int .i64 y,.int .i64 t,.int .i64 o,.slice (some ⟨gc,0,none⟩) cards.length cC] 29 (0,0)) by have h_:=HF4.out.bx;rw [HR.out.1] at h_;exact h_);have BX4:=aK (hc.blk BX3.out (by have:=HF3.out.om.nbox BX3.out;omega));clear hO hc hR HMs HI3 HCh3 HF3 BX3;refine hK.out _ _ ⟨((bA BG.out 0).trans rfl),((bA BG.out 1).trans rfl),((bA BG.out 2).trans rfl),((bA BG.out 3).trans rfl),((bA BG.out 4).trans rfl)⟩ (fun hHeld=>?_);clear hK K;refine nS 44 ?_;refine cJ 9 ?_;refine cJ 10 ?_;refine cJ 11 ?_;exact sH bCw (hCont (wc2.heap.size,ws1,t1,o1,a1,n4,q3) _ ⟨HF4.out,BX4.out,HGx.out,HI4.out,HCh4.out,HR.out,hHeld⟩)
     ·skip
      have HGx:=aK (show b0≤wc1.heap.size∧gm<wc1.heap.size by have:=dN HF1.out.bx;have:=HF1.out.gm0;omega);have BX2:=aK (kU wc1 (.cells #[.slice none 0 0,.int .i64 0,.int .i64 0,.int .i64 0,.slice none 0 0] 29 (0,0)));have HF2:=aK (HF1.out.below (bJ (bH _ _) (.cells #[.slice none 0 0,.int .i64 0,.int .i64 0,.int .i64 0,.slice none 0 0] 29 (0,0))));have HI2:=aK (HI1.out.alloc (.cells #[.slice none 0 0,.int .i64 0,.int .i64 0,.int .i64 0,.slice none 0 0] 29 (0,0)));have HCh2:=aK (HCh1.out.alloc (.cells #[.slice none 0 0,.int .i64 0,.int .i64 0,.int .i64 0,.slice none 0 0] 29 (0,0)));refine rH (w1:=?_) (v:=?_) (by rfl) rfl ?_ ?_;rotate_left 2
      ·go_simp
       constructor
       ·rfl
       ·rfl
      refine hK.out _ _ ⟨((bA (bQ HF1.out.bx (.cells #[.slice none 0 0,.int .i64 0,.int .i64 0,.int .i64 0,.slice none 0 0] 29 (0,0))) 0).trans rfl),((bA (bQ HF1.out.bx (.cells #[.slice none 0 0,.int .i64 0,.int .i64 0,.int .i64 0,.slice none 0 0] 29 (0,0))) 1).trans rfl),((bA (bQ HF1.out.bx (.cells #[.slice none 0 0,.int .i64 0,.int .i64 0,.int .i64 0,.slice none 0 0] 29 (0,0))) 2).trans rfl),((bA (bQ HF1.out.bx (.cells #[.slice none 0 0,.int .i64 0,.int .i64 0,.int .i64 0,.slice none 0 0] 29 (0,0))) 3).trans rfl),((bA (bQ HF1.out.bx (.cells #[.slice none 0 0,.int .i64 0,.int .i64 0,.int .i64 0,.slice none 0 0] 29 (0,0))) 4).trans rfl)⟩ (fun hHeld=>?_);clear hK K;refine nS 11 ?_;refine oS 6 42 (lA 15 4223) rfl rfl (fun K hK=>?_);refine gO Try.func63 #[.pointer (some ⟨g,0,none⟩),.int .i64 3] ?_;(with_reducible refine (jF _ g 3 w0 _ HI2.out bGx (by omega) (by omega)).mono ?_);rintro e wc3 ⟨q3,rfl,hq3,hi,hk⟩;refine ⟨_,rfl,?_⟩;have hst:=HI2.out.step hi hk;have HI3:=aK hi;have HCh3:=aK (HCh2.out.then_ hst);have HF3:=aK (HF2.out.ch hst (fun k hk=>by have:=HG.out;omega));have BX3:=aK (hst.blk BX2.out (by have:=HG.out;have:=HGx.out;omega));clear hq3;clear hst hi hk HI2 HCh2 HF2 BX2;refine hK.out _ _ ⟨((bA HF3.out.bx 0).trans rfl),((bA HF3.out.bx 1).trans rfl),((bA HF3.out.bx 2).trans rfl),((bA HF3.out.bx 3).trans rfl),((bA HF3.out.bx 4).trans rfl)⟩ (fun hHeld=>?_);clear hK K;refine nS 42 ?_;refine cJ 7 ?_;refine pD (i:=8) (N:=some 44) (lA 15 4607) rfl rfl (by kernel_rfl) (by decide) (fun K hK=>?_);obtain ⟨⟨ws1,y1,t1,o1,cd1,a1⟩,hR⟩: ∃R,bAp ws y t o cards c n4 (jJ (gI cs) c n4) (q3==0)=R:=⟨_,rfl⟩;have HMs:=aK (bCp HOk.out HCc.out (show 0≤n4∧n4≤6 by have:=HN4.out;omega));have HR:=aK (bAo HB.out.1 HMs.out hR);refine gO Try.func92 #[.slice A cs.length cA,.agg #[.slice (some ⟨gw,0,none⟩) ws.length cW,.int .i64 y,.int .i64 t,.int .i64 o,.slice (some ⟨gc,0,none⟩) cards.length cC],.int .i64 c,.int .i64 n4,.bool (q3==0)] ?_;(with_reducible refine (bEg b0 gw cW gc cC ws y t o cards A cA cs c n4 (q3==0) _ HF3.out.om HB.out.1 HMs.out (HC.out _ HCh3.out.keep) HCA.out hR).mono ?_);rintro e wc4 ⟨rfl,hO,hc⟩;refine ⟨_,rfl,?_⟩;have HF4:=aK (HF3.out.try_ hc hO HR.out.1);have HI4:=aK (HI3.out.ch hc (by have:=HF3.out.om.bw;have:=HG.out;omega) (fun k hk=>by have:=HF3.out.om.bw;have:=HG.out;omega));have HCh4:=aK (HCh3.out.trans hc (fun k hk=> .inr (by have:=HF3.out.om.bw;have:=HBW.out;omega)));have BG:=aK (show wc4.heap[gm]? =some (.cells #[.slice (some ⟨gw,0,none⟩) ws.length cW,.int .i64 y,.int .i64 t,.int .i64 o,.slice (some ⟨gc,0,none⟩) cards.length cC] 29 (0,0)) by have h_:=HF4.out.bx;rw [HR.out.1] at h_;exact h_);have BX4:=aK (hc.blk BX3.out (by have:=HF3.out.om.nbox BX3.out;omega));clear hO hc hR HMs HI3 HCh3 HF3 BX3;refine hK.out _ _ ⟨((bA BG.out 0).trans rfl),((bA BG.out 1).trans rfl),((bA BG.out 2).trans rfl),((bA BG.out 3).trans rfl),((bA BG.out 4).trans rfl)⟩ (fun hHeld=>?_);clear hK K;refine nS 44 ?_;refine cJ 9 ?_;refine cJ 10 ?_;refine cJ 11 ?_;exact sH bCw (hCont (wc1.heap.size,ws1,t1,o1,a1,n4,q3) _ ⟨HF4.out,BX4.out,HGx.out,HI4.out,HCh4.out,HR.out,hHeld⟩)
    ·skip
     have HGx:=aK (show b0≤w1a.heap.size∧gm<w1a.heap.size by have:=dN HF0.out.bx;have:=HF0.out.gm0;omega);have BX1:=aK (kU w1a (.cells #[.slice none 0 0,.int .i64 0,.int .i64 0,.int .i64 0,.slice none 0 0] 29 (0,0)));have HF1:=aK (HF0.out.below (bJ (bH _ _) (.cells #[.slice none 0 0,.int .i64 0,.int .i64 0,.int .i64 0,.slice none 0 0] 29 (0,0))));have HI1:=aK (HI0.out.alloc (.cells #[.slice none 0 0,.int .i64 0,.int .i64 0,.int .i64 0,.slice none 0 0] 29 (0,0)));have HCh1:=aK (HCh0.out.alloc (.cells #[.slice none 0 0,.int .i64 0,.int .i64 0,.int .i64 0,.slice none 0 0] 29 (0,0)));refine rH (w1:=?_) (v:=?_) (by rfl) rfl ?_ ?_;rotate_left 2
     ·go_simp
      constructor
      ·rfl
      ·rfl
     refine hK.out _ _ ⟨((bA (bQ HF0.out.bx (.cells #[.slice none 0 0,.int .i64 0,.int .i64 0,.int .i64 0,.slice none 0 0] 29 (0,0))) 0).trans rfl),((bA (bQ HF0.out.bx (.cells #[.slice none 0 0,.int .i64 0,.int .i64 0,.int .i64 0,.slice none 0 0] 29 (0,0))) 1).trans rfl),((bA (bQ HF0.out.bx (.cells #[.slice none 0 0,.int .i64 0,.int .i64 0,.int .i64 0,.slice none 0 0] 29 (0,0))) 2).trans rfl),((bA (bQ HF0.out.bx (.cells #[.slice none 0 0,.int .i64 0,.int .i64 0,.int .i64 0,.slice none 0 0] 29 (0,0))) 3).trans rfl),((bA (bQ HF0.out.bx (.cells #[.slice none 0 0,.int .i64 0,.int .i64 0,.int .i64 0,.slice none 0 0] 29 (0,0))) 4).trans rfl)⟩ (fun hHeld=>?_);clear hK K;refine nS 11 ?_;refine oS 4 40 (lA 15 4159) rfl rfl (fun K hK=>?_);refine gO Try.func63 #[.pointer (some ⟨g,0,none⟩),.int .i64 4] ?_;(with_reducible refine (jF _ g 4 w0 _ HI1.out bGx (by omega) (by omega)).mono ?_);rintro e wc2 ⟨n4,rfl,hn4,hi,hk⟩;refine ⟨_,rfl,?_⟩;have hst:=HI1.out.step hi hk;have HI2:=aK hi;have HCh2:=aK (HCh1.out.then_ hst);have HF2:=aK (HF1.out.ch hst (fun k hk=>by have:=HG.out;omega));have BX2:=aK (hst.blk BX1.out (by have:=HG.out;have:=HGx.out;omega));have HN4:=aK hn4;clear hn4;clear hst hi hk HI1 HCh1 HF1 BX1;refine hK.out _ _ ⟨((bA HF2.out.bx 0).trans rfl),((bA HF2.out.bx 1).trans rfl),((bA HF2.out.bx 2).trans rfl),((bA HF2.out.bx 3).trans rfl),((bA HF2.out.bx 4).trans rfl)⟩ (fun hHeld=>?_);clear hK K;refine nS 40 ?_;refine oS 6 42 (lA 15 4223) rfl rfl (fun K hK=>?_);refine gO Try.func63 #[.pointer (some ⟨g,0,none⟩),.int .i64 3] ?_;(with_reducible refine (jF _ g 3 w0 _ HI2.out bGx (by omega) (by omega)).mono ?_);rintro e wc3 ⟨q3,rfl,hq3,hi,hk⟩;refine ⟨_,rfl,?_⟩;have hst:=HI2.out.step hi hk;have HI3:=aK hi;have HCh3:=aK (HCh2.out.then_ hst);have HF3:=aK (HF2.out.ch hst (fun k hk=>by have:=HG.out;omega));have BX3:=aK (hst.blk BX2.out (by have:=HG.out;have:=HGx.out;omega));clear hq3;clear hst hi hk HI2 HCh2 HF2 BX2;refine hK.out _ _ ⟨((bA HF3.out.bx 0).trans rfl),((bA HF3.out.bx 1).trans rfl),((bA HF3.out.bx 2).trans rfl),((bA HF3.out.bx 3).trans rfl),((bA HF3.out.bx 4).trans rfl)⟩ (fun hHeld=>?_);clear hK K;refine nS 42 ?_;refine cJ 7 ?_;refine pD (i:=8) (N:=some 44) (lA 15 4607) rfl rfl (by kernel_rfl) (by decide) (fun K hK=>?_);obtain ⟨⟨ws1,y1,t1,o1,cd1,a1⟩,hR⟩: ∃R,bAp ws y t o cards c n4 (jJ (gI cs) c n4) (q3==0)=R:=⟨_,rfl⟩;have HMs:=aK (bCp HOk.out HCc.out (show 0≤n4∧n4≤6 by have:=HN4.out;omega));have HR:=aK (bAo HB.out.1 HMs.out hR);refine gO Try.func92 #[.slice A cs.length cA,.agg #[.slice (some ⟨gw,0,none⟩) ws.length cW,.int .i64 y,.int .i64 t,.int .i64 o,.slice (some ⟨gc,0,none⟩) cards.length cC],.int .i64 c,.int .i64 n4,.bool (q3==0)] ?_;(with_reducible refine (bEg b0 gw cW gc cC ws y t o cards A cA cs c n4 (q3==0) _ HF3.out.om HB.out.1 HMs.out (HC.out _ HCh3.out.keep) HCA.out hR).mono ?_);rintro e wc4 ⟨rfl,hO,hc⟩;refine ⟨_,rfl,?_⟩;have HF4:=aK (HF3.out.try_ hc hO HR.out.1);have HI4:=aK (HI3.out.ch hc (by have:=HF3.out.om.bw;have:=HG.out;omega) (fun k hk=>by have:=HF3.out.om.bw;have:=HG.out;omega));have HCh4:=aK (HCh3.out.trans hc (fun k hk=> .inr (by have:=HF3.out.om.bw;have:=HBW.out;omega)));have BG:=aK (show wc4.heap[gm]? =some (.cells #[.slice (some ⟨gw,0,none⟩) ws.length cW,.int .i64 y,.int .i64 t,.int .i64 o,.slice (some ⟨gc,0,none⟩) cards.length cC] 29 (0,0)) by have h_:=HF4.out.bx;rw [HR.out.1] at h_;exact h_);have BX4:=aK (hc.blk BX3.out (by have:=HF3.out.om.nbox BX3.out;omega));clear hO hc hR HMs HI3 HCh3 HF3 BX3;refine hK.out _ _ ⟨((bA BG.out 0).trans rfl),((bA BG.out 1).trans rfl),((bA BG.out 2).trans rfl),((bA BG.out 3).trans rfl),((bA BG.out 4).trans rfl)⟩ (fun hHeld=>?_);clear hK K;refine nS 44 ?_;refine cJ 9 ?_;refine cJ 10 ?_;refine cJ 11 ?_
     exact sH bCw (hCont (w1a.heap.size,ws1,t1,o1,a1,n4,q3) _ ⟨HF4.out,BX4.out,HGx.out,HI4.out,HCh4.out,HR.out,hHeld⟩)
   rintro ⟨gx,ws1,t1,o1,a1,n4,q3⟩ w4 ⟨hF,hX,hgx,hi,hc,hR,hHeld⟩;dsimp only at hF hX hgx hR;have HF4:=aK hF;have BX5:=aK hX;have HGx:=aK hgx;have HI4:=aK hi;have HCh4:=aK hc;have HR:=aK hR;clear hF hX hgx hi hc hR HF0 HI0 HCh0;have z0:=(bA BX5.out 0).trans rfl;have z1:=(bA BX5.out 1).trans rfl;have z2:=(bA BX5.out 2).trans rfl;have z3:=(bA BX5.out 3).trans rfl;have z4:=(bA BX5.out 4).trans rfl;have y0_:=bL BX5.out 0;have y1_:=bL BX5.out 1;have y2_:=bL BX5.out 2;have y3_:=bL BX5.out 3;have y4_:=bL BX5.out 4;refine sH (a':=?_) ?_ ?_;rotate_left
   ·simp only [zZ, Act.put, dU, fY, fT]
    rfl
   refine qL (i:=13) (N:=none) (lA 15 16383) rfl rfl (by kernel_rfl) (by decide) (fun K hK=>?_);refine vN (w1:=?_) (by rfl) rfl ?_ ?_;rotate_left
   ·go_simp
    rfl
   refine hK.out _ _ ?_;clear hK K;refine pS 14 12 (lA 15 32767) ?_;refine gT (by kernel_rfl) ?_;have HF9:=aK (show Fl b0 gz gm gw cW gc cC (nF w4 gx (.slice (some ⟨gw,0,none⟩) ws.length cW) (.int .i64 y) (.int .i64 t1) (.int .i64 o1) (.slice (some ⟨gc,0,none⟩) cards.length cC)) u7 u8 ws1 y t o cards pl rt from HF4.out.other BX5.out HGx.out.2 _ _ _ _ _);have BX9:=aK (show (nF w4 gx (.slice (some ⟨gw,0,none⟩) ws.length cW) (.int .i64 y) (.int .i64 t1) (.int .i64 o1) (.slice (some ⟨gc,0,none⟩) cards.length cC)).heap[gx]? =some (.cells #[.slice (some ⟨gw,0,none⟩) ws1.length cW,.int .i64 y,.int .i64 t1,.int .i64 o1,.slice (some ⟨gc,0,none⟩) cards.length cC] 29 (0,0)) by rw [HR.out.1];exact jH BX5.out);have hcx:Ch (fun k=>k=gx) w4 (nF w4 gx (.slice (some ⟨gw,0,none⟩) ws.length cW) (.int .i64 y) (.int .i64 t1) (.int .i64 o1) (.slice (some ⟨gc,0,none⟩) cards.length cC)):=(Ch.refl (fun k=>k=gx) w4).box5 (.inl rfl) _ _ _ _ _
   have HI9:=aK (HI4.out.ch hcx (by have:=HGx.out;have:=HG.out;omega) (fun k hk=>by have:=HGx.out;have:=HG.out;omega));have HCh9:=aK (HCh4.out.trans hcx (fun k hk=> .inr (by have:=HGx.out;have:=HBW.out;omega)));obtain ⟨w9,hw9⟩: ∃z,z=nF w4 gx (.slice (some ⟨gw,0,none⟩) ws.length cW) (.int .i64 y) (.int .i64 t1) (.int .i64 o1) (.slice (some ⟨gc,0,none⟩) cards.length cC):=⟨_,rfl⟩;rw [←hw9] at HF9 BX9 HI9 HCh9;unfold nF at hw9;rw [←hw9];clear hcx hw9 HF4 HI4 HCh4 BX5 z0 z1 z2 z3 z4 y0_ y1_ y2_ y3_ y4_;rcases HR.out.2 with ⟨ra,rw_,rt_,ro_⟩|⟨ra1,ra2,rB⟩
   ·subst ra rw_ rt_ ro_
    go_wp2
    go_roundw
    case rel=>exact ⟨x - 1,_,_,_,cards,pl,rt,by first|rfl|rw [q0],HF9,⟨HB.out.1,HB.out.2.1,HB.out.2.2⟩,⟨by have:=HX2.out;(try simp);omega⟩,⟨HI9.out.le (by have:=HX2.out;omega)⟩,HCh9⟩
    case measure=>have:=HX2.out;simp only [intOf];omega
   ·have da : (a1 == 0) = false := xP.mpr (by omega)
    have da':decide (a1=0)=false:=bM (by omega)
    have HA:=aK (show 1≤a1∧a1≤ws.length from ⟨ra1,ra2⟩);have HB1:=aK rB;have HW1:=aK HR.out.1;clear ra1 ra2 rB HR;have c0:=(bA BX9.out 0).trans rfl;have c1:=(bA BX9.out 1).trans rfl;have c2:=(bA BX9.out 2).trans rfl;have c3:=(bA BX9.out 3).trans rfl;have c4:=(bA BX9.out 4).trans rfl;obtain ⟨AP,cP,eP⟩:=cL HF9.out.hp;subst eP
    go_wp2_with (go_at_call 93;refine bF (fun hng=>?_))
    refine hng ?_;clear hng;refine (bHq b0 gw cW gc cC ws1 y t1 o1 cards _ g A cA cs a1 AP cP pl w0 _ HF9.out.om HI9.out bGx HOk.out (fun W' hk=>HC.out W' (Kept.keepG HCh9.out.keep hk (fun k hs=>by have:=HF9.out.om.bw;have:=HF9.out.om.bc;have:=HBW.out;omega))) HCA.out (HF9.out.plC HG.out.1) (cD HF9.out.hp).2.1 (by have:=HX2.out;omega) (by have:=HA.out;omega) (by have:=HA.out;have:=HW1.out;omega) (by have:=HB.out.2.2;have:=HB1.out.n1;have:=HB1.out.y1;omega) ⟨HB1.out.y0,HB1.out.y1⟩ HB1.out.cd (by have:=HF9.out.om.bw;have:=HF9.out.om.bc;have:=HG.out;omega) (by have:=HF9.out.om.bw;have:=HF9.out.om.bc;have:=HG.out;omega)).mono ?_;rintro e wA ⟨ws2,cards2,rfl,hl,hO,hi,hc⟩;have HLw:=aK hl;have HOA:=aK hO;have HIA:=aK hi;have HcA:=aK hc;have BMA:=aK (hc.blk HF9.out.bx (by have:=HF9.out.om.nbox HF9.out.bx;have:=HF9.out.gm0;have:=HG.out;omega));clear hl hO hi hc;clear c0 c1 c2 c3 c4;have c0:=(bA BMA.out 0).trans rfl;have c1:=(bA BMA.out 1).trans rfl;have c2:=(bA BMA.out 2).trans rfl;have c3:=(bA BMA.out 3).trans rfl;have c4:=(bA BMA.out 4).trans rfl;have f0:=bL BMA.out 0;have f1:=bL BMA.out 1;have f2:=bL BMA.out 2;have f3:=bL BMA.out 3;have f4:=bL BMA.out 4
    go_wp2_with ((with_reducible refine fX (t:=29) (p:=6) rfl ?_);refine bF (fun hng=>?_))
    refine hng ?_;clear hng;refine fN (t:=29) (p:=6) (v:=?vm2) (w1:=(nF wA gm (.slice (some ⟨gw,0,none⟩) ws1.length cW) (.int .i64 y) (.int .i64 t1) (.int .i64 o1) (.slice (some ⟨gc,0,none⟩) cards.length cC))) ?hg ?ho ?hn ?hr ?_
    (case ho=>rfl)
    (case hg=>rfl)
    (case hn=>rfl)
    (case hr=>first|(go_simp;done)|(go_simp;rfl))
    intro wB hw;have HFB:=aK (show Fl b0 gz gm gw cW gc cC wB u7 (.slice AP pl.length cP) ws2 y t1 o1 cards2 pl rt by rw [hw];exact HF9.out.stored HcA.out HOA.out HLw.out HG.out.1 t1 o1);have HIB:=aK (show xG _ w0 wB g by rw [hw];exact HIA.out.ch (Ch.box5 (Ch.refl (fun k=>k=gm) _) (.inl rfl) _ _ _ _ _) (by have:=HF9.out.gm0;have:=HG.out;omega) (fun k hk=>by have:=HF9.out.gm0;have:=HG.out;omega));have HChB:=aK (show Ch (fun k=>k=g) w wB by rw [hw];exact (HCh9.out.trans HcA.out (fun k hk=>by have:=HF9.out.om.bw;have:=HF9.out.om.bc;have:=HBW.out;omega)).box5 (.inr (by have:=HF9.out.gm0;have:=HBW.out;omega)) _ _ _ _ _);clear hw HF9 HIA HcA HOA HCh9 BMA HI9 BX9;clear c0 c1 c2 c3 c4;clear f0 f1 f2 f3 f4
    go_wp2_with ((with_reducible refine jK (b:= .append) (xs:= #[.tmp 55,.tmp 57]) rfl ?_);refine bF (fun hng=>?_))
    refine hng ?_;clear hng
    at_builtin
    refine sE (Kd.int .i64) (w0:=wB) b0 rfl (.tmp 55) (.tmp 57) 23 3 (.int .i64 0) 8 rfl Try.underlying23 qT rfl (by decide) (by omega) (.slice AP pl.length cP) pl a1 [.int .i64 a1] (fun k=>(b0≤k∧k≠gw)∧some k≠u7.ownBlock) (fun _=>False) rfl (by first|rfl|(go_simp;done)|(go_simp;rfl)) ?aP (fun _ hk=>hk.elim) ?aF ?aO ?aB ?aS ?aL ?_
    (case aP=>exact rfl)
    (case aB=>exact bH _ _)
    (case aF=>exact HFB.out.freshP)
    (case aO=>exact HFB.out.hp)
    (case aS=>have:=HFB.out.om.bw;omega)
    (case aL=>have:=HX2.out;omega)
    intro v8n wC ho hbn hgr hat;have HFC:=aK (HFB.out.appP hgr hat ho);have hrow: ∀k,((.slice AP pl.length cP):Value).ownBlock=some k→b0≤k:=fun k hk=>(HFB.out.hp.1 k hk).1.1
    have HIC:=aK (HIB.out.grown hgr (fun e=>by have:=hrow g e.symm;have:=HG.out;omega) (fun k e=>by have:=hrow k e;have:=HG.out;omega));have HChC:=aK (HChB.out.grown hgr (fun k e=> .inr (by have:=hrow k e;have:=HBW.out;omega)));clear ho hbn hgr hat hrow HFB HIB HChB
    go_wp2_with (go_at_call 63;refine bF (fun hng=>?_))
    refine hng ?_;clear hng;refine (jF _ g 3 w0 _ HIC.out bGx xH xH).mono ?_;rintro e wD ⟨r,rfl,hr,hi,hk⟩;have hst:=HIC.out.step hi hk;have HID:=aK hi;have HChD:=aK (HChC.out.then_ hst);have HFD:=aK (HFC.out.ch hst (fun k hk=>by have:=HG.out;omega));clear hst hi hk HIC HChC HFC;have HB2:=aK (HB1.out.len (show ws2.length=ws1.length from HLw.out.1) HLw.out.2);have HPl:=aK (show (∀z∈pl++[a1],0≤z∧z≤y+n)∧(ws2.length:Int)=y+n from ⟨fun z hz=>by rcases List.mem_append.mp hz with h|h;exact HB.out.2.1 z h;have:=HA.out;have:=HB.out.2.2;simp at h;omega,by have h1:=HB.out.2.2;have h2:=HW1.out;have h3:=HLw.out.1;omega⟩);by_cases cr:r=0
    ·subst cr
     clear hr
     go_wp2_with ((with_reducible refine jK (b:= .append) (xs:= #[.tmp 62,.tmp 64]) rfl ?_);refine bF (fun hng=>?_))
     refine hng ?_;clear hng
     at_builtin
     refine sE (Kd.int .i64) (w0:=wD) b0 rfl (.tmp 62) (.tmp 64) 23 3 (.int .i64 0) 8 rfl Try.underlying23 qT rfl (by decide) (by omega) u7 rt a1 [.int .i64 a1] (fun k=>(b0≤k∧k≠gw)∧some k≠v8n.ownBlock) (fun _=>False) rfl (by first|rfl|(go_simp;done)|(go_simp;rfl)) ?aP (fun _ hk=>hk.elim) ?aF ?aO ?aB ?aS ?aL ?_
     (case aP=>exact rfl)
     (case aB=>exact bH _ _)
     (case aF=>exact HFD.out.freshR)
     (case aO=>exact HFD.out.hr)
     (case aS=>have:=HFD.out.om.bw;omega)
     (case aL=>have:=HX2.out;omega)
     intro v7n wE ho hbn hgr hat;have HFE:=aK (HFD.out.appR hgr hat ho);have hrow: ∀k,(u7:Value).ownBlock=some k→b0≤k:=fun k hk=>(HFD.out.hr.1 k hk).1.1
     have HIE:=aK (HID.out.grown hgr (fun e=>by have:=hrow g e.symm;have:=HG.out;omega) (fun k e=>by have:=hrow k e;have:=HG.out;omega));have HChE:=aK (HChD.out.grown hgr (fun k e=> .inr (by have:=hrow k e;have:=HBW.out;omega)));clear ho hbn hgr hat hrow HFD HID HChD;go_wp2
     go_roundw
     case rel=>exact ⟨x - 1,ws2,t1,o1,cards2,pl++[a1],rt++[a1],by first|rfl|rw [q0],HFE,⟨HB2.out,HPl.out.1,HPl.out.2⟩,⟨by have:=HX2.out;(try simp);omega⟩,⟨HIE.out.le (by have:=HX2.out;omega)⟩,HChE⟩
     case measure=>have:=HX2.out;simp only [intOf];omega
    ·have dr : (r == 0) = false := xP.mpr cr
     have dr':decide (r=0)=false:=bM cr
     clear cr hr;go_wp2
     go_roundw
     case rel=>exact ⟨x - 1,ws2,t1,o1,cards2,pl++[a1],rt,by first|rfl|rw [q0],HFD,⟨HB2.out,HPl.out.1,HPl.out.2⟩,⟨by have:=HX2.out;(try simp);omega⟩,⟨HID.out.le (by have:=HX2.out;omega)⟩,HChD⟩
     case measure=>have:=HX2.out;simp only [intOf];omega
  ·have d0 : decide (0 < x) = false := bM cx
   have HX3:=aK (show 1≤pl.length∧pl.length≤25∧rt.length≤25∧0≤x by have:=HX.out;omega);clear cx HX;obtain ⟨gP,cP,eP,_,_,_⟩:=pG HF.out.hp HX3.out.1;subst eP;have HPl:=aK HB.out.2.1;have HBn:=aK (show Bnd cs ws y t o cards∧(ws.length:Int)=y+n from ⟨HB.out.1,HB.out.2.2⟩);clear HB
   go_wp2_with fail
   go_at_call 63;refine (jF _ g 8 w0 _ HI.out (by have:=HM.out;have:=HX3.out;omega) xH xH).mono ?_;rintro e w1 ⟨x2,rfl,hx2,hi,hk⟩;have hst:=HI.out.step hi hk;have HI1:=aK hi;have HCh1:=aK (HCh.out.then_ hst);have HF1:=aK (HF.out.ch hst (fun k hk=>by have:=HG.out;omega));have HX20:=aK hx2;clear hx2;clear hst hi hk HI HCh HF;go_wp2
   go_loopw [13] (fun v13 wr=> ∃(x:Int) (ws:List Int) (t o:Int) (cards:List Bool),v13= .int .i64 x∧Aside0 (Fl b0 gz gm gw cW gc cC wr u7 (.slice (some ⟨gP,0,none⟩) pl.length cP) ws y t o cards pl rt)∧Aside0 (Bnd cs ws y t o cards∧(ws.length:Int)=y+n)∧Aside0 (0≤x∧x≤8)∧Aside0 (xG (M+2300+100*(8 - x)) w0 wr g)∧Aside0 (Ch (fun k=>k=g) w wr)) (fun v13 _=>(intOf v13).toNat)
   case atStart=>exact ⟨x2,ws,t,o,cards,rfl,HF1,HBn,⟨by have:=HX20.out;omega⟩,⟨HI1.out.le (by have:=HX20.out;have:=HX3.out;omega)⟩,HCh1⟩
   case round=>
    clear HF1 HI1 HCh1 HX20 HBn;obtain ⟨x,ws,t,o,cards,rfl,HF,HBn,HX,HI,HCh⟩:=hrel;by_cases cx:0<x
    ·have d0 : decide (0 < x) = true := bD cx
     have HX2:=aK (show 0<x∧x≤8∧1≤pl.length∧pl.length≤25 by have:=HX.out;have:=HX3.out;omega);have q0:IntKind.i64.wrap (x - 1)=x - 1:=dD _ (by have:=HX.out;omega)
     clear cx HX;go_wp2;replace HI:=aK HI.out.drew;replace HCh:=aK HCh.out.drew;replace HF:=aK (HF.out.ch (Ch.drew (Ch.refl (fun _=>False) _)) (fun _ h=>h.elim));refine sT 13 (S:=fun w'=>w'.cell? ⟨gm,0,none⟩=some (.slice (some ⟨gw,0,none⟩) ws.length cW)∧w'.cell? ⟨gm,1,none⟩=some (.int .i64 y)∧w'.cell? ⟨gm,2,none⟩=some (.int .i64 t)∧w'.cell? ⟨gm,3,none⟩=some (.int .i64 o)∧w'.cell? ⟨gm,4,none⟩=some (.slice (some ⟨gc,0,none⟩) cards.length cC)) (ds:=[12]) ⟨((bA HF.out.bx 0).trans rfl),((bA HF.out.bx 1).trans rfl),((bA HF.out.bx 2).trans rfl),((bA HF.out.bx 3).trans rfl),((bA HF.out.bx 4).trans rfl)⟩ (fun hHeld=>?_);generalize wr.drew=w1a at HF HI HCh hHeld ⊢;refine cJ 0 ?_;refine cJ 1 ?_;refine cJ 3 ?_;refine cJ 4 ?_;refine cJ 5 ?_;refine cJ 6 ?_;refine cJ 10 ?_;refine tS 2 74 (lA 13 1151) rfl rfl (by kernel_rfl) hHeld qV ?_;refine oS 7 79 (lA 13 1279) rfl rfl (fun K hK=>?_);refine gO Try.func63 #[.pointer (some ⟨g,0,none⟩),.int .i64 (pl.length:Int)] ?_;(with_reducible refine (jF _ g pl.length w0 _ HI.out bGx (by have:=HX2.out;omega) (by have:=HX2.out;omega)).mono ?_);rintro e w2 ⟨vp,rfl,hvp,hi,hk⟩;refine ⟨_,rfl,?_⟩;have hst:=HI.out.step hi hk;have HI2:=aK hi;have HCh2:=aK (HCh.out.then_ hst);have HF2:=aK (HF.out.ch hst (fun k hk=>by have:=HG.out;omega));have p5:=bO hvp.1;have p6:=bO hvp.2;have hcell:=(kO (enc:=Value.int .i64) (h1:=fun _=>rfl) 0 HF2.out.hp vp hvp.1 hvp.2).1;obtain ⟨el,hel⟩: ∃z,z=kK 0 pl vp:=⟨_,rfl⟩;rw [←hel] at hcell;have HE:=aK (show 0≤el∧el≤y+n from HPl.out el (by rw [hel];unfold kK;rw [bP,bT (by omega)];exact jZ _));clear hst hi hk hel hvp HI HCh HF;refine hK.out _ _ ⟨((bA HF2.out.bx 0).trans rfl),((bA HF2.out.bx 1).trans rfl),((bA HF2.out.bx 2).trans rfl),((bA HF2.out.bx 3).trans rfl),((bA HF2.out.bx 4).trans rfl)⟩ (fun hHeld=>?_);clear hK K;refine nS 79 ?_;refine cJ 8 ?_;refine pD (i:=9) (N:=some 81) (lA 13 2047) rfl rfl (by kernel_rfl) (by decide) (fun K hK=>?_);refine rH (w1:=?_) (v:=?_) (by rfl) rfl ?_ ?_;rotate_left 2
     ·go_simp
      constructor
      ·rfl
      ·rfl
     refine hK.out _ _ ⟨hHeld.1,hHeld.2⟩ (fun hHeld=>?_);clear hK K;refine nS 81 ?_;refine oS 11 83 (lA 13 4095) rfl rfl (fun K hK=>?_);refine gO Try.func93 #[.pointer (some ⟨g,0,none⟩),.slice A cs.length cA,.agg #[.slice (some ⟨gw,0,none⟩) ws.length cW,.int .i64 y,.int .i64 t,.int .i64 o,.slice (some ⟨gc,0,none⟩) cards.length cC],.int .i64 el,.slice (some ⟨gP,0,none⟩) pl.length cP] ?_;(with_reducible refine (bHq b0 gw cW gc cC ws y t o cards _ g A cA cs el (some ⟨gP,0,none⟩) cP pl w0 _ HF2.out.om HI2.out bGx HOk.out (fun W' hk=>HC.out W' (Kept.keepG HCh2.out.keep hk (fun k hs=>by have:=HF2.out.om.bw;have:=HF2.out.om.bc;have:=HBW.out;omega))) HCA.out (HF2.out.plC HG.out.1) (cD HF2.out.hp).2.1 (by have:=HX2.out;omega) HE.out.1 (by have:=HE.out;have:=HBn.out.2;omega) (by have:=HBn.out.1.n1;have:=HBn.out.1.y1;omega) ⟨HBn.out.1.y0,HBn.out.1.y1⟩ HBn.out.1.cd (by have:=HF2.out.om.bw;have:=HF2.out.om.bc;have:=HG.out;omega) (by have:=HF2.out.om.bw;have:=HF2.out.om.bc;have:=HG.out;omega)).mono ?_);rintro e w3 ⟨ws2,cards2,rfl,hl,hO,hi,hc⟩;refine ⟨_,rfl,?_⟩;have HLw:=aK hl;have HOA:=aK hO;have HIA:=aK hi;have HcA:=aK hc;have BMA:=aK (hc.blk HF2.out.bx (by have:=HF2.out.om.nbox HF2.out.bx;have:=HF2.out.gm0;have:=HG.out;omega));clear hl hO hi hc hcell p5 p6;have c0:=(bA BMA.out 0).trans rfl;have c1:=(bA BMA.out 1).trans rfl;have c2:=(bA BMA.out 2).trans rfl;have c3:=(bA BMA.out 3).trans rfl;have c4:=(bA BMA.out 4).trans rfl;have f0:=bL BMA.out 0;have f1:=bL BMA.out 1;have f2:=bL BMA.out 2;have f3:=bL BMA.out 3;have f4:=bL BMA.out 4;refine hK.out _ _ ⟨c0,c1,c2,c3,c4⟩ (fun hHeld=>?_);clear hK K;refine nS 83 ?_;refine qL (i:=12) (N:=none) (lA 13 8191) rfl rfl (by kernel_rfl) (by decide) (fun K hK=>?_);refine vN (w1:=?_) (by rfl) rfl ?_ ?_;rotate_left
     ·go_simp
      rfl
     refine hK.out _ _ ?_;clear hK K;refine gT (by kernel_rfl) ?_;have HF9:=aK (show Fl b0 gz gm gw cW gc cC (nF w3 gm (.slice (some ⟨gw,0,none⟩) ws.length cW) (.int .i64 y) (.int .i64 t) (.int .i64 o) (.slice (some ⟨gc,0,none⟩) cards.length cC)) u7 (.slice (some ⟨gP,0,none⟩) pl.length cP) ws2 y t o cards2 pl rt from HF2.out.stored HcA.out HOA.out HLw.out HG.out.1 t o);have HI9:=aK (HIA.out.ch (w1:=nF w3 gm (.slice (some ⟨gw,0,none⟩) ws.length cW) (.int .i64 y) (.int .i64 t) (.int .i64 o) (.slice (some ⟨gc,0,none⟩) cards.length cC)) (Ch.box5 (Ch.refl (fun k=>k=gm) _) (.inl rfl) _ _ _ _ _) (by have:=HF2.out.gm0;have:=HG.out;omega) (fun k hk=>by have:=HF2.out.gm0;have:=HG.out;omega));have HCh9:=aK (show Ch (fun k=>k=g) w (nF w3 gm (.slice (some ⟨gw,0,none⟩) ws.length cW) (.int .i64 y) (.int .i64 t) (.int .i64 o) (.slice (some ⟨gc,0,none⟩) cards.length cC)) from (HCh2.out.trans HcA.out (fun k hk=>by have:=HF2.out.om.bw;have:=HF2.out.om.bc;have:=HBW.out;omega)).box5 (.inr (by have:=HF2.out.gm0;have:=HBW.out;omega)) _ _ _ _ _);obtain ⟨w9,hw9⟩: ∃z,z=nF w3 gm (.slice (some ⟨gw,0,none⟩) ws.length cW) (.int .i64 y) (.int .i64 t) (.int .i64 o) (.slice (some ⟨gc,0,none⟩) cards.length cC):=⟨_,rfl⟩;rw [←hw9] at HF9 HI9 HCh9;unfold nF at hw9;rw [←hw9];clear hw9 HF2 HI2 HCh2 HOA HIA HcA BMA c0 c1 c2 c3 c4 f0 f1 f2 f3 f4;go_wp2
     go_roundw
     case rel=>exact ⟨x - 1,ws2,t,o,cards2,by first|rfl|rw [q0],HF9,⟨HBn.out.1.len HLw.out.1 HLw.out.2,by have:=HLw.out.1;have:=HBn.out.2;omega⟩,⟨by have:=HX2.out;omega⟩,⟨HI9.out.le (by have:=HX2.out;omega)⟩,HCh9⟩
     case measure=>have:=HX2.out;simp only [intOf];omega
    ·have d0 : decide (0 < x) = false := bM cx
     have HXx:=aK HX.out;clear cx HX
     go_wp2_with fail
     go_at_call 63;refine (jF _ g 3 w0 _ HI.out (by have:=HM.out;have:=HXx.out;omega) xH xH).mono ?_;rintro e w1 ⟨x3,rfl,hx3,hi,hk⟩;have hst:=HI.out.step hi hk;have HI1:=aK hi;have HCh1:=aK (HCh.out.then_ hst);have HF1:=aK (HF.out.ch hst (fun k hk=>by have:=HG.out;omega));have HX30:=aK hx3;clear hx3;clear hst hi hk HI HCh HF;go_wp2
     go_loopw [7,14] (fun v7 v14 wr=> ∃(x:Int) (rt:List Int),v14= .int .i64 x∧Aside0 (Fl b0 gz gm gw cW gc cC wr v7 (.slice (some ⟨gP,0,none⟩) pl.length cP) ws y t o cards pl rt)∧Aside0 (0≤x∧x≤3∧rt.length+x≤30)∧Aside0 (xG (M+3300+2*(3 - x)) w0 wr g)∧Aside0 (Ch (fun k=>k=g) w wr)) (fun _ v14 _=>(intOf v14).toNat)
     case atStart=>exact ⟨x3,rt,rfl,HF1,⟨by have:=HX30.out;have:=HX3.out;omega⟩,⟨HI1.out.le (by have:=HX30.out;have:=HXx.out;omega)⟩,HCh1⟩
     case round=>
      clear HF1 HI1 HCh1 HX30;obtain ⟨x,rt,rfl,HF,HX,HI,HCh⟩:=hrel;by_cases cx:0<x
      ·have d0 : decide (0 < x) = true := bD cx
       have HX2:=aK (show 0<x∧x≤3∧1≤pl.length∧pl.length≤25∧rt.length+x≤30 by have:=HX.out;have:=HX3.out;omega);have q0:IntKind.i64.wrap (x - 1)=x - 1:=dD _ (by have:=HX.out;omega)
       clear cx HX
       go_wp2_with fail
       go_at_call 63;refine (jF _ g pl.length w0 _ HI.out bGx (by have:=HX2.out;omega) (by have:=HX2.out;omega)).mono ?_;rintro e wD ⟨vp,rfl,hvp,hi,hk⟩;have hst:=HI.out.step hi hk;have HID:=aK hi;have HChD:=aK (HCh.out.then_ hst);have HFD:=aK (HF.out.ch hst (fun k hk=>by have:=HG.out;omega));have p5:=bO hvp.1;have p6:=bO hvp.2;clear hst hi hk HI HCh HF;have hcell:=(kO (enc:=Value.int .i64) (h1:=fun _=>rfl) 0 HFD.out.hp vp hvp.1 hvp.2).1;obtain ⟨el,hel⟩: ∃z,z=kK 0 pl vp:=⟨_,rfl⟩;rw [←hel] at hcell;clear hel hvp
       go_wp2_with ((with_reducible refine jK (b:= .append) (xs:= #[.tmp 90,.tmp 98]) rfl ?_);refine bF (fun hng=>?_))
       refine hng ?_;clear hng
       at_builtin
       refine sE (Kd.int .i64) (w0:=wD) b0 rfl (.tmp 90) (.tmp 98) 23 3 (.int .i64 0) 8 rfl Try.underlying23 qT rfl (by decide) (by omega) u7 rt el [.int .i64 el] (fun k=>(b0≤k∧k≠gw)∧some k≠(Value.slice (some ⟨gP,0,none⟩) pl.length cP).ownBlock) (fun _=>False) rfl (by first|rfl|(go_simp;done)|(go_simp;rfl)) ?aP (fun _ hk=>hk.elim) ?aF ?aO ?aB ?aS ?aL ?_
       (case aP=>exact rfl)
       (case aB=>exact bH _ _)
       (case aF=>exact HFD.out.freshR)
       (case aO=>exact HFD.out.hr)
       (case aS=>have:=HFD.out.om.bw;omega)
       (case aL=>have:=HX2.out;omega)
       intro v7n wE ho hbn hgr hat;have HFE:=aK (HFD.out.appR hgr hat ho);have hrow: ∀k,(u7:Value).ownBlock=some k→b0≤k:=fun k hk=>(HFD.out.hr.1 k hk).1.1
       have HIE:=aK (HID.out.grown hgr (fun e=>by have:=hrow g e.symm;have:=HG.out;omega) (fun k e=>by have:=hrow k e;have:=HG.out;omega));have HChE:=aK (HChD.out.grown hgr (fun k e=> .inr (by have:=hrow k e;have:=HBW.out;omega)));clear ho hbn hgr hat hrow HFD HID HChD;clear hcell p5 p6;go_wp2
       go_roundw
       case rel=>exact ⟨x - 1,rt++[el],by first|rfl|rw [q0],HFE,⟨by have:=HX2.out;simp;omega⟩,⟨HIE.out.le (by have:=HX2.out;omega)⟩,HChE⟩
       case measure=>have:=HX2.out;simp only [intOf];omega
      ·have d0 : decide (0 < x) = false := bM cx
       have HX4:=aK (show rt.length≤60∧0≤x by have:=HX.out;omega);clear cx HX;have c0:=(bA HF.out.bx 0).trans rfl;have c1:=(bA HF.out.bx 1).trans rfl;have c2:=(bA HF.out.bx 2).trans rfl;have c3:=(bA HF.out.bx 3).trans rfl;have c4:=(bA HF.out.bx 4).trans rfl;have z0:=(bA HF.out.bz 0).trans rfl;have z1:=(bA HF.out.bz 1).trans rfl;have z2:=(bA HF.out.bz 2).trans rfl;have z3:=(bA HF.out.bz 3).trans rfl;have z4:=(bA HF.out.bz 4).trans rfl;have y_0:=bL HF.out.bz 0;have y_1:=bL HF.out.bz 1;have y_2:=bL HF.out.bz 2;have y_3:=bL HF.out.bz 3;have y_4:=bL HF.out.bz 4;obtain ⟨A7,c7,e7⟩:=cL HF.out.hr;subst e7;go_wp2;refine fM (tJ rfl _ _ gz 29 #[.slice (some ⟨gw,0,none⟩) ws.length cW,.int .i64 y,.int .i64 t,.int .i64 o,.slice (some ⟨gc,0,none⟩) cards.length cC] (0,0) _ rfl (jH HF.out.bz) Try.underlying29 rfl (by kernel_rfl)) rfl ?_;exact ⟨gw,cW,gc,cC,ws,y,t,o,cards,_,rt,rfl,HBn.out.1,HX4.out.1,by rw [←HBW.out];exact HF.out.om.ch (Ch.box5 (Ch.refl (fun k=>k=gz) _) (.inl rfl) _ _ _ _ _) (HF.out.om.nbox HF.out.bz).1 (HF.out.om.nbox HF.out.bz).2,by rw [←HBW.out];exact cI (pC HF.out.hr HF.out.bz (by decide)) (fun k hk=>hk.1.2),(HI.out.ch (Ch.box5 (Ch.refl (fun k=>k=gz) _) (.inl rfl) _ _ _ _ _) (by have:=HF.out.gm0;have:=HG.out;omega) (fun k hk=>by have:=HF.out.gm0;have:=HG.out;omega)).le (by have:=HX4.out;omega),HCh.out.box5 (.inr (by have:=HF.out.gm0;have:=HBW.out;omega)) _ _ _ _ _⟩
def OffP (M:Int) (w0 w:World) (g:Nat) (e:Ending) (w':World):Prop:= ∃(A:Option Addr) (c:Nat) (cs:Cs),e= .returned (.slice A cs.length c)∧(1≤cs.length∧cs.length≤9∧cs.length≤c)∧(∀x∈cs,x.f1.length≤3)∧Kd.V tU 53 w' w.heap.size (fun k_=>w.heap.size≤k_) (.slice A cs.length c) cs∧xG (M+60) w0 w' g∧gZ w w' g none
theorem bCn {M L:Int} {w0 w w':World} {g b0:Nat} (hb0:b0=w.heap.size) {v:Value} {cs:Cs} (hS:Kd.S tU 53 w' b0 (fun k_=>b0≤k_) v cs) (hg:g<b0) (h1:1≤cs.length∧cs.length≤9) (hf: ∀x∈cs,x.f1.length≤3) (hi:xG L w0 w' g) (hL:L≤M+60) (hk:gZ w w' g none):OffP M w0 w g (.returned v) w':=by
 subst hb0;obtain ⟨A,c,rfl,hc,_⟩:=Kd.S_reads hS;exact ⟨A,c,cs,rfl,⟨h1.1,h1.2,hc⟩,hf,Kd.S_V hS,hi.le hL,hk⟩
theorem bRm {M L:Int} {w0 w w':World} {g b0:Nat} (hb0:b0=w.heap.size) {v:Value} {cs:Cs} (hS:Kd.V tU 53 w' b0 (fun k_=>b0≤k_) v cs) (hg:g<b0) (h1:1≤cs.length∧cs.length≤9) (hf: ∀x∈cs,x.f1.length≤3) (hi:xG L w0 w' g) (hL:L≤M+60) (hk:gZ w w' g none):OffP M w0 w g (.returned v) w':=by
 subst hb0;obtain ⟨A,c,rfl,hc,_⟩:=id hS;exact ⟨A,c,cs,rfl,⟨h1.1,h1.2,hc⟩,hf,hS,hi.le hL,hk⟩
theorem bFa {W:World} {b0 gs cap:Nat} {cs:Cs} {ok:Nat→Prop} (hS:Kd.S tU 53 W b0 ok (.slice (some ⟨gs,0,none⟩) cs.length cap) cs) {j:Nat} (hj:j<cs.length): ∃(x:S53) (u:Value) (oki:Nat→Prop),cs[j]? =some x∧W.cell? ⟨gs,j*2,none⟩=some (.int .i64 x.f0)∧W.cell? ⟨gs,j*2+1,none⟩=some u∧W.frozen? ⟨gs,j*2,none⟩=false∧W.frozen? ⟨gs,j*2+1,none⟩=false∧Kd.R (Kd.int .i64) 3 W b0 oki u x.f1∧(∀k,oki k→ok k∧k≠gs)∧
  Kd.H tU 53 W b0 ok (.slice (some ⟨gs,0,none⟩) cs.length cap) cs (j:Int) oki [.int .i64 x.f0,u]∧(∀y:Int,Kd.S tU 53 (W.setCell ⟨gs,j*2,none⟩ (.int .i64 y)) b0 ok (.slice (some ⟨gs,0,none⟩) cs.length cap) (cs.set j ⟨y,x.f1⟩))∧Kd.S tU 53 (W.setCell ⟨gs,j*2+1,none⟩ (.slice none 0 0)) b0 ok (.slice (some ⟨gs,0,none⟩) cs.length cap) (cs.set j ⟨x.f0,[]⟩):=by
 obtain ⟨oki,cc,hcl,hM,hcc,hoki,hH⟩:=Kd.S_lend hS z53 (j:Int) (by omega) (by omega);obtain ⟨x,hx⟩: ∃x,x=cs.getD ((j:Int)).toNat z53:=⟨_,rfl⟩;rw [←hx] at hM;obtain ⟨u,hc1,hr1⟩:=bPt hM;subst hc1;obtain ⟨hc0,hfr⟩:=Kd.H_at hH (by omega) (by omega);refine ⟨x,u,oki,?_,hc0 0 _ rfl,hc0 1 _ rfl,hfr 0,hfr 1,hr1,hoki,hH,fun y=>?_,?_⟩
 ·rw [hx,dF,bP,bT hj];rfl
 ·exact (Kd.S_seg0 (seg:=[.int .i64 y]) (j:=0) (x':=⟨y,x.f1⟩) hH (by omega) (by omega) (show 0+1≤2 by omega) (bAv W b0 oki ⟨y,x.f1⟩ hr1) (fun _ hk=>hk)).1
 ·exact (Kd.S_seg0 (seg:=[.slice none 0 0]) (j:=1) (x':=⟨x.f0,[]⟩) hH (by omega) (by omega) (show 1+1≤2 by omega) (bAv W b0 oki ⟨x.f0,[]⟩ (mI _ _ _ _ _)) (fun _ hk=>hk)).1
theorem bGs {cs:Cs} (h: ∀x∈cs,x.f1.length≤3) {j:Nat} {y:S53} (hy:y.f1.length≤3): ∀x∈cs.set j y,x.f1.length≤3:=fun x hx=>by
 rcases List.mem_or_eq_of_mem_set hx with z|z
 ·exact h x z
 ·rw [z];exact hy
theorem off_any (M:Int) (g:Nat) (w0 w:World) (h:xG M w0 w g) (hM:M≤600000):Calls Try.prog 64 #[.pointer (some ⟨g,0,none⟩)] w (OffP M w0 w g):=by
 obtain ⟨b0,hb0⟩: ∃b,b=w.heap.size:=⟨_,rfl⟩;have HG:=aK (show g<b0 by rw [hb0];exact h.lt);have HG0:=aK (show w0.heap.size≤b0 by have:=h.ge;have:=HG.out;omega);have HBW:=aK hb0;have HI:=aK h;have HM:=aK hM;clear h hb0 hM;go_enter Try.func64,Try.ntmps64
 go_wp2_with fail
 go_at_call 61;refine (bGf M g w0 _ HI.out zM).mono ?_;rintro e w1 ⟨v,cs,rfl,⟨hok,h2⟩,hS,hi,hk⟩;have hl:=sL hok;have HF:=aK (show∀x∈cs,x.f1.length≤3 from fun x hx=>by have:=h2 x hx;omega);have HF2:=aK h2;have HL:=aK hl;obtain ⟨gs,cap,rfl,hgs,_,_⟩:=Kd.S_form hS (by omega);have HS1:=aK (show Kd.S tU 53 w1 b0 (fun k_=>b0≤k_) (.slice (some ⟨gs,0,none⟩) cs.length cap) cs by rw [HBW.out];exact Kd.S_mono (Kd.S_bound hS) (fun k_ hk_=>hk_.2.1));have HI1:=aK hi;have HK1:=aK hk;have HGS:=aK (show b0≤gs by rw [HBW.out];exact hgs);clear hok h2 hl hS hi hk hgs HI
 go_wp2_with fail
 go_at_call 63;refine (jF _ g 20 w0 _ HI1.out zM xH xH).mono ?_;rintro e w2 ⟨q,rfl,hq,hi,hk⟩;have HI2:=aK hi;have HK2:=aK (gZ.trans HK1.out hk (.inl rfl));have HS2:=aK (Kd.S_keep HS1.out hk (fun k_ hk_=>by have:=HG.out;omega));clear hi hk HI1 HK1 HS1;by_cases c:0<q
 ·have d : decide (0 < q) = true := bD c
  clear c hq;go_wp2;go_ret;exact bCn HBW.out HS2.out HG.out (by have:=HL.out;(try simp);omega) HF.out HI2.out (by omega) HK2.out
 ·have d : decide (0 < q) = false := bM c
  clear c hq
  go_wp2_with fail
  go_at_call 63;refine (jF _ g cs.length w0 _ HI2.out zM xH xH).mono ?_;rintro e w3 ⟨k,rfl,hk0,hi,hk⟩;have HI3:=aK hi;have HK3:=aK (gZ.trans HK2.out hk (.inl rfl));have HS3:=aK (Kd.S_keep HS2.out hk (fun k_ hk_=>by have:=HG.out;omega));clear hi hk HI2 HK2 HS2;obtain ⟨j,rfl⟩:=Int.eq_ofNat_of_zero_le hk0.1;have HJ:=aK (show j<cs.length by have:=hk0.2;omega);clear hk0
  go_wp2_with fail
  go_at_call 63;refine (jF _ g 6 w0 _ HI3.out zM xH xH).mono ?_;rintro e w4 ⟨s,rfl,hs,hi,hk⟩;have HI4:=aK hi;have HK4:=aK (gZ.trans HK3.out hk (.inl rfl));have HS4:=aK (Kd.S_keep HS3.out hk (fun k_ hk_=>by have:=HG.out;omega));clear hi hk HI3 HK3 HS3;have hs6:s=0∨s=1∨s=2∨s=3∨s=4∨s=5:=by omega
  clear hs;have p1:=bO (show (0:Int)≤(j:Int) by omega);have p2:=bO (show (j:Int)<(cs.length:Int) by have:=HJ.out;omega);rcases hs6 with rfl|rfl|rfl|rfl|rfl|rfl
  ·skip
   go_wp2_with fail
   go_at_call 63;refine (jF _ g 7 w0 _ HI4.out zM xH xH).mono ?_;rintro e w5 ⟨y,rfl,hy,hi,hk⟩;have HI5:=aK hi;have HK5:=aK (gZ.trans HK4.out hk (.inl rfl));have HS5:=aK (Kd.S_keep HS4.out hk (fun k_ hk_=>by have:=HG.out;omega));clear hi hk HI4 HK4 HS4;obtain ⟨x,u,oki,hxj,c0,c1,f0,f1,hr,hoki,hH,hp0,hp1⟩:=bFa HS5.out HJ.out;have q1:IntKind.i64.wrap (y - 1)=y - 1:=dD _ (by omega)
   have HP0:=aK hp0;have HX:=aK (show x.f1.length≤3 from HF.out x (List.mem_of_getElem? hxj));clear hy hxj hr hoki hH hp0 hp1;go_wp2;go_ret;exact bCn HBW.out (HP0.out _) HG.out (by have:=HL.out;(try simp);omega) (bGs HF.out HX.out) (xG.far HI5.out (p:=⟨gs,j*2,none⟩) (by have:=HG.out;have:=HGS.out;show g≠gs;omega) (by have:=HG0.out;have:=HGS.out;show _≤gs;omega) _) (by omega) (yY HK5.out (p:=⟨gs,j*2,none⟩) (by rw [←HBW.out];exact HGS.out) _)
  ·skip
   obtain ⟨x,u,oki,hxj,c0,c1,f0,f1,hr,hoki,hH,hp0,hp1⟩:=bFa HS4.out HJ.out;obtain ⟨A2,c2,rfl⟩:=cL hr;have HH:=aK hH;have HR:=aK hr;have HOk:=aK hoki;have HX:=aK (show x.f1.length≤2 from HF2.out x (List.mem_of_getElem? hxj));have HGL:=aK (show gs<w4.heap.size from Kd.S_lt HS4.out gs (by simp [Value.ownBlock]));clear hxj hr hoki hH hp0 hp1 c0 f0 f1 HS4;go_wp2;replace HH:=aK (Kd.H_drew HH.out);replace HR:=aK (dC HR.out);replace HI4:=aK HI4.out.drew;replace HK4:=aK (nD HK4.out);replace HGL:=aK (show gs<w4.drew.heap.size from HGL.out);have HW4:=aK (gZ.refl w4.drew g none);refine sT 17 (S:=fun w'=>w'.cell? ⟨gs,j*2+1,none⟩=some (.slice A2 x.f1.length c2)) (ds:=[16]) ((by exact c1)) (fun hHeld=>?_);generalize w4.drew=w4a at HH HR HI4 HK4 HGL HW4 hHeld ⊢;refine cJ 0 ?_;refine cJ 1 ?_;refine cJ 2 ?_;refine cJ 3 ?_;refine cJ 4 ?_;refine cJ 5 ?_;refine cJ 8 ?_;refine tS 6 38 (lA 17 383) rfl rfl (by kernel_rfl) hHeld (by intro w' s0;go_simp;with_reducible rfl) ?_;refine bJi (σ:=Nat×Int) 7 (lA 17 1023) (fun s=>[(39,.slice (some ⟨s.1,0,none⟩) 4 4),(41,.int .i64 s.2)]) (fun s w'=>(0≤s.2∧s.2<4)∧w'.heap[s.1]? =some (.cells #[.int .i64 0,.int .i64 2,.int .i64 13,.int .i64 5] 3 (0,0))∧xG (M+40+1+1+1+1) w0 w' g∧gZ w w' g none∧gZ w4a w' g none∧Kd.H tU 53 w' b0 (fun k_=>b0≤k_) (.slice (some ⟨gs,0,none⟩) cs.length cap) cs (j:Int) oki [.int .i64 x.f0,.slice A2 x.f1.length c2]∧(w'.cell? ⟨gs,j*2+1,none⟩=some (.slice A2 x.f1.length c2))) ?_ ?_;rotate_left
   ·intro hCont
    refine bIh (i:=7) (j:=9) (Ni:=some 39) (Nj:=some 41) (lA 17 511) (lA 17 895) rfl rfl rfl rfl (by kernel_rfl) (by decide) (by decide) (fun K hK=>?_) (fun K hK=>?_)
    ·skip
     refine rH (w1:=?_) (v:=?_) (by rfl) rfl ?_ ?_;rotate_left 2
     ·go_simp
      constructor
      ·rfl
      ·rfl
     refine hK.out _ _ ((bU (bJ (bH _ _) _) hHeld)) (fun hHeld=>?_);clear hK K;refine nS 39 ?_;refine oS 9 41 (lA 17 1023) rfl rfl (fun K hK=>?_);refine gO Try.func63 #[.pointer (some ⟨g,0,none⟩),.int .i64 4] ?_;(with_reducible refine (jF _ g 4 w0 _ (HI4.out.alloc (.cells #[.int .i64 0,.int .i64 2,.int .i64 13,.int .i64 5] 3 (0,0))) zM (by omega) (by omega)).mono ?_);rintro e w5 ⟨y,rfl,hy,hi,hk⟩;refine ⟨_,rfl,?_⟩;have HL5:=aK (gZ.blk hk (kU w4a (.cells #[.int .i64 0,.int .i64 2,.int .i64 13,.int .i64 5] 3 (0,0))) (by have:=HG.out;have:=HGL.out;have:=HGS.out;omega) (by simp));have HH5:=aK (Kd.H_keep (Kd.H_alloc HH.out (.cells #[.int .i64 0,.int .i64 2,.int .i64 13,.int .i64 5] 3 (0,0))) hk (fun k_ hk_=>by have:=HG.out;omega));have HK5:=aK (gZ.trans (kM HK4.out (.cells #[.int .i64 0,.int .i64 2,.int .i64 13,.int .i64 5] 3 (0,0))) hk (.inl rfl));have HW5:=aK (gZ.trans (kM HW4.out (.cells #[.int .i64 0,.int .i64 2,.int .i64 13,.int .i64 5] 3 (0,0))) hk (.inl rfl));have HI5:=aK hi;have hy5:=aK hy;clear hi hk hy;refine hK.out _ _ (((Kd.H_at HH5.out (by omega) (by have:=HJ.out;omega)).1 1 _ rfl)) (fun hHeld=>?_);clear hK K;refine nS 41 ?_;exact sH bCw (hCont (w4a.heap.size,y) _ ⟨hy5.out,HL5.out,HI5.out,HK5.out,HW5.out,HH5.out,hHeld⟩)
    ·skip
     refine gO Try.func63 #[.pointer (some ⟨g,0,none⟩),.int .i64 4] ?_;(with_reducible refine (jF _ g 4 w0 _ HI4.out zM (by omega) (by omega)).mono ?_);rintro e w5 ⟨y,rfl,hy,hi,hk⟩;refine ⟨_,rfl,?_⟩;have HH5:=aK (Kd.H_keep HH.out hk (fun k_ hk_=>by have:=HG.out;omega));have HK5:=aK (gZ.trans HK4.out hk (.inl rfl));have HW5:=aK (gZ.trans HW4.out hk (.inl rfl));have HI5:=aK hi;have hy5:=aK hy;clear hi hk hy;refine hK.out _ _ (((Kd.H_at HH5.out (by omega) (by have:=HJ.out;omega)).1 1 _ rfl)) (fun hHeld=>?_);clear hK K;refine nS 41 ?_;refine pD (i:=7) (N:=some 39) (lA 17 1023) rfl rfl (by kernel_rfl) (by decide) (fun K hK=>?_);refine rH (w1:=?_) (v:=?_) (by rfl) rfl ?_ ?_;rotate_left 2
     ·go_simp
      constructor
      ·rfl
      ·rfl
     refine hK.out _ _ ((bU (bJ (bH _ _) _) hHeld)) (fun hHeld=>?_);clear hK K;refine nS 39 ?_;exact sH bCw (hCont (w5.heap.size,y) _ ⟨hy5.out,kU w5 _,HI5.out.alloc _,kM HK5.out _,kM HW5.out _,Kd.H_alloc HH5.out _,hHeld⟩)
   rintro ⟨gl,y⟩ w5 ⟨hy,hl,hi,hk,hkw,hH,hHeld⟩;have HW5:=aK hkw;have HI5:=aK hi;have HK5:=aK hk;have HH5:=aK hH;have q5:=bO hy.1;have q6:=bO hy.2
   obtain ⟨z,hz⟩: ∃z,w5.cell? ⟨gl,y.toNat,none⟩=some (.int .i64 z):=by
    have h4:y.toNat=0∨y.toNat=1∨y.toNat=2∨y.toNat=3:=by omega
    rcases h4 with h4|h4|h4|h4<;>rw [h4]
    ·exact ⟨_,(bA hl 0).trans rfl⟩
    ·exact ⟨_,(bA hl 1).trans rfl⟩
    ·exact ⟨_,(bA hl 2).trans rfl⟩
    ·exact ⟨_,(bA hl 3).trans rfl⟩
   clear hi hk hkw hH hl hy HH HK4 HI4;refine sH (a':=?_) ?_ ?_;rotate_left
   ·simp only [zZ, Act.put, dU, fY, fT]
    rfl
   refine pS 10 42 (lA 17 2047) ?_;refine pD (i:=11) (N:=some 43) (lA 17 4095) rfl rfl (by kernel_rfl) (by decide) (fun K hK=>?_);refine rH (w1:=?_) (v:=?_) (by rfl) rfl ?_ ?_;rotate_left 2
   ·go_simp
    constructor
    ·rfl
    ·rfl
   refine hK.out _ _ (hHeld) (fun hHeld=>?_);clear hK K;refine nS 43 ?_;refine pD (i:=12) (N:=some 44) (lA 17 8191) rfl rfl (by kernel_rfl) (by decide) (fun K hK=>?_);refine rH (w1:=?_) (v:=?_) (by rfl) rfl ?_ ?_;rotate_left 2
   ·go_simp
    constructor
    ·rfl
    ·rfl
   refine hK.out _ _ ((bU (bJ (bH _ _) _) hHeld)) (fun hHeld=>?_);clear hK K;refine nS 44 ?_;refine pD (i:=13) (N:=some 45) (lA 17 16383) rfl rfl (by kernel_rfl) (by decide) (fun K hK=>?_);have HZ5:=aK (show b0≤w5.heap.size by rw [HBW.out];exact tT HK5.out);refine Kd.R_append_step (Kd.int .i64) b0 (by rfl) (.tmp 38) (.tmp 44) 23 3 (.int .i64 0) 8 rfl Try.underlying23 qT rfl (by decide) (by omega) (.slice A2 x.f1.length c2) x.f1 z [.int .i64 z] (fun k_=>oki k_∨b0≤k_∧w5.heap.size≤k_) (fun _=>False) rfl rfl ?aP (fun _ hk=>hk.elim) ?aF ?aO (bH _ _) ?aS ?aL ?_
   (case aP=>exact rfl)
   (case aF=>exact fun k_ hk_=> .inr ⟨by have:=HZ5.out;omega,hk_⟩)
   (case aO=>exact cI (Kd.R_keep HR.out HW5.out (fun k_ hk_=>by have:=(HOk.out k_ hk_).1;have:=HG.out;omega)) (fun _ h_=> .inl h_))
   (case aS=>exact HZ5.out)
   (case aL=>have:=HX.out;omega)
   intro v8 w8 ho hbn hgr hat;obtain ⟨AN,cN,eN⟩:=cL ho;subst eN;have hbs: ∀k,(Value.slice A2 x.f1.length c2).ownBlock=some k→b0≤k:=fun k hk=>(HOk.out k (HR.out.1 k hk)).1
   have HH8:=aK (Kd.H_grown (Kd.H_widen HH5.out) hgr (fun k_ e_=> .inl (HR.out.1 k_ e_)));have HI8:=aK (HI5.out.grown hgr (fun e_=>by have:=hbs g e_.symm;have:=HG.out;omega) (fun k_ e_=>by have:=hbs k_ e_;have:=HG0.out;omega));have HK8:=aK (gZ.trans HK5.out (gZ.of_grown hgr g) (by rw [←HBW.out];exact Kd.R_base2 HR.out));have HS8:=aK (show Kd.S tU 53 (w8.setCell ⟨gs,j*2+1,none⟩ (.slice AN (x.f1.length+1) cN)) b0 (fun k_=>b0≤k_) (.slice (some ⟨gs,0,none⟩) cs.length cap) (cs.set j ⟨x.f0,x.f1++[z]⟩) by rw [show x.f1.length+1=(x.f1++[z]).length by simp];exact (Kd.S_seg0 (seg:=[.slice AN (x.f1++[z]).length cN]) (j:=1) (x':=⟨x.f0,x.f1++[z]⟩) HH8.out (by omega) (by have:=HJ.out;omega) (show 1+1≤2 by omega) (bAv w8 b0 _ ⟨x.f0,x.f1++[z]⟩ ho) (fun _ h_=>h_)).1);have o8:w8.cell? ⟨gs,j*2+1,none⟩=_:=((Kd.H_at HH8.out (by omega) (by have:=HJ.out;omega)).1 1 _ rfl)
   have y8:w8.frozen? ⟨gs,j*2+1,none⟩=false:=(Kd.H_at HH8.out (by omega) (by have:=HJ.out;omega)).2 1
   clear ho hbn hgr hat hbs HH5 HI5 HK5;refine hK.out _ _ (o8) (fun hHeld=>?_);clear hK K;refine nS 45 ?_;refine cJ 14 ?_;refine cJ 15 ?_;refine qL (i:=16) (N:=none) (lA 17 131071) rfl rfl (by kernel_rfl) (by decide) (fun K hK=>?_);refine vN (w1:=?_) (by rfl) rfl ?_ ?_;rotate_left
   ·go_simp
    rfl
   refine hK.out _ _ ?_;clear hK K;refine gT (by kernel_rfl) ?_;go_wp2;go_ret;exact bCn HBW.out HS8.out HG.out (by have:=HL.out;(try simp);omega) (bGs HF.out (by have:=HX.out;simp;omega)) (xG.far HI8.out (p:=⟨gs,j*2+1,none⟩) (by have:=HG.out;have:=HGS.out;show g≠gs;omega) (by have:=HG0.out;have:=HGS.out;show _≤gs;omega) _) (by omega) (yY HK8.out (p:=⟨gs,j*2+1,none⟩) (by rw [←HBW.out];exact HGS.out) _)
  ·skip
   have p3:=bO (show (1:Int)≤(cap:Int) by have:=(Kd.S_reads' HS4.out).2.1;have:=HL.out;omega);have p4:(1:Nat)≤cap:=by have:=(Kd.S_reads' HS4.out).2.1;have:=HL.out;omega
   go_wp2;go_ret;exact bCn HBW.out (Kd.S_take (m:=1) HS4.out xH) HG.out (by have:=HL.out;simp;omega) (fun x hx=>HF.out x (List.mem_of_mem_take hx)) HI4.out (by omega) HK4.out
  ·skip
   obtain ⟨x,u,oki,hxj,c0,c1,f0,f1,hr,hoki,hH,hp0,hp1⟩:=bFa HS4.out (show 1<cs.length by have:=HL.out;omega);obtain ⟨A2,c2,rfl⟩:=cL hr;have HR:=aK hr;have HOk:=aK hoki;have HX:=aK (show x.f1.length≤3 from HF.out x (List.mem_of_getElem? hxj));have HGL:=aK (show gs<w4.heap.size from Kd.S_lt HS4.out gs (by simp [Value.ownBlock]));have p5:=bO (show (1:Int)<(cs.length:Int) by have:=HL.out;omega);have c0':w4.cell? ⟨gs,2,none⟩=some (.int .i64 x.f0):=c0
   have c1':w4.cell? ⟨gs,3,none⟩=some (.slice A2 x.f1.length c2):=c1
   clear hxj hr hoki hH hp0 hp1 c0 c1 f0 f1;go_wp2;replace HS4:=aK (Kd.S_drew HS4.out);replace HR:=aK (dC HR.out);replace HI4:=aK HI4.out.drew;replace HK4:=aK (nD HK4.out);replace HGL:=aK (show gs<w4.drew.heap.size from HGL.out);refine sT 16 (S:=fun w'=>w'.cell? ⟨gs,2,none⟩=some (.int .i64 x.f0)∧w'.cell? ⟨gs,3,none⟩=some (.slice A2 x.f1.length c2)) (ds:=[14]) ⟨c0',c1'⟩ (fun hHeld=>?_);generalize w4.drew=w4a at HS4 HR HI4 HK4 HGL hHeld ⊢;refine cJ 0 ?_;refine cJ 1 ?_;refine cJ 2 ?_;refine cJ 4 ?_;refine cJ 5 ?_;refine cJ 7 ?_;refine cJ 8 ?_;refine cJ 10 ?_;refine cJ 11 ?_;refine tS 3 57 (lA 16 3519) rfl rfl (by kernel_rfl) hHeld bAe ?_;refine tS 6 60 (lA 16 3583) rfl rfl (by kernel_rfl) hHeld bAe ?_;refine tS 9 63 (lA 16 4095) rfl rfl (by kernel_rfl) hHeld bAe ?_;refine tS 12 66 (lA 16 8191) rfl rfl (by kernel_rfl) hHeld bAe ?_;refine pD (i:=13) (N:=some 67) (lA 16 16383) rfl rfl (by kernel_rfl) (by decide) (fun K hK=>?_);have HZ:=aK (show b0≤w4a.heap.size by rw [HBW.out];exact tT HK4.out);refine Kd.N_lit_step tU _ 53 ?hg (N':=67) ?hd (xs:=([x,x,x,x]:List S53)) (inner:=[.int .i64 x.f0,.slice A2 x.f1.length c2,.int .i64 x.f0,.slice A2 x.f1.length c2,.int .i64 x.f0,.slice A2 x.f1.length c2,.int .i64 x.f0,.slice A2 x.f1.length c2]) (ok:=(fun k_=>b0≤k_∧k_≠gs)) (okp:=(fun k_=>b0≤k_∧k_≠gs)) ?hr ?hp (fun _ hk=>hk) ⟨HZ.out,by have:=HGL.out;omega⟩ (bH _ _) (bV _) (by simp) ?_
   (case hd=>rfl)
   (case hg=>rfl)
   (case hr=>first|(go_simp;done)|(go_simp;rfl))
   (case hp=>exact pP.c2 (show Kd.FK tU _ _ x [.int .i64 x.f0,.slice A2 x.f1.length c2] from fun W2_ hW_=>bKf W2_ x (cD HR.out).2.1 (Kd.R_F (cI HR.out HOk.out) W2_ hW_)) (pP.c2 (show Kd.FK tU _ _ x [.int .i64 x.f0,.slice A2 x.f1.length c2] from fun W2_ hW_=>bKf W2_ x (cD HR.out).2.1 (Kd.R_F (cI HR.out HOk.out) W2_ hW_)) (pP.c2 (show Kd.FK tU _ _ x [.int .i64 x.f0,.slice A2 x.f1.length c2] from fun W2_ hW_=>bKf W2_ x (cD HR.out).2.1 (Kd.R_F (cI HR.out HOk.out) W2_ hW_)) (pP.c2 (show Kd.FK tU _ _ x [.int .i64 x.f0,.slice A2 x.f1.length c2] from fun W2_ hW_=>bKf W2_ x (cD HR.out).2.1 (Kd.R_F (cI HR.out HOk.out) W2_ hW_)) (pP.none _ _)))))
   intro v5 w5 ho hb hg_ hnew_;have HN5:=aK (Kd.N_lower ho HZ.out);have HS5:=aK (Kd.S_below HS4.out hb);have HI5:=aK (HI4.out.below hb);have HK5:=aK (gZ.trans HK4.out (gZ.of_below hb g none) (.inl rfl));have HZ5:=aK (dO HZ.out (bW hb));have s0_:=bU hb hHeld.1;have s1_:=bU hb hHeld.2;clear ho hb hg_ hnew_ HS4 HI4 HK4;obtain ⟨A5,c5,e5⟩:=Kd.N_slice HN5.out;subst e5;refine hK.out _ _ ⟨s0_,s1_⟩ (fun hHeld=>?_);clear hK K;refine nS 67 ?_;refine qL (i:=14) (N:=some 68) (lA 16 32767) rfl rfl (by kernel_rfl) (by decide) (fun K hK=>?_);refine Kd.N_append_rows_step tU b0 (by rfl) (.tmp 54) (.tmp 67) 32 53 (.agg #[(.int .i64 0),(.slice none 0 0)]) 32 rfl Try.underlying32 bRw rfl (by decide) (by omega) (.slice (some ⟨gs,0,none⟩) cs.length cap) cs [x,x,x,x] _ _ _ (fun k_=>b0≤k_) (fun k_=>(fun k_=>b0≤k_) k_∧some k_≠(Value.slice (some ⟨gs,0,none⟩) cs.length cap).ownBlock) rfl rfl ?aO ?aR (fun _ hk=>hk) ?aF (bH _ _) ?aS ?aL ?_
   (case aR=>exact Kd.N_F (Kd.N_mono HN5.out (fun k_ hk_=>⟨hk_.1,by simp [Value.ownBlock];exact hk_.2⟩)))
   (case aO=>exact Kd.S_N HS5.out)
   (case aF=>exact fun k_ hk_=>by have:=HZ5.out;omega)
   (case aS=>exact HZ5.out)
   (case aL=>have:=HL.out;simp;omega)
   intro v7 w7 ho hb hg_ hat;have HV7:=aK (show Kd.V tU 53 w7 b0 (fun k_=>b0≤k_) v7 (cs++[x,x,x,x]) from Kd.N_V ho);have HI7:=aK (HI5.out.grown hg_ (fun e_=>by have:=Kd.S_base HS5.out g e_.symm;have:=HG.out;omega) (fun k_ e_=>by have:=Kd.S_base HS5.out k_ e_;have:=HG0.out;omega));have HK7:=aK (gZ.trans HK5.out (gZ.of_grown hg_ g) (by rw [←HBW.out];exact Kd.S_base2 HS5.out));clear ho hb hg_ hat;refine hK.out _ _ ?_;clear hK K;refine nS 68 ?_;refine cJ 15 ?_;refine gT (by kernel_rfl) ?_;go_wp2;go_ret;exact bRm HBW.out HV7.out HG.out (by have:=HL.out;simp;omega) (fun z hz=>by rcases List.mem_append.mp hz with q|q;exact HF.out z q;simp at q;rw [q];exact HX.out) HI7.out (by omega) HK7.out
  ·skip
   go_wp2_with ((with_reducible refine dK (N:=73) rfl ?_);refine yI (Kd.int .i64) _ 3 ?hg (N:=73) ?hd (xs:=([1,1,1]:List Int)) (inner:=[.int .i64 1,.int .i64 1,.int .i64 1]) (ok:=fun _=>True) (okp:=fun _=>True) ?hr ?hp (fun _ hk=>hk) dT (bH _ _) (bV _) (by simp) ?_;(case hd=>rfl);(case hg=>rfl);(case hr=>first|(go_simp;done)|(go_simp;rfl));(case hp=>exact (pP.one (show Kd.M (Kd.int .i64) _ _ _ 1 [.int .i64 1] from rfl) (pP.one (show Kd.M (Kd.int .i64) _ _ _ 1 [.int .i64 1] from rfl) (pP.one (show Kd.M (Kd.int .i64) _ _ _ 1 [.int .i64 1] from rfl) (pP.none _ _)))));intro v1 w5 ho hb hg_ hnew_;have HZ:=aK (show b0≤w4.heap.size by rw [HBW.out];exact tT HK4.out);have HN:=aK (show∀k,v1.ownBlock=some k→w4.heap.size≤k from fun k hk=>nN ho k hk);have HR:=aK (Kd.R_tight rfl (dE ho HZ.out));have HS5:=aK (show Kd.S tU 53 w5 b0 (fun k_=>b0≤k_∧¬some k_=v1.ownBlock) (.slice (some ⟨gs,0,none⟩) cs.length cap) cs from Kd.S_below (Kd.S_mono (Kd.S_bound HS4.out) (fun k_ hk_=>⟨hk_.1,fun e_=>by have:=HN.out k_ e_.symm;omega⟩)) hb);have HI5:=aK (HI4.out.below hb);have HK5:=aK (gZ.trans HK4.out (gZ.of_below hb g none) (.inl rfl));have HGL:=aK (show gs<w4.heap.size from Kd.S_lt HS4.out gs (by simp [Value.ownBlock]));clear ho hb hg_ hnew_ HI4 HK4 HS4;obtain ⟨Ao,co,eo⟩:=cL HR.out;subst eo;obtain ⟨x,u,oki,hxj,c0,c1,f0,f1,hr,hoki,hH,hp0,hp1⟩:=bFa HS5.out HJ.out;have HP1:=aK (Kd.S_seg (okg:=fun k_=>some k_=(Value.slice Ao ([1,1,1]:List Int).length co).ownBlock) (seg:=[.slice Ao ([1,1,1]:List Int).length co]) (j:=1) (x':=⟨x.f0,[1,1,1]⟩) hH (by have:=HJ.out;omega) (by have:=HJ.out;omega) (show 1+1≤2 by omega) (bAv w5 b0 _ ⟨x.f0,[1,1,1]⟩ HR.out) (fun k_ hk_=> .inr hk_) (fun k_ hk_=>⟨by have:=HN.out k_ hk_.symm;have:=HZ.out;omega,by have:=HN.out k_ hk_.symm;have:=HGL.out;omega⟩)).1;clear hxj hr hoki hH hp0 hp1)
   go_ret;exact bCn HBW.out HP1.out HG.out (by have:=HL.out;(try simp);omega) (bGs HF.out (by simp)) (xG.far HI5.out (p:=⟨gs,j*2+1,none⟩) (by have:=HG.out;have:=HGS.out;show g≠gs;omega) (by have:=HG0.out;have:=HGS.out;show _≤gs;omega) _) (by omega) (yY HK5.out (p:=⟨gs,j*2+1,none⟩) (by rw [←HBW.out];exact HGS.out) _)
  ·skip
   obtain ⟨x,u,oki,hxj,c0,c1,f0,f1,hr,hoki,hH,hp0,hp1⟩:=bFa HS4.out HJ.out;have HP1:=aK hp1;clear hxj hr hoki hH hp0 hp1;go_wp2;go_ret;exact bCn HBW.out HP1.out HG.out (by have:=HL.out;(try simp);omega) (bGs HF.out (by simp)) (xG.far HI4.out (p:=⟨gs,j*2+1,none⟩) (by have:=HG.out;have:=HGS.out;show g≠gs;omega) (by have:=HG0.out;have:=HGS.out;show _≤gs;omega) _) (by omega) (yY HK4.out (p:=⟨gs,j*2+1,none⟩) (by rw [←HBW.out];exact HGS.out) _)
structure Dm (W:World) (b0:Nat) (ok:Nat→Prop) (v5 v0 v4 v7:Value) (cs:Cs) (ws:List Int) (cards:List Bool) (rt:List Int):Prop where
 h5:Kd.V tU 53 W b0 ok v5 cs
 h0:Kd.V (Kd.int .i64) 3 W b0 ok v0 ws
 h4:Kd.V Kd.bool 4 W b0 ok v4 cards
 h7:Kd.V (Kd.int .i64) 3 W b0 ok v7 rt
 l5:1≤cs.length∧cs.length≤9∧∀x∈cs,x.f1.length≤3
 l0:1≤ws.length∧ws.length≤1000
 l4:cards.length≤1000
 l7:rt.length≤100
def MemP (M:Int) (w0 w:World) (g:Nat) (e:Ending) (w':World):Prop:= ∃(v5 v0 v4 v7:Value) (cs:Cs) (ws:List Int) (y t o:Int) (cards:List Bool) (rt:List Int),e= .returned (.tuple #[v5,.agg #[v0,.int .i64 y,.int .i64 t,.int .i64 o,v4],v7])∧Dm w' w.heap.size (fun k=>w.heap.size≤k) v5 v0 v4 v7 cs ws cards rt∧xG (M+6000) w0 w' g∧Ch (fun k=>k=g) w w'
section
variable {b0 g gz gm:Nat} {W w w0 w1:World} {v5 v0 v4 v7:Value} {cs:Cs} {ws:List Int} {cards:List Bool} {rt:List Int} {ok ok' S:Nat→Prop} {M L:Int}
theorem Dm.ch (h:Dm W b0 ok v5 v0 v4 v7 cs ws cards rt) (hc:Ch S W w1) (hS: ∀k,ok k→¬S k):Dm w1 b0 ok v5 v0 v4 v7 cs ws cards rt:=
  ⟨qB h.h5 hc.kept hS,qB h.h0 hc.kept hS,qB h.h4 hc.kept hS,qB h.h7 hc.kept hS,h.l5,h.l0,h.l4,h.l7⟩
theorem Dm.mono (h:Dm W b0 ok v5 v0 v4 v7 cs ws cards rt) (hS: ∀k,ok k→ok' k):Dm W b0 ok' v5 v0 v4 v7 cs ws cards rt:=
  ⟨qA h.h5 hS,qA h.h0 hS,qA h.h4 hS,qA h.h7 hS,h.l5,h.l0,h.l4,h.l7⟩
theorem Dm.ret (h:Dm W w.heap.size (fun k=>w.heap.size≤k∧k≠gz) v5 v0 v4 v7 cs ws cards rt) (hi:xG L w0 W g) (hL:L≤M+6000) (hc:Ch (fun k=>k=g) w W) (hg:g<w.heap.size∧w0.heap.size≤w.heap.size) (hz:w.heap.size≤gz) {a b c d e:Value} {y t o:Int}:
    MemP M w0 w g (.returned (.tuple #[v5,.agg #[v0,.int .i64 y,.int .i64 t,.int .i64 o,v4],v7])) (nF W gz a b c d e):=
  ⟨v5,v0,v4,v7,cs,ws,y,t,o,cards,rt,rfl,(h.ch (Ch.box5 (Ch.refl (fun k=>k=gz) _) (.inl rfl) _ _ _ _ _) (fun k hk=>hk.2)).mono (fun k hk=>hk.1),(hi.ch (Ch.box5 (Ch.refl (fun k=>k=gz) _) (.inl rfl) _ _ _ _ _) (by omega) (fun k hk=>by omega)).le hL,hc.box5 (.inr hz) _ _ _ _ _⟩
end
structure Ms (b0 s1 gz gm gw cW gc cC:Nat) (W:World) (v5 v7:Value) (cs:Cs) (ws:List Int) (y t o:Int) (cards:List Bool) (rt:List Int):Prop where
 om:OM s1 gw cW gc cC W ws cards
 h5:Kd.V tU 53 W b0 (fun k=>gz<k∧k<s1) v5 cs
 h7:Kd.R (Kd.int .i64) 3 W s1 (fun k=>k≠gw) v7 rt
 bm:W.heap[gm]? =some (.cells #[.slice (some ⟨gw,0,none⟩) ws.length cW,.int .i64 y,.int .i64 t,.int .i64 o,.slice (some ⟨gc,0,none⟩) cards.length cC] 29 (0,0))
 bz:W.heap[gz]? =some (.cells #[.slice none 0 0,.int .i64 0,.int .i64 0,.int .i64 0,.slice none 0 0] 29 (0,0))
 ge:b0≤gz∧gz<s1∧s1≤gm
 l5:1≤cs.length∧cs.length≤9∧∀x∈cs,x.f1.length≤3
 l0:14≤ws.length∧ws.length≤160
 l4:4≤cards.length∧cards.length≤40
 l7:rt.length≤60
section
variable {b0 s1 g gz gm gw cW gc cC:Nat} {W w1:World} {v5 v7 v:Value} {cs:Cs} {ws:List Int} {y t o:Int} {cards:List Bool} {rt:List Int} {S:Nat→Prop}
theorem Ms.ch (h:Ms b0 s1 gz gm gw cW gc cC W v5 v7 cs ws y t o cards rt) (hc:Ch S W w1) (hS: ∀k,S k→k<b0∨W.heap.size≤k):Ms b0 s1 gz gm gw cW gc cC w1 v5 v7 cs ws y t o cards rt:=by
  have a:=h.om.bw;have b:=h.om.bc;have c:=h.ge;have d:=dN h.bm;exact ⟨h.om.ch hc (fun q=>by have:=hS _ q;omega) (fun q=>by have:=hS _ q;omega),qA (qB (Kd.V_bound h.h5) hc.kept (fun k hk q=>by have:=hS _ q;omega)) (fun _ hk=>hk.1),cI (hc.R (fZ h.h7) (fun k hk q=>by have:=hS _ q;omega)) (fun _ hk=>hk.1),hc.blk h.bm (fun q=>by have:=hS _ q;omega),hc.blk h.bz (fun q=>by have:=hS _ q;have:=dN h.bz;omega),h.ge,h.l5,h.l0,h.l4,h.l7⟩
theorem Ms.below (h:Ms b0 s1 gz gm gw cW gc cC W v5 v7 cs ws y t o cards rt) (hb:Below W.heap.size W w1):Ms b0 s1 gz gm gw cW gc cC w1 v5 v7 cs ws y t o cards rt:=h.ch ((Ch.refl (fun _=>False) _).below hb) (fun _ h=>h.elim)
theorem Ms.word (h:Ms b0 s1 gz gm gw cW gc cC W v5 v7 cs ws y t o cards rt) (hc:Ch (fun k=>k=gw) W w1) {ws':List Int} (hO:OM s1 gw cW gc cC w1 ws' cards) (hl:ws'.length=ws.length):Ms b0 s1 gz gm gw cW gc cC w1 v5 v7 cs ws' y t o cards rt:=by
  have a:=h.om.bw;have c:=h.ge;have n:=h.om.nbox h.bm;have n2:=h.om.nbox h.bz;exact ⟨hO,qB h.h5 hc.kept (fun k hk q=>by omega),hc.R h.h7 (fun k hk q=>hk q),by rw [hl];exact hc.blk h.bm (fun q=>n.1 q.symm),hc.blk h.bz (fun q=>n2.1 q.symm),h.ge,h.l5,by rw [hl];exact h.l0,h.l4,h.l7⟩
theorem Ms.r7 (h:Ms b0 s1 gz gm gw cW gc cC W v5 v7 cs ws y t o cards rt):Kd.R (Kd.int .i64) 3 W s1 (fun k=>k≠gw∧k≠gc) v7 rt:=h.om.apart h.h7
theorem Ms.dm (h:Ms b0 s1 gz gm gw cW gc cC W v5 v7 cs ws y t o cards rt):Dm W b0 (fun k=>(b0≤k∧k≠gz)∧k≠gm) v5 (.slice (some ⟨gw,0,none⟩) ws.length cW) (.slice (some ⟨gc,0,none⟩) cards.length cC) v7 cs ws cards rt:=by
 have a:=h.om.bw;have b:=h.om.bc;have c:=h.ge;have n:=h.om.nbox h.bm;refine ⟨qA h.h5 (fun k hk=>⟨⟨by omega,by omega⟩,by omega⟩),Kd.R_V (cI h.om.hw (fun k hk=>⟨⟨by omega,by omega⟩,by omega⟩)),Kd.R_V (cI h.om.hc (fun k hk=>⟨⟨by omega,by omega⟩,by omega⟩)),?_,h.l5,⟨by have:=h.l0;omega,by have:=h.l0;omega⟩,by have:=h.l4;omega,by have:=h.l7;omega⟩;exact Kd.R_V (cI (nJ (fZ h.h7) h.bm (by decide)) (fun k hk=>⟨⟨by omega,by omega⟩,hk.2⟩))
theorem Ms.cut (h:Ms b0 s1 gz gm gw cW gc cC W v5 v7 cs ws y t o cards rt):Dm W b0 (fun k=>(b0≤k∧k≠gz)∧k≠gm) v5 (.slice (some ⟨gw,0,none⟩) ws.length cW) (.slice (some ⟨gc,1,none⟩) (cards.length - 1) (cC - 1)) v7 cs ws (cards.drop 1) rt:=by
 have hd:=h.dm;have h4:=h.l4;have hc:=(qG hd.h4).2.1;have hf:=Kd.F_cut (c:=cC) (Kd.V_F hd.h4) (m:=1) (by omega) hc;rw [if_neg (by omega)] at hf;refine ⟨hd.h5,hd.h0,?_,hd.h7,hd.l5,hd.l0,by rw [dJ];omega,hd.l7⟩;rw [show cards.length - 1=(cards.drop 1).length from dJ.symm];exact Kd.V_mk (by rw [dJ];omega) hf
theorem Ms.grow (h:Ms b0 s1 gz gm gw cW gc cC W v5 v7 cs ws y t o cards rt) (hc:Ch (fun k=>k=gw) W w1) {ws':List Int} {ok:Nat→Prop} (hv:Kd.R (Kd.int .i64) 3 w1 s1 ok v ws') (hok: ∀k,ok k→k=gw∨W.heap.size≤k) (hl:1≤ws'.length∧ws'.length≤1000):
  Dm w1 b0 (fun k=>(b0≤k∧k≠gz)∧k≠gm) v5 v (.slice (some ⟨gc,0,none⟩) cards.length cC) v7 cs ws' cards rt∧w1.heap[gm]? =some (.cells #[.slice (some ⟨gw,0,none⟩) ws.length cW,.int .i64 y,.int .i64 t,.int .i64 o,.slice (some ⟨gc,0,none⟩) cards.length cC] 29 (0,0))∧w1.heap[gz]? =some (.cells #[.slice none 0 0,.int .i64 0,.int .i64 0,.int .i64 0,.slice none 0 0] 29 (0,0)):=by
 have a:=h.om.bw;have b:=h.om.bc;have c:=h.ge;have n:=h.om.nbox h.bm;have n2:=h.om.nbox h.bz;have z1:=dN h.bm;have z2:=dN h.bz;refine ⟨⟨qA (qB h.h5 hc.kept (fun k hk q=>by omega)) (fun k hk=>⟨⟨by omega,by omega⟩,by omega⟩),Kd.R_V (cI hv (fun k hk=>by have:=hok k hk;omega)),Kd.R_V (cI (hc.R h.om.hc (fun k hk q=>by have:=h.om.ne;omega)) (fun k hk=>⟨⟨by omega,by omega⟩,by omega⟩)),?_,h.l5,hl,by have:=h.l4;omega,by have:=h.l7;omega⟩,hc.blk h.bm (fun q=>n.1 q.symm),hc.blk h.bz (fun q=>n2.1 q.symm)⟩;exact Kd.R_V (cI (hc.R (nJ (nJ (fZ h.h7) h.bm (by decide)) h.bz (by decide)) (fun k hk q=>hk.1.1.1 q)) (fun k hk=>⟨⟨by have:=hk.1.1.2.1;omega,hk.2⟩,hk.1.2⟩))
theorem Ms.roots (h:Ms b0 s1 gz gm gw cW gc cC W v5 v7 cs ws y t o cards rt) (hg:W.grownBy w1 v7.ownBlock) {rt':List Int} (hv:Kd.R (Kd.int .i64) 3 w1 s1 (fun k=>k≠gw∧k≠gc) v rt') (hl:rt'.length≤100):
  Dm w1 b0 (fun k=>b0≤k∧k≠gz) v5 (.slice (some ⟨gw,0,none⟩) ws.length cW) (.slice (some ⟨gc,0,none⟩) cards.length cC) v cs ws cards rt'∧w1.heap[gm]? =some (.cells #[.slice (some ⟨gw,0,none⟩) ws.length cW,.int .i64 y,.int .i64 t,.int .i64 o,.slice (some ⟨gc,0,none⟩) cards.length cC] 29 (0,0))∧w1.heap[gz]? =some (.cells #[.slice none 0 0,.int .i64 0,.int .i64 0,.int .i64 0,.slice none 0 0] 29 (0,0)):=by
 have a:=h.om.bw;have b:=h.om.bc;have c:=h.ge;have n:=h.om.nbox h.bm;have n2:=h.om.nbox h.bz;have hc:Ch (fun k=>v7.ownBlock=some k) W w1:=(Ch.refl _ W).grown hg (fun k e=> .inl e)
 have hb:=nN h.h7;have hz:=hc.blk h.bz (fun e=>qP h.h7 h.bz (by decide) e.symm);refine ⟨⟨qA (qB h.h5 hc.kept (fun k hk q=>by have:=hb k q;omega)) (fun k hk=>⟨by omega,by omega⟩),Kd.R_V (cI (hc.R h.om.hw (fun k hk q=>(h.r7.1 k q).1 hk)) (fun k hk=>⟨by omega,by omega⟩)),Kd.R_V (cI (hc.R h.om.hc (fun k hk q=>(h.r7.1 k q).2 hk)) (fun k hk=>⟨by omega,by omega⟩)),?_,h.l5,⟨by have:=h.l0;omega,by have:=h.l0;omega⟩,by have:=h.l4;omega,hl⟩,hc.blk h.bm (fun e=>qP h.h7 h.bm (by decide) e.symm),hz⟩;exact Kd.R_V (cI (nJ (fZ hv) hz (by decide)) (fun k hk=>⟨by have:=hk.1.2.1;omega,hk.2⟩))
end
theorem mem_any (M:Int) (g:Nat) (w0 w:World) (hi:xG M w0 w g) (hM:M≤100000):
  Calls Try.prog 37 #[.pointer (some ⟨g,0,none⟩)] w (MemP M w0 w g):=by
 obtain ⟨b0,hb0⟩: ∃b,b=w.heap.size:=⟨_,rfl⟩;have HG:=aK (show g<b0∧w0.heap.size≤b0 by have h1:=hi.lt;have h2:=hi.ge;rw [hb0];omega);have HBW:=aK hb0;have HI:=aK hi;have HM:=aK hM;have HCh:=aK (Ch.refl (fun k=>k=g) w);clear hi hM hb0;go_enter Try.func37,Try.ntmps37
 go_wp2_with ((with_reducible refine dK (N:=3) rfl ?_);refine bF (fun hng=>?_))
 refine hng ?_;clear hng;refine dM ?hg (N:=3) ?hd (cs:= #[.slice none 0 0,.int .i64 0,.int .i64 0,.int .i64 0,.slice none 0 0]) (t:=29) ?hr ?_
 (case hd=>rfl)
 (case hg=>rfl)
 (case hr=>first|(go_simp;done)|(go_simp;rfl))
 intro gz hg w1 hbox hb;have BZ1:=aK hbox;have HI1:=aK (HI.out.below hb);have HCh1:=aK (HCh.out.below hb);have HGz:=aK (show b0≤gz by rw [hg,HBW.out];exact bV _);clear hb hbox hg HI HCh
 go_wp2_with (go_at_call 61;refine bF (fun hng=>?_))
 refine hng ?_;clear hng;refine (bGf M g w0 _ HI1.out zM).mono ?_;rintro e w2 ⟨v5,cs,rfl,⟨hok,hfew⟩,hS,hi,hk⟩;have hst:=HI1.out.step hi hk;have HI2:=aK hi;have HCh2:=aK (HCh1.out.then_ hst);have BZ2:=aK (hst.blk BZ1.out (by have:=HG.out;have:=HGz.out;omega));obtain ⟨s1,hs1⟩: ∃z,z=w2.heap.size:=⟨_,rfl⟩;have HS1:=aK (show gz<s1 by rw [hs1];exact dN BZ2.out);have HV2:=aK (show Kd.V tU 53 w2 b0 (fun k=>gz<k∧k<s1) v5 cs from Kd.S_V (Kd.S_mono (Kd.S_bound hS) (fun k hk=>⟨by have:=dN BZ1.out;omega,by rw [hs1];exact hk.2.2.1⟩)));have HOk:=aK hok;have HFw:=aK hfew;have Hs1:=aK hs1;obtain ⟨A,cA,eA⟩:=Kd.V_slice HV2.out;subst eA;clear hok hfew hS hi hk hst hs1 HI1 HCh1 BZ1
 go_wp2_with (go_at_call 62;refine bF (fun hng=>?_))
 refine hng ?_;clear hng;refine (bRx _ g A cA cs w0 _ HI2.out zM HOk.out (Kd.C_foot_ownV HV2.out (fun k hk=>by have:=HG.out;have:=HGz.out;omega)) (qG HV2.out).2.1).mono ?_;rintro e w3 ⟨gw,cW,gc,cC,ws,y,t,o,cards,v7,rt,rfl,hB,hrl,hO,hR,hi,hc⟩;rw [←Hs1.out] at hO hR;have HO3:=aK hO;have HR3:=aK hR;have HI3:=aK hi;have HCh3:=aK (HCh2.out.then_ hc);have BZ3:=aK (hc.blk BZ2.out (by have:=HG.out;have:=HGz.out;omega));have HV3:=aK (qB HV2.out hc.kept (fun k hk q=>by have:=HG.out;have:=HGz.out;omega));have HLs:=aK (show (14≤ws.length∧ws.length≤160)∧(4≤cards.length∧cards.length≤40)∧rt.length≤60 by have:=hB.n0;have:=hB.n1;have:=hB.y0;have:=hB.y1;have:=hB.cd;omega);clear hB hrl hO hR hi hc HI2 HCh2 BZ2 HV2;obtain ⟨A7,c7,e7⟩:=cL HR3.out;subst e7
 go_wp2_with ((with_reducible refine dK (N:=6) rfl ?_);refine bF (fun hng=>?_))
 refine hng ?_;clear hng;refine dM ?hg (N:=6) ?hd (cs:= #[.slice none 0 0,.int .i64 0,.int .i64 0,.int .i64 0,.slice none 0 0]) (t:=29) ?hr ?_
 (case hd=>rfl)
 (case hg=>rfl)
 (case hr=>first|(go_simp;done)|(go_simp;rfl))
 intro gm hg w4 hbox hb;have HO4:=aK (HO3.out.ch ((Ch.refl (fun _=>False) _).below hb) (fun h=>h) (fun h=>h));have HR4:=aK (cI (fZ (bZ HR3.out hb)) (fun k hk=>(show k≠gw from hk.1)));have HV4:=aK (kY HV3.out hb);have BZ4:=aK (bS BZ3.out hb);have HI4:=aK (HI3.out.below hb);have HCh4:=aK (HCh3.out.below hb);have HGm:=aK (show s1≤gm by rw [hg];have:=HO3.out.bw;omega);have BM4:=aK hbox;clear hb hbox hg HO3 HR3 HV3 BZ3 HI3 HCh3;have c0:=(bA BM4.out 0).trans rfl;have c1:=(bA BM4.out 1).trans rfl;have c2:=(bA BM4.out 2).trans rfl;have c3:=(bA BM4.out 3).trans rfl;have c4:=(bA BM4.out 4).trans rfl;have f0:=bL BM4.out 0;have f1:=bL BM4.out 1;have f2:=bL BM4.out 2;have f3:=bL BM4.out 3;have f4:=bL BM4.out 4
 go_wp2_with ((with_reducible refine fX (t:=29) (p:=6) rfl ?_);refine bF (fun hng=>?_))
 refine hng ?_;clear hng;refine fN (t:=29) (p:=6) (v:=?vm1) (w1:=(nF w4 gm (.slice (some ⟨gw,0,none⟩) ws.length cW) (.int .i64 y) (.int .i64 t) (.int .i64 o) (.slice (some ⟨gc,0,none⟩) cards.length cC))) ?hg ?ho ?hn ?hr ?_
 (case ho=>rfl)
 (case hg=>rfl)
 (case hn=>rfl)
 (case hr=>first|(go_simp;done)|(go_simp;rfl))
 intro w5 hw;have n4:=HO4.out.nbox BM4.out;have hc4:Ch (fun k=>k=gm) w4 w5:=by rw [hw];exact (Ch.refl (fun k=>k=gm) _).box5 (.inl rfl) _ _ _ _ _
 have HMs5:=aK (show Ms b0 s1 gz gm gw cW gc cC w5 (.slice A cs.length cA) (.slice A7 rt.length c7) cs ws y t o cards rt from ⟨HO4.out.ch hc4 n4.1 n4.2,qB HV4.out hc4.kept (fun k hk q=>by have:=HGm.out;omega),by rw [hw];exact pC HR4.out BM4.out (by decide),by rw [hw];exact jH BM4.out,hc4.blk BZ4.out (by have:=HGm.out;have:=HS1.out;omega),⟨HGz.out,HS1.out,HGm.out⟩,⟨by have:=sL HOk.out;omega,by have:=sL HOk.out;omega,fun x hx=>by have:=HFw.out x hx;omega⟩,HLs.out.1,HLs.out.2.1,HLs.out.2.2⟩);have HI5:=aK (HI4.out.ch hc4 (by have:=HG.out;have:=HGz.out;have:=HGm.out;have:=HS1.out;omega) (fun k hk=>by have:=HG.out;have:=HGz.out;have:=HGm.out;have:=HS1.out;omega));have HCh5:=aK (HCh4.out.trans hc4 (fun k hk=> .inr (by have:=HBW.out;have:=HGz.out;have:=HGm.out;have:=HS1.out;omega)));clear hw hc4 n4 HO4 HR4 HV4 BM4 BZ4 HI4 HCh4;clear c0 c1 c2 c3 c4;clear f0 f1 f2 f3 f4
 go_wp2_with (go_at_call 63;refine bF (fun hng=>?_))
 refine hng ?_;clear hng;refine (jF _ g 16 w0 _ HI5.out zM (by have:=HMs5.out.l0;omega) (by have:=HMs5.out.l0;omega)).mono ?_;rintro e w6 ⟨q,rfl,hq,hi,hk⟩;have hst:=HI5.out.step hi hk;have HI6:=aK hi;have HCh6:=aK (HCh5.out.then_ hst);have HMs6:=aK (HMs5.out.ch hst (fun k hk=>by have:=HG.out;omega));clear hst hi hk HI5 HCh5 HMs5;by_cases cq:0<q
 ·have d0 : decide (0 < q) = true := bD cq
  clear cq hq;have HD:=aK (HMs6.out.dm.mono (fun k hk=>hk.1));have BMt:=aK HMs6.out.bm;have BZt:=aK HMs6.out.bz;have HIt:=HI6;have HCht:=HCh6;clear HMs6 HI6 HCh6;go_wp2;replace HD:=aK (HD.out.ch (Ch.drew (Ch.refl (fun _=>False) _)) (fun _ _ h=>h));replace BMt:=aK (bY BMt.out);replace BZt:=aK (bY BZt.out);replace HIt:=aK HIt.out.drew;replace HCht:=aK HCht.out.drew;have z0:=(bA BZt.out 0).trans rfl;have z1:=(bA BZt.out 1).trans rfl;have z2:=(bA BZt.out 2).trans rfl;have z3:=(bA BZt.out 3).trans rfl;have z4:=(bA BZt.out 4).trans rfl;have y_0:=bL BZt.out 0;have y_1:=bL BZt.out 1;have y_2:=bL BZt.out 2;have y_3:=bL BZt.out 3;have y_4:=bL BZt.out 4;refine sT 6 (S:=fun w'=>w'.cell? ⟨gm,0,none⟩=some (.slice (some ⟨gw,0,none⟩) ws.length cW)∧w'.cell? ⟨gm,1,none⟩=some (.int .i64 y)∧w'.cell? ⟨gm,2,none⟩=some (.int .i64 t)∧w'.cell? ⟨gm,3,none⟩=some (.int .i64 o)∧w'.cell? ⟨gm,4,none⟩=some (.slice (some ⟨gc,0,none⟩) cards.length cC)) (ds:=[4]) ⟨((bA BMt.out 0).trans rfl),((bA BMt.out 1).trans rfl),((bA BMt.out 2).trans rfl),((bA BMt.out 3).trans rfl),((bA BMt.out 4).trans rfl)⟩ (fun hHeld=>?_);generalize w6.drew=wt at HD BMt BZt HIt HCht z0 z1 z2 z3 z4 y_0 y_1 y_2 y_3 y_4 hHeld ⊢;refine pS 0 20 #[true,false,false,false,false,false] ?_;refine pS 2 22 #[true,false,true,false,false,false] ?_;refine pS 3 2 #[true,false,true,true,false,false] ?_;refine tS 1 21 #[true,true,true,true,false,false] rfl rfl (by kernel_rfl) hHeld qV ?_;refine qL (i:=4) (N:=none) #[true,true,true,true,true,false] rfl rfl (by kernel_rfl) (by decide) (fun K hK=>?_);refine vN (w1:=?_) (by rfl) rfl ?_ ?_;rotate_left
  ·go_simp
   rfl
  refine hK.out _ _ ?_;clear hK K;refine pS 5 4 #[true,true,true,true,true,true] ?_;refine gT (by kernel_rfl) ?_;clear z0 y_0 z1 y_1 z2 y_2 z3 y_3 z4 y_4;go_wp2;refine fM (kG (rs:=[.tmp 2,.cell 3 29,.tmp 4]) rfl (by simp) (.tmp (.cell gz 29 #[.slice (some ⟨gw,0,none⟩) ws.length cW,.int .i64 y,.int .i64 t,.int .i64 o,.slice (some ⟨gc,0,none⟩) cards.length cC] (0,0) _ rfl (jH BZt.out) Try.underlying29 rfl (by kernel_rfl) (.tmp .nil)))) rfl ?_;exact (show Dm _ w.heap.size (fun k=>w.heap.size≤k∧k≠gz) _ _ _ _ _ _ _ _ by rw [←HBW.out];exact HD.out).ret HIt.out (by omega) HCht.out (by have:=HG.out;have:=HBW.out;omega) (by have:=HGz.out;have:=HBW.out;omega)
 ·have d0 : decide (0 < q) = false := bM cq
  clear cq hq;have k0:=(bA HMs6.out.bm 0).trans rfl
  go_wp2_with fail
  go_at_call 63;refine (jF _ g ws.length w0 _ HI6.out zM (by have:=HMs6.out.l0;omega) (by have:=HMs6.out.l0;omega)).mono ?_;rintro e w7 ⟨at_,rfl,hat,hi,hk⟩;have hst:=HI6.out.step hi hk;have HI7:=aK hi;have HCh7:=aK (HCh6.out.then_ hst);have HMs7:=aK (HMs6.out.ch hst (fun k hk=>by have:=HG.out;omega));have HAt:=aK hat;clear hat k0;clear hst hi hk HI6 HCh6 HMs6
  go_wp2_with fail
  go_at_call 63;refine (jF _ g 10 w0 _ HI7.out zM (by have:=HMs7.out.l0;omega) (by have:=HMs7.out.l0;omega)).mono ?_;rintro e w8 ⟨s,rfl,hs,hi,hk⟩;have hst:=HI7.out.step hi hk;have HI8:=aK hi;have HCh8:=aK (HCh7.out.then_ hst);have HMs8:=aK (HMs7.out.ch hst (fun k hk=>by have:=HG.out;omega));clear hst hi hk HI7 HCh7 HMs7
  go_upto_block 0 with fail
  go_cut [5,7] from 30 to 102 (fun v5 v7 wx=> ∃(A5:Option Addr) (n5 c5:Nat) (A0:Option Addr) (n0 c0:Nat) (A4:Option Addr) (n4 c4:Nat) (A9:Option Addr) (n9 c9:Nat) (cs:Cs) (ws:List Int) (y t o:Int) (cards:List Bool) (rt:List Int),v5= .slice A5 n5 c5∧v7= .slice A9 n9 c9∧Aside0 (Dm wx b0 (fun k=>b0≤k∧k≠gz) (.slice A5 n5 c5) (.slice A0 n0 c0) (.slice A4 n4 c4) (.slice A9 n9 c9) cs ws cards rt)∧Aside0 (wx.heap[gm]? =some (.cells #[.slice A0 n0 c0,.int .i64 y,.int .i64 t,.int .i64 o,.slice A4 n4 c4] 29 (0,0)))∧Aside0 (wx.heap[gz]? =some (.cells #[.slice none 0 0,.int .i64 0,.int .i64 0,.int .i64 0,.slice none 0 0] 29 (0,0)))∧Aside0 (xG (M+6000) w0 wx g)∧Aside0 (Ch (fun k=>k=g) w wx))
  case first =>
   have hs10:s=0∨s=1∨s=2∨s=3∨s=4∨s=5∨s=6∨s=7∨s=8∨s=9:=by omega
   clear hs;rcases hs10 with rfl|rfl|rfl|rfl|rfl|rfl|rfl|rfl|rfl|rfl
   ·have k0 := (bA HMs8.out.bm 0).trans rfl
    go_wp2;replace HMs8:=aK (HMs8.out.ch (Ch.drew (Ch.refl (fun _=>False) _)) (fun _ h=>h.elim));replace HI8:=aK HI8.out.drew;replace HCh8:=aK HCh8.out.drew;have p1:=bO HAt.out.1;have p2:=bO HAt.out.2;clear k0;refine sT 8 (S:=fun w'=>w'.cell? ⟨gm,0,none⟩=some (.slice (some ⟨gw,0,none⟩) ws.length cW)) (ds:=[7]) (((bA HMs8.out.bm 0).trans rfl)) (fun hHeld=>?_);generalize w8.drew=w8a at HMs8 HI8 HCh8 hHeld ⊢;refine pS 0 36 #[true,false,false,false,false,false,false,false] ?_;refine pS 2 38 #[true,false,true,false,false,false,false,false] ?_;refine pS 3 39 #[true,false,true,true,false,false,false,false] ?_;refine tS 1 37 #[true,true,true,true,false,false,false,false] rfl rfl (by kernel_rfl) hHeld (by intro w' s0;go_simp;with_reducible rfl) ?_;refine oS 4 40 #[true,true,true,true,true,false,false,false] rfl rfl (fun K hK=>?_);refine gO Try.func63 #[.pointer (some ⟨g,0,none⟩),.int .i64 9] ?_;(with_reducible refine (jF _ g 9 w0 _ HI8.out zM (by omega) (by omega)).mono ?_);rintro e w8b ⟨y9,rfl,hy9,hi,hk⟩;refine ⟨_,rfl,?_⟩;have hst:=HI8.out.step hi hk;have HI9:=aK hi;have HCh9:=aK (HCh8.out.then_ hst);have HMs9:=aK (HMs8.out.ch hst (fun k hk=>by have:=HG.out;omega));clear hst hi hk hy9 HI8 HCh8 HMs8;obtain ⟨x0,fx0⟩:=HMs9.out.om.wcell at_ HAt.out.1 HAt.out.2;refine hK.out _ _ (((bA HMs9.out.bm 0).trans rfl)) (fun hHeld=>?_);clear hK K;refine nS 40 ?_;refine pS 5 41 #[true,true,true,true,true,true,false,false] ?_;refine pS 6 42 #[true,true,true,true,true,true,true,false] ?_;refine qL (i:=7) (N:=none) #[true,true,true,true,true,true,true,true] rfl rfl (by kernel_rfl) (by decide) (fun K hK=>?_);refine vN (w1:=?_) (by rfl) rfl ?_ ?_;rotate_left
    ·go_simp
     rfl
    refine hK.out _ _ ?_;clear hK K;refine gT (by kernel_rfl) ?_;obtain ⟨w9,hw⟩: ∃z,z=w8b.setCell ⟨gw,at_.toNat,none⟩ (.int .i64 (wrap64 (y9 - 3))):=⟨_,rfl⟩;rw [←hw];have hO9:OM s1 gw cW gc cC w9 (ws.set at_.toNat (wrap64 (y9 - 3))) cards:=by rw [hw];exact HMs9.out.om.setw at_ (wrap64 (y9 - 3))
    have hc9:Ch (fun z=>z=gw) w8b w9:=by rw [hw];exact (Ch.refl (fun z=>z=gw) _).set (.inl rfl) _
    have HMa:=aK (HMs9.out.word hc9 hO9 (dV));have HD:=aK (HMa.out.dm.mono (fun k hk=>hk.1));have BMt:=aK HMa.out.bm;have BZt:=aK HMa.out.bz;have HIt:=aK (HI9.out.ch hc9 (by have:=HMs9.out.om.bw;have:=HMs9.out.ge;have:=HG.out;omega) (fun z hz=>by have:=HMs9.out.om.bw;have:=HMs9.out.ge;have:=HG.out;omega));have HCht:=aK (HCh9.out.trans hc9 (fun z hz=> .inr (by have:=HMs9.out.om.bw;have:=HMs9.out.ge;have:=HBW.out;omega)));clear hO9 hc9 hw x0 fx0 HMs9 HI9 HCh9;simp only [dV] at HD BMt;go_wp2;go_meet;exact ⟨_,_,_,_,_,_,_,_,_,_,_,_,_,_,_,_,_,_,_,rfl,rfl,HD,BMt,BZt,⟨HIt.out.le (by omega)⟩,HCht⟩
   ·go_wp2_with fail
    go_at_call 63;refine (jF _ g 12 w0 _ HI8.out zM (by have:=HMs8.out.l0;omega) (by have:=HMs8.out.l0;omega)).mono ?_;rintro e w9 ⟨p9,rfl,hp9,hi,hk⟩;have hst:=HI8.out.step hi hk;have HI9:=aK hi;have HCh9:=aK (HCh8.out.then_ hst);have HMs9:=aK (HMs8.out.ch hst (fun k hk=>by have:=HG.out;omega));have k2:=(bA HMs9.out.bm 2).trans rfl;have fk2:=bL HMs9.out.bm 2;clear hp9;clear hst hi hk HI8 HCh8 HMs8
    go_wp2_with ((with_reducible refine fX (t:=3) (p:=47) rfl ?_);refine bF (fun hng=>?_))
    refine hng ?_;clear hng;refine fN (t:=3) (p:=47) (v:=?vs1) (w1:=(w9.setCell ⟨gm,2,none⟩ (.int .i64 p9))) ?hg ?ho ?hn ?hr ?_
    (case ho=>rfl)
    (case hg=>rfl)
    (case hn=>rfl)
    (case hr=>first|(go_simp;done)|(go_simp;rfl))
    intro wa hw;clear k2 fk2;have hc9:Ch (fun z=>z=gm) w9 wa:=by rw [hw];exact (Ch.refl (fun z=>z=gm) _).set (.inl rfl) _
    have HD:=aK ((HMs9.out.dm.ch hc9 (fun z hz=>hz.2)).mono (fun z hz=>hz.1));have BMt:=aK (show wa.heap[gm]? =some (.cells #[.slice (some ⟨gw,0,none⟩) ws.length cW,.int .i64 y,.int .i64 p9,.int .i64 o,.slice (some ⟨gc,0,none⟩) cards.length cC] 29 (0,0)) by rw [hw];exact fF HMs9.out.bm 2 _ rfl);have BZt:=aK (hc9.blk HMs9.out.bz (by have:=HMs9.out.ge;omega));have HIt:=aK (HI9.out.ch hc9 (by have:=HMs9.out.ge;have:=HG.out;omega) (fun z hz=>by have:=HMs9.out.ge;have:=HG.out;omega));have HCht:=aK (HCh9.out.trans hc9 (fun z hz=> .inr (by have:=HMs9.out.ge;have:=HBW.out;omega)));clear hc9 hw HMs9 HI9 HCh9;go_wp2;go_meet;exact ⟨_,_,_,_,_,_,_,_,_,_,_,_,_,_,_,_,_,_,_,rfl,rfl,HD,BMt,BZt,⟨HIt.out.le (by omega)⟩,HCht⟩
   ·have k3 := (bA HMs8.out.bm 3).trans rfl
    go_wp2;replace HMs8:=aK (HMs8.out.ch (Ch.drew (Ch.refl (fun _=>False) _)) (fun _ h=>h.elim));replace HI8:=aK HI8.out.drew;replace HCh8:=aK HCh8.out.drew;clear k3;refine sT 8 (S:=fun w'=>w'.cell? ⟨gm,3,none⟩=some (.int .i64 o)) (ds:=[7]) (((bA HMs8.out.bm 3).trans rfl)) (fun hHeld=>?_);generalize w8.drew=w8a at HMs8 HI8 HCh8 hHeld ⊢;refine pS 0 50 #[true,false,false,false,false,false,false,false] ?_;refine pS 2 52 #[true,false,true,false,false,false,false,false] ?_;refine tS 1 51 #[true,true,true,false,false,false,false,false] rfl rfl (by kernel_rfl) hHeld (by intro w' s0;go_simp;with_reducible rfl) ?_;refine oS 3 53 #[true,true,true,true,false,false,false,false] rfl rfl (fun K hK=>?_);refine gO Try.func63 #[.pointer (some ⟨g,0,none⟩),.int .i64 4] ?_;(with_reducible refine (jF _ g 4 w0 _ HI8.out zM (by omega) (by omega)).mono ?_);rintro e w8b ⟨p9,rfl,hp9,hi,hk⟩;refine ⟨_,rfl,?_⟩;have hst:=HI8.out.step hi hk;have HI9:=aK hi;have HCh9:=aK (HCh8.out.then_ hst);have HMs9:=aK (HMs8.out.ch hst (fun k hk=>by have:=HG.out;omega));clear hst hi hk hp9 HI8 HCh8 HMs8;have k3:=(bA HMs9.out.bm 3).trans rfl;have fk3:=bL HMs9.out.bm 3;refine hK.out _ _ (k3) (fun hHeld=>?_);clear hK K;refine nS 53 ?_;refine pS 4 54 #[true,true,true,true,true,false,false,false] ?_;refine pS 5 55 #[true,true,true,true,true,true,false,false] ?_;refine pS 6 56 #[true,true,true,true,true,true,true,false] ?_;refine qL (i:=7) (N:=none) #[true,true,true,true,true,true,true,true] rfl rfl (by kernel_rfl) (by decide) (fun K hK=>?_);refine vN (w1:=?_) (by rfl) rfl ?_ ?_;rotate_left
    ·go_simp
     rfl
    refine hK.out _ _ ?_;clear hK K;refine gT (by kernel_rfl) ?_;obtain ⟨w9,hw⟩: ∃z,z=w8b.setCell ⟨gm,3,none⟩ (.int .i64 (wrap64 (wrap64 (o+p9) - 1))):=⟨_,rfl⟩;rw [←hw];have hc9:Ch (fun z=>z=gm) w8b w9:=by rw [hw];exact (Ch.refl (fun z=>z=gm) _).set (.inl rfl) _
    have HD:=aK ((HMs9.out.dm.ch hc9 (fun z hz=>hz.2)).mono (fun z hz=>hz.1));have BMt:=aK (show w9.heap[gm]? =some (.cells #[.slice (some ⟨gw,0,none⟩) ws.length cW,.int .i64 y,.int .i64 t,.int .i64 (wrap64 (wrap64 (o+p9) - 1)),.slice (some ⟨gc,0,none⟩) cards.length cC] 29 (0,0)) by rw [hw];exact fF HMs9.out.bm 3 _ rfl);have BZt:=aK (hc9.blk HMs9.out.bz (by have:=HMs9.out.ge;omega));have HIt:=aK (HI9.out.ch hc9 (by have:=HMs9.out.ge;have:=HG.out;omega) (fun z hz=>by have:=HMs9.out.ge;have:=HG.out;omega));have HCht:=aK (HCh9.out.trans hc9 (fun z hz=> .inr (by have:=HMs9.out.ge;have:=HBW.out;omega)));clear hc9 hw k3 fk3 HMs9 HI9 HCh9;go_wp2;go_meet;exact ⟨_,_,_,_,_,_,_,_,_,_,_,_,_,_,_,_,_,_,_,rfl,rfl,HD,BMt,BZt,⟨HIt.out.le (by omega)⟩,HCht⟩
   ·have k4 := (bA HMs8.out.bm 4).trans rfl; have fk4 := bL HMs8.out.bm 4
    go_wp2_with ((with_reducible refine dK (N:=62) rfl ?_);refine bF (fun hng=>?_))
    refine hng ?_;clear hng;refine Kd.R_make Kd.bool _ 4 rfl (N:=62) rfl 24 _ _ rfl (cards.length:Int) rfl rfl Try.underlying24 (.bool false) 1 bGa rfl (by decide) (by omega) false (ok:=fun _=>True) (okp:=fun _=>True) rfl (fun _ hk=>hk) dT (by omega) (by have:=HMs8.out.l4;omega) (bH _ _) (bV _) ?_;intro v9 w9 ho hb hg_ hnew_;have HM9:=aK (HMs8.out.below hb);have HR9:=aK (cI (fZ ho) (fun k hk=>show w8.heap.size≤k from hk.2.1));have HI9:=aK (HI8.out.below hb);have HCh9:=aK (HCh8.out.below hb);have HZ8:=aK (show gm<w8.heap.size from dN HMs8.out.bm);clear ho hb hg_ hnew_ HI8 HCh8 HMs8 k4 fk4;obtain ⟨A9,c9,e9⟩:=cL HR9.out;subst e9;have k4:=(bA HM9.out.bm 4).trans rfl;have fk4:=bL HM9.out.bm 4
    go_wp2_with ((with_reducible refine fX (t:=24) (p:=63) rfl ?_);refine bF (fun hng=>?_))
    refine hng ?_;clear hng;refine fN (t:=24) (p:=63) (v:=?vs3) (w1:=(w9.setCell ⟨gm,4,none⟩ (.slice A9 (List.replicate (cards.length:Int).toNat false).length c9))) ?hg ?ho ?hn ?hr ?_
    (case ho=>rfl)
    (case hg=>rfl)
    (case hn=>rfl)
    (case hr=>first|(go_simp;done)|(go_simp;rfl))
    intro wa hw;clear k4 fk4;have hd:=HM9.out.dm;have hc9:Ch (fun z=>z=gm) w9 wa:=by rw [hw];exact (Ch.refl (fun z=>z=gm) _).set (.inl rfl) _
    have HD:=aK (((Dm.mk hd.h5 hd.h0 (Kd.R_V (cI HR9.out (fun k hk=>(show (b0≤k∧k≠gz)∧k≠gm by have:=HZ8.out;have:=HM9.out.ge;omega)))) hd.h7 hd.l5 hd.l0 (by have:=HM9.out.l4;rw [fI];omega) hd.l7).ch hc9 (fun z hz=>hz.2)).mono (fun z hz=>hz.1));have BMt:=aK (show wa.heap[gm]? =some (.cells #[.slice (some ⟨gw,0,none⟩) ws.length cW,.int .i64 y,.int .i64 t,.int .i64 o,.slice A9 (List.replicate (cards.length:Int).toNat false).length c9] 29 (0,0)) by rw [hw];exact fF HM9.out.bm 4 _ rfl);have BZt:=aK (hc9.blk HM9.out.bz (by have:=HM9.out.ge;omega));have HIt:=aK (HI9.out.ch hc9 (by have:=HM9.out.ge;have:=HG.out;omega) (fun z hz=>by have:=HM9.out.ge;have:=HG.out;omega));have HCht:=aK (HCh9.out.trans hc9 (fun z hz=> .inr (by have:=HM9.out.ge;have:=HBW.out;omega)));clear hd hc9 hw HM9 HI9 HCh9 HR9;simp only [fI,dF] at HD BMt;go_wp2;go_meet;exact ⟨_,_,_,_,_,_,_,_,_,_,_,_,_,_,_,_,_,_,_,rfl,rfl,HD,BMt,BZt,⟨HIt.out.le (by omega)⟩,HCht⟩
   ·have k4 := (bA HMs8.out.bm 4).trans rfl; have fk4 := bL HMs8.out.bm 4
    have hcc:=(cD HMs8.out.om.hc).2.1;have h4_:=HMs8.out.l4;have p1:=bO (show 1≤cards.length by omega);have p2:=bO (show (1:Int)≤(cards.length:Int) by omega);have p3:=pO (show¬cC=1 by omega);have p4:=bO (show 1≤cC by omega);have p5:=bO (show (1:Int)≤(cC:Int) by omega);clear hcc h4_
    go_wp2_with ((with_reducible refine fX (t:=24) (p:=69) rfl ?_);refine bF (fun hng=>?_))
    refine hng ?_;clear hng;refine fN (t:=24) (p:=69) (v:=?vs4) (w1:=(w8.setCell ⟨gm,4,none⟩ (.slice (some ⟨gc,1,none⟩) (cards.length - 1) (cC - 1)))) ?hg ?ho ?hn ?hr ?_
    (case ho=>rfl)
    (case hg=>rfl)
    (case hn=>rfl)
    (case hr=>first|(go_simp;done)|(go_simp;rfl))
    intro wa hw;clear p1 p2 p3 p4 p5;clear k4 fk4;have hc9:Ch (fun z=>z=gm) w8 wa:=by rw [hw];exact (Ch.refl (fun z=>z=gm) _).set (.inl rfl) _
    have HD:=aK ((HMs8.out.cut.ch hc9 (fun z hz=>hz.2)).mono (fun z hz=>hz.1));have BMt:=aK (show wa.heap[gm]? =some (.cells #[.slice (some ⟨gw,0,none⟩) ws.length cW,.int .i64 y,.int .i64 t,.int .i64 o,.slice (some ⟨gc,1,none⟩) (cards.length - 1) (cC - 1)] 29 (0,0)) by rw [hw];exact fF HMs8.out.bm 4 _ rfl);have BZt:=aK (hc9.blk HMs8.out.bz (by have:=HMs8.out.ge;omega));have HIt:=aK (HI8.out.ch hc9 (by have:=HMs8.out.ge;have:=HG.out;omega) (fun z hz=>by have:=HMs8.out.ge;have:=HG.out;omega));have HCht:=aK (HCh8.out.trans hc9 (fun z hz=> .inr (by have:=HMs8.out.ge;have:=HBW.out;omega)));clear hc9 hw HMs8 HI8 HCh8;go_wp2;go_meet;exact ⟨_,_,_,_,_,_,_,_,_,_,_,_,_,_,_,_,_,_,_,rfl,rfl,HD,BMt,BZt,⟨HIt.out.le (by omega)⟩,HCht⟩
   ·have k1 := (bA HMs8.out.bm 1).trans rfl; have fk1 := bL HMs8.out.bm 1
    go_wp2_with ((with_reducible refine fX (t:=3) (p:=75) rfl ?_);refine bF (fun hng=>?_))
    refine hng ?_;clear hng;refine fN (t:=3) (p:=75) (v:=?vs5) (w1:=(w8.setCell ⟨gm,1,none⟩ (.int .i64 (wrap64 (y+1))))) ?hg ?ho ?hn ?hr ?_
    (case ho=>rfl)
    (case hg=>rfl)
    (case hn=>rfl)
    (case hr=>first|(go_simp;done)|(go_simp;rfl))
    intro wa hw;clear k1 fk1;have hc9:Ch (fun z=>z=gm) w8 wa:=by rw [hw];exact (Ch.refl (fun z=>z=gm) _).set (.inl rfl) _
    have HD:=aK ((HMs8.out.dm.ch hc9 (fun z hz=>hz.2)).mono (fun z hz=>hz.1));have BMt:=aK (show wa.heap[gm]? =some (.cells #[.slice (some ⟨gw,0,none⟩) ws.length cW,.int .i64 (wrap64 (y+1)),.int .i64 t,.int .i64 o,.slice (some ⟨gc,0,none⟩) cards.length cC] 29 (0,0)) by rw [hw];exact fF HMs8.out.bm 1 _ rfl);have BZt:=aK (hc9.blk HMs8.out.bz (by have:=HMs8.out.ge;omega));have HIt:=aK (HI8.out.ch hc9 (by have:=HMs8.out.ge;have:=HG.out;omega) (fun z hz=>by have:=HMs8.out.ge;have:=HG.out;omega));have HCht:=aK (HCh8.out.trans hc9 (fun z hz=> .inr (by have:=HMs8.out.ge;have:=HBW.out;omega)));clear hc9 hw HMs8 HI8 HCh8;go_wp2;go_meet;exact ⟨_,_,_,_,_,_,_,_,_,_,_,_,_,_,_,_,_,_,_,rfl,rfl,HD,BMt,BZt,⟨HIt.out.le (by omega)⟩,HCht⟩
   ·have k0 := (bA HMs8.out.bm 0).trans rfl; have fk0 := bL HMs8.out.bm 0
    go_wp2_with ((with_reducible refine jK (b:= .append) (xs:= #[.tmp 79,.tmp 80]) rfl ?_);refine bF (fun hng=>?_))
    refine hng ?_;clear hng
    at_builtin
    refine sE (Kd.int .i64) (w0:=w8) s1 rfl (.tmp 79) (.tmp 80) 23 3 (.int .i64 0) 8 rfl Try.underlying23 qT rfl (by decide) (by omega) (.slice (some ⟨gw,0,none⟩) ws.length cW) ws 0 [.int .i64 0] (fun k=>k=gw∨w8.heap.size≤k) (fun _=>False) rfl (by first|rfl|(go_simp;done)|(go_simp;rfl)) ?aP (fun _ hk=>hk.elim) ?aF ?aO ?aB ?aS ?aL ?_
    (case aP=>exact rfl)
    (case aB=>exact bH _ _)
    (case aF=>exact fun k hk=> .inr hk)
    (case aO=>exact cI HMs8.out.om.hw (fun k hk=> .inl hk))
    (case aS=>have:=HMs8.out.om.bw;omega)
    (case aL=>have:=HMs8.out.l0;omega)
    intro v9 w9 ho hbn hgr hat;have hc9:Ch (fun z=>z=gw) w8 w9:=(Ch.refl _ w8).grown hgr (fun k e=> .inl (bE e).symm)
    obtain ⟨A9,c9,e9⟩:=cL ho;subst e9;obtain ⟨hd,hbm,hbz⟩:=HMs8.out.grow hc9 ho (fun k hk=>hk) (by have:=HMs8.out.l0;simp;omega);simp only [cH,sU,List.length_nil,sA] at hd;have HD9:=aK hd;have BM9:=aK hbm;have BZ9:=aK hbz;have HGE:=aK HMs8.out.ge;have HI9:=aK (HI8.out.ch hc9 (by have:=HMs8.out.om.bw;have:=HMs8.out.ge;have:=HG.out;omega) (fun z hz=>by have:=HMs8.out.om.bw;have:=HMs8.out.ge;have:=HG.out;omega));have HCh9:=aK (HCh8.out.trans hc9 (fun z hz=> .inr (by have:=HMs8.out.om.bw;have:=HMs8.out.ge;have:=HBW.out;omega)));clear ho hbn hgr hat hd hbm hbz hc9 HMs8 HI8 HCh8 k0 fk0;have k0:=(bA BM9.out 0).trans rfl;have fk0:=bL BM9.out 0
    go_wp2_with ((with_reducible refine fX (t:=23) (p:=82) rfl ?_);refine bF (fun hng=>?_))
    refine hng ?_;clear hng;refine fN (t:=23) (p:=82) (v:=?vs6) (w1:=(w9.setCell ⟨gm,0,none⟩ (.slice A9 (ws.length+1) c9))) ?hg ?ho ?hn ?hr ?_
    (case ho=>rfl)
    (case hg=>rfl)
    (case hn=>rfl)
    (case hr=>first|(go_simp;done)|(go_simp;rfl))
    intro wa hw;clear k0 fk0;have hc9:Ch (fun z=>z=gm) w9 wa:=by rw [hw];exact (Ch.refl (fun z=>z=gm) _).set (.inl rfl) _
    have HD:=aK ((HD9.out.ch hc9 (fun z hz=>hz.2)).mono (fun z hz=>hz.1));have BMt:=aK (show wa.heap[gm]? =some (.cells #[.slice A9 (ws.length+1) c9,.int .i64 y,.int .i64 t,.int .i64 o,.slice (some ⟨gc,0,none⟩) cards.length cC] 29 (0,0)) by rw [hw];exact fF BM9.out 0 _ rfl);have BZt:=aK (hc9.blk BZ9.out (by have:=HGE.out;omega));have HIt:=aK (HI9.out.ch hc9 (by have:=HGE.out;have:=HG.out;omega) (fun z hz=>by have:=HGE.out;have:=HG.out;omega));have HCht:=aK (HCh9.out.trans hc9 (fun z hz=> .inr (by have:=HGE.out;have:=HBW.out;omega)));clear hc9 hw HD9 BM9 BZ9 HI9 HCh9;go_wp2;go_meet;exact ⟨_,_,_,_,_,_,_,_,_,_,_,_,_,_,_,_,_,_,_,rfl,rfl,HD,BMt,BZt,⟨HIt.out.le (by omega)⟩,HCht⟩
   ·go_wp2
    replace HMs8:=aK (HMs8.out.ch (Ch.drew (Ch.refl (fun _=>False) _)) (fun _ h=>h.elim));replace HI8:=aK (HI8.out.drew.le (L:=M+5990) (by omega));replace HCh8:=aK HCh8.out.drew;refine sT 15 (S:=fun w'=>w'.cell? ⟨gm,0,none⟩=some (.slice (some ⟨gw,0,none⟩) ws.length cW)) (ds:=[13]) (((bA HMs8.out.bm 0).trans rfl)) (fun hHeld=>?_);generalize w8.drew=w8a at HMs8 HI8 HCh8 hHeld ⊢;refine cJ 0 ?_;refine cJ 1 ?_;refine cJ 2 ?_;refine cJ 3 ?_;refine cJ 8 ?_;refine tS 4 89 (lA 15 287) rfl rfl (by kernel_rfl) hHeld (by intro w' s0;go_simp;with_reducible rfl) ?_;refine cJ 5 ?_;refine cJ 6 ?_;refine bJi (σ:=Nat×Int) 5 (lA 15 1023) (fun s=>[(92,.slice (some ⟨s.1,0,none⟩) 3 3),(94,.int .i64 s.2)]) (fun s w'=>(0≤s.2∧s.2<3)∧w'.heap[s.1]? =some (.cells #[.int .i64 (-1),.int .i64 (wrap64 (at_+1)),.int .i64 (wrap64 ((ws.length:Int)+1))] 3 (0,0))∧xG (M+5990+1) w0 w' g∧Ch (fun k=>k=g) w w'∧Ms b0 s1 gz gm gw cW gc cC w' (.slice A cs.length cA) (.slice A7 rt.length c7) cs ws y t o cards rt∧(w'.cell? ⟨gm,0,none⟩=some (.slice (some ⟨gw,0,none⟩) ws.length cW))) ?_ ?_;rotate_left
    ·intro hCont
     refine bIh (i:=7) (j:=9) (Ni:=some 92) (Nj:=some 94) (lA 15 511) (lA 15 895) rfl rfl rfl rfl (by kernel_rfl) (by decide) (by decide) (fun K hK=>?_) (fun K hK=>?_)
     ·skip
      refine rH (w1:=?_) (v:=?_) (by rfl) rfl ?_ ?_;rotate_left 2
      ·go_simp
       constructor
       ·rfl
       ·rfl
      refine hK.out _ _ ((bU (bJ (bH _ _) _) hHeld)) (fun hHeld=>?_);clear hK K;refine nS 92 ?_;refine oS 9 94 (lA 15 1023) rfl rfl (fun K hK=>?_);refine gO Try.func63 #[.pointer (some ⟨g,0,none⟩),.int .i64 3] ?_;(with_reducible refine (jF _ g 3 w0 _ (HI8.out.alloc (.cells #[.int .i64 (-1),.int .i64 (wrap64 (at_+1)),.int .i64 (wrap64 ((ws.length:Int)+1))] 3 (0,0))) zM (by omega) (by omega)).mono ?_);rintro e w9 ⟨y9,rfl,hy9,hi,hk⟩;refine ⟨_,rfl,?_⟩;have hst:=(HI8.out.alloc (.cells #[.int .i64 (-1),.int .i64 (wrap64 (at_+1)),.int .i64 (wrap64 ((ws.length:Int)+1))] 3 (0,0))).step hi hk;have HL9:=aK (hst.blk (kU w8a (.cells #[.int .i64 (-1),.int .i64 (wrap64 (at_+1)),.int .i64 (wrap64 ((ws.length:Int)+1))] 3 (0,0))) (by have:=HG.out;have:=HMs8.out.ge;have:=dN HMs8.out.bm;omega));have HI9:=aK hi;have HCh9:=aK ((HCh8.out.alloc (.cells #[.int .i64 (-1),.int .i64 (wrap64 (at_+1)),.int .i64 (wrap64 ((ws.length:Int)+1))] 3 (0,0))).then_ hst);have HMs9:=aK ((HMs8.out.below (bJ (bH _ _) (.cells #[.int .i64 (-1),.int .i64 (wrap64 (at_+1)),.int .i64 (wrap64 ((ws.length:Int)+1))] 3 (0,0)))).ch hst (fun k hk=>by have:=HG.out;omega));have hy9_:=aK hy9;clear hst hi hk hy9;refine hK.out _ _ (((bA HMs9.out.bm 0).trans rfl)) (fun hHeld=>?_);clear hK K;refine nS 94 ?_;exact sH bCw (hCont (w8a.heap.size,y9) _ ⟨hy9_.out,HL9.out,HI9.out,HCh9.out,HMs9.out,hHeld⟩)
     ·skip
      refine gO Try.func63 #[.pointer (some ⟨g,0,none⟩),.int .i64 3] ?_;(with_reducible refine (jF _ g 3 w0 _ HI8.out zM (by omega) (by omega)).mono ?_);rintro e w9 ⟨y9,rfl,hy9,hi,hk⟩;refine ⟨_,rfl,?_⟩;have hst:=HI8.out.step hi hk;have HI9:=aK hi;have HCh9:=aK (HCh8.out.then_ hst);have HMs9:=aK (HMs8.out.ch hst (fun k hk=>by have:=HG.out;omega));have hy9_:=aK hy9;clear hst hi hk hy9;refine hK.out _ _ (((bA HMs9.out.bm 0).trans rfl)) (fun hHeld=>?_);clear hK K;refine nS 94 ?_;refine pD (i:=7) (N:=some 92) (lA 15 1023) rfl rfl (by kernel_rfl) (by decide) (fun K hK=>?_);refine rH (w1:=?_) (v:=?_) (by rfl) rfl ?_ ?_;rotate_left 2
      ·go_simp
       constructor
       ·rfl
       ·rfl
      refine hK.out _ _ ((bU (bJ (bH _ _) _) hHeld)) (fun hHeld=>?_);clear hK K;refine nS 92 ?_;exact sH bCw (hCont (w9.heap.size,y9) _ ⟨hy9_.out,kU w9 _,HI9.out.alloc _,HCh9.out.alloc _,HMs9.out.below (bJ (bH _ _) _),hHeld⟩)
    rintro ⟨gl,y9⟩ w9 ⟨hy,hl,hi,hch,hm,hHeld⟩;have HI9:=aK hi;have HCh9:=aK hch;have HMs9:=aK hm;have q5:=bO hy.1;have q6:=bO hy.2
    obtain ⟨z,hz⟩: ∃z,w9.cell? ⟨gl,y9.toNat,none⟩=some (.int .i64 z):=by
     have h4:y9.toNat=0∨y9.toNat=1∨y9.toNat=2:=by omega
     rcases h4 with h4|h4|h4<;>rw [h4]
     ·exact ⟨_,(bA hl 0).trans rfl⟩
     ·exact ⟨_,(bA hl 1).trans rfl⟩
     ·exact ⟨_,(bA hl 2).trans rfl⟩
    clear hi hch hm hl hy HMs8 HCh8 HI8;refine sH (a':=?_) ?_ ?_;rotate_left
    ·simp only [zZ, Act.put, dU, fY, fT]
     rfl
    refine pS 10 95 (lA 15 2047) ?_;refine pD (i:=11) (N:=some 96) (lA 15 4095) rfl rfl (by kernel_rfl) (by decide) (fun K hK=>?_);refine rH (w1:=?_) (v:=?_) (by rfl) rfl ?_ ?_;rotate_left 2
    ·go_simp
     constructor
     ·rfl
     ·rfl
    refine hK.out _ _ (hHeld) (fun hHeld=>?_);clear hK K;refine nS 96 ?_;refine pD (i:=12) (N:=some 97) (lA 15 8191) rfl rfl (by kernel_rfl) (by decide) (fun K hK=>?_);refine rH (w1:=?_) (v:=?_) (by rfl) rfl ?_ ?_;rotate_left 2
    ·go_simp
     constructor
     ·rfl
     ·rfl
    refine hK.out _ _ ((bU (bJ (bH _ _) _) hHeld)) (fun hHeld=>?_);clear hK K;refine nS 97 ?_;refine qL (i:=13) (N:=some 98) (lA 15 16383) rfl rfl (by kernel_rfl) (by decide) (fun K hK=>?_);refine Kd.R_append_step (Kd.int .i64) s1 (by rfl) (.tmp 85) (.tmp 97) 23 3 (.int .i64 0) 8 rfl Try.underlying23 qT rfl (by decide) (by omega) (.slice A7 rt.length c7) rt z [.int .i64 z] (fun k=>k≠gw∧k≠gc) (fun _=>False) rfl rfl ?aP (fun _ hk=>hk.elim) ?aF ?aO (bH _ _) ?aS ?aL ?_
    (case aP=>exact rfl)
    (case aF=>exact fun k hk=>by have:=HMs9.out.om.bw;have:=HMs9.out.om.bc;omega)
    (case aO=>exact HMs9.out.r7)
    (case aS=>have:=HMs9.out.om.bw;omega)
    (case aL=>have:=HMs9.out.l7;omega)
    intro v8 wb ho hbn hgr hat;obtain ⟨hd,hbm,hbz⟩:=HMs9.out.roots hgr ho (by have:=HMs9.out.l7;simp;omega);obtain ⟨AN,cN,eN⟩:=cL ho;subst eN;simp only [cH,sU,List.length_nil,sA] at hd;have HD:=aK hd;have BMt:=aK hbm;have BZt:=aK hbz;have hbs: ∀k,(Value.slice A7 rt.length c7).ownBlock=some k→s1≤k:=fun k e=>nN HMs9.out.h7 k e
    have HIt:=aK (HI9.out.grown hgr (fun e=>by have:=hbs g e.symm;have:=HG.out;have:=HMs9.out.ge;omega) (fun k e=>by have:=hbs k e;have:=HG.out;have:=HMs9.out.ge;omega));have HCht:=aK (HCh9.out.grown hgr (fun k e=> .inr (by have:=hbs k e;have:=HBW.out;have:=HMs9.out.ge;omega)));clear ho hbn hgr hat hd hbm hbz hbs HMs9 HI9 HCh9;refine hK.out _ _ ?_;clear hK K;refine nS 98 ?_;refine cJ 14 ?_;refine gT (by kernel_rfl) ?_;go_wp2;go_meet;exact ⟨_,_,_,_,_,_,_,_,_,_,_,_,_,_,_,_,_,_,_,rfl,rfl,HD,BMt,BZt,⟨HIt.out.le (by omega)⟩,HCht⟩
   ·go_wp2_with (go_at_call 64; refine bF (fun hng => ?_))
    refine hng ?_;clear hng;refine (off_any _ g w0 _ HI8.out zM).mono ?_;rintro e w9 ⟨A9,c9,cs9,rfl,hl,hf,hV,hi,hk⟩;have hst:=HI8.out.step hi hk;have HIt:=aK hi;have HCht:=aK (HCh8.out.then_ hst);have HM9:=aK (HMs8.out.ch hst (fun k hk=>by have:=HG.out;omega));have HZ8:=aK (show gm<w8.heap.size from dN HMs8.out.bm);have HD:=aK (show Dm w9 b0 (fun k=>b0≤k∧k≠gz) (.slice A9 cs9.length c9) (.slice (some ⟨gw,0,none⟩) ws.length cW) (.slice (some ⟨gc,0,none⟩) cards.length cC) (.slice A7 rt.length c7) cs9 ws cards rt from (by have hd:=HM9.out.dm.mono (fun k hk=>hk.1);exact Dm.mk (qA hV (fun k hk=>(show b0≤k∧k≠gz by have:=HZ8.out;have:=HM9.out.ge;omega))) hd.h0 hd.h4 hd.h7 ⟨hl.1,hl.2.1,hf⟩ hd.l0 hd.l4 hd.l7));have BMt:=aK HM9.out.bm;have BZt:=aK HM9.out.bz;clear hl hf hV hi hk hst HI8 HCh8 HMs8;go_wp2;go_meet;exact ⟨_,_,_,_,_,_,_,_,_,_,_,_,_,_,_,_,_,_,_,rfl,rfl,HD,BMt,BZt,⟨HIt.out.le (by omega)⟩,HCht⟩
   ·have k0 := (bA HMs8.out.bm 0).trans rfl
    have p1:=bO HAt.out.1;have p2:=bO HAt.out.2;obtain ⟨x0,fx0⟩:=HMs8.out.om.wcell at_ HAt.out.1 HAt.out.2
    go_wp2_with ((with_reducible refine fX (t:=3) (p:=33) rfl ?_);refine bF (fun hng=>?_))
    refine hng ?_;clear hng;refine fN (t:=3) (p:=33) (v:=?vs9) (w1:=(w8.setCell ⟨gw,at_.toNat,none⟩ (.int .i64 300))) ?hg ?ho ?hn ?hr ?_
    (case ho=>rfl)
    (case hg=>rfl)
    (case hn=>rfl)
    (case hr=>first|(go_simp;done)|(go_simp;rfl))
    intro wa hw;clear k0 x0 fx0;have hO9:OM s1 gw cW gc cC wa (ws.set at_.toNat 300) cards:=by rw [hw];exact HMs8.out.om.setw at_ 300
    have hc9:Ch (fun z=>z=gw) w8 wa:=by rw [hw];exact (Ch.refl (fun z=>z=gw) _).set (.inl rfl) _
    have HMa:=aK (HMs8.out.word hc9 hO9 (dV));have HD:=aK (HMa.out.dm.mono (fun k hk=>hk.1));have BMt:=aK HMa.out.bm;have BZt:=aK HMa.out.bz;have HIt:=aK (HI8.out.ch hc9 (by have:=HMs8.out.om.bw;have:=HMs8.out.ge;have:=HG.out;omega) (fun z hz=>by have:=HMs8.out.om.bw;have:=HMs8.out.ge;have:=HG.out;omega));have HCht:=aK (HCh8.out.trans hc9 (fun z hz=> .inr (by have:=HMs8.out.om.bw;have:=HMs8.out.ge;have:=HBW.out;omega)));clear hO9 hc9 hw HMs8 HI8 HCh8;simp only [dV] at HD BMt;go_wp2;go_meet;exact ⟨_,_,_,_,_,_,_,_,_,_,_,_,_,_,_,_,_,_,_,rfl,rfl,HD,BMt,BZt,⟨HIt.out.le (by omega)⟩,HCht⟩
  case rest=>
   clear HMs8 HI8 HCh8 HAt hs;obtain ⟨A5,n5,c5,A0,n0,c0,A4,n4,c4,A9,n9,c9,cs',ws',y',t',o',cards',rt',rfl,rfl,HD,BMt,BZt,HIt,HCht⟩:=hcut;go_wp2;replace HD:=aK (HD.out.ch (Ch.drew (Ch.refl (fun _=>False) _)) (fun _ _ h=>h));replace BMt:=aK (bY BMt.out);replace BZt:=aK (bY BZt.out);replace HIt:=aK HIt.out.drew;replace HCht:=aK HCht.out.drew;have z0:=(bA BZt.out 0).trans rfl;have z1:=(bA BZt.out 1).trans rfl;have z2:=(bA BZt.out 2).trans rfl;have z3:=(bA BZt.out 3).trans rfl;have z4:=(bA BZt.out 4).trans rfl;have y_0:=bL BZt.out 0;have y_1:=bL BZt.out 1;have y_2:=bL BZt.out 2;have y_3:=bL BZt.out 3;have y_4:=bL BZt.out 4;refine sT 6 (S:=fun w'=>w'.cell? ⟨gm,0,none⟩=some (.slice A0 n0 c0)∧w'.cell? ⟨gm,1,none⟩=some (.int .i64 y')∧w'.cell? ⟨gm,2,none⟩=some (.int .i64 t')∧w'.cell? ⟨gm,3,none⟩=some (.int .i64 o')∧w'.cell? ⟨gm,4,none⟩=some (.slice A4 n4 c4)) (ds:=[4]) ⟨((bA BMt.out 0).trans rfl),((bA BMt.out 1).trans rfl),((bA BMt.out 2).trans rfl),((bA BMt.out 3).trans rfl),((bA BMt.out 4).trans rfl)⟩ (fun hHeld=>?_);generalize wc.drew=wt at HD BMt BZt HIt HCht z0 z1 z2 z3 z4 y_0 y_1 y_2 y_3 y_4 hHeld ⊢;refine pS 0 103 #[true,false,false,false,false,false] ?_;refine pS 2 105 #[true,false,true,false,false,false] ?_;refine pS 3 2 #[true,false,true,true,false,false] ?_;refine tS 1 104 #[true,true,true,true,false,false] rfl rfl (by kernel_rfl) hHeld qV ?_;refine qL (i:=4) (N:=none) #[true,true,true,true,true,false] rfl rfl (by kernel_rfl) (by decide) (fun K hK=>?_);refine vN (w1:=?_) (by rfl) rfl ?_ ?_;rotate_left
   ·go_simp
    rfl
   refine hK.out _ _ ?_;clear hK K;refine pS 5 4 #[true,true,true,true,true,true] ?_;refine gT (by kernel_rfl) ?_;clear z0 y_0 z1 y_1 z2 y_2 z3 y_3 z4 y_4;go_wp2;refine fM (kG (rs:=[.tmp 2,.cell 3 29,.tmp 4]) rfl (by simp) (.tmp (.cell gz 29 #[.slice A0 n0 c0,.int .i64 y',.int .i64 t',.int .i64 o',.slice A4 n4 c4] (0,0) _ rfl (jH BZt.out) Try.underlying29 rfl (by kernel_rfl) (.tmp .nil)))) rfl ?_;exact (show Dm _ w.heap.size (fun k=>w.heap.size≤k∧k≠gz) _ _ _ _ _ _ _ _ by rw [←HBW.out];exact HD.out).ret HIt.out (by omega) HCht.out (by have:=HG.out;have:=HBW.out;omega) (by have:=HGz.out;have:=HBW.out;omega)
structure Dr (W:World) (ok:Nat→Prop) (A5:Option Addr) (c5:Nat) (A0:Option Addr) (c0:Nat) (A4:Option Addr) (c4:Nat) (cs:Cs) (ws:List Int) (cards:List Bool):Prop where
 h5:Kd.V tU 53 W 0 ok (.slice A5 cs.length c5) cs
 h0:Kd.V (Kd.int .i64) 3 W 0 ok (.slice A0 ws.length c0) ws
 h4:Kd.V Kd.bool 4 W 0 ok (.slice A4 cards.length c4) cards
 l5:1≤cs.length∧cs.length≤9∧∀x∈cs,x.f1.length≤3
 l0:1≤ws.length∧ws.length≤1000
 l4:cards.length≤1000
section
variable {b0:Nat} {W w1:World} {A5 A0 A4:Option Addr} {c5 c0 c4:Nat} {v7:Value} {cs:Cs} {ws:List Int} {cards:List Bool} {rt:List Int} {ok ok' S:Nat→Prop}
theorem Dr.of (h:Dm W b0 ok (.slice A5 cs.length c5) (.slice A0 ws.length c0) (.slice A4 cards.length c4) v7 cs ws cards rt):Dr W ok A5 c5 A0 c0 A4 c4 cs ws cards:=⟨h.h5,h.h0,h.h4,h.l5,h.l0,h.l4⟩
theorem Dr.ch (h:Dr W ok A5 c5 A0 c0 A4 c4 cs ws cards) (hc:Ch S W w1) (hS: ∀k,ok k→¬S k):Dr w1 ok A5 c5 A0 c0 A4 c4 cs ws cards:=⟨qB h.h5 hc.kept hS,qB h.h0 hc.kept hS,qB h.h4 hc.kept hS,h.l5,h.l0,h.l4⟩
theorem Dr.below (h:Dr W ok A5 c5 A0 c0 A4 c4 cs ws cards) (hb:Below W.heap.size W w1):Dr w1 ok A5 c5 A0 c0 A4 c4 cs ws cards:=⟨kY h.h5 hb,kY h.h0 hb,kY h.h4 hb,h.l5,h.l0,h.l4⟩
theorem Dr.mono (h:Dr W ok A5 c5 A0 c0 A4 c4 cs ws cards) (hS: ∀k,ok k→ok' k):Dr W ok' A5 c5 A0 c0 A4 c4 cs ws cards:=⟨qA h.h5 hS,qA h.h0 hS,qA h.h4 hS,h.l5,h.l0,h.l4⟩
theorem Dr.bound (h:Dr W ok A5 c5 A0 c0 A4 c4 cs ws cards):Dr W (fun k=>ok k∧k<W.heap.size) A5 c5 A0 c0 A4 c4 cs ws cards:=⟨Kd.V_bound h.h5,Kd.V_bound h.h0,Kd.V_bound h.h4,h.l5,h.l0,h.l4⟩
theorem Dr.C5 (h:Dr W ok A5 c5 A0 c0 A4 c4 cs ws cards):tU.C W A5 cs.length cs:=(qG h.h5).2.2
theorem Dr.n5 (h:Dr W ok A5 c5 A0 c0 A4 c4 cs ws cards):cs.length≤c5:=(qG h.h5).2.1
theorem Dr.C0 (h:Dr W ok A5 c5 A0 c0 A4 c4 cs ws cards):(Kd.int .i64).C W A0 ws.length ws:=(qG h.h0).2.2
theorem Dr.n0 (h:Dr W ok A5 c5 A0 c0 A4 c4 cs ws cards):ws.length≤c0:=(qG h.h0).2.1
theorem Dr.C4 (h:Dr W ok A5 c5 A0 c0 A4 c4 cs ws cards):Kd.bool.C W A4 cards.length cards:=(qG h.h4).2.2
theorem Dr.n4 (h:Dr W ok A5 c5 A0 c0 A4 c4 cs ws cards):cards.length≤c4:=(qG h.h4).2.1
end
def DrawPR (w:World) (e:Ending) (w':World):Prop:= ∃(A5:Option Addr) (c5:Nat) (A0:Option Addr) (c0:Nat) (A4:Option Addr) (c4:Nat) (A7:Option Addr) (c7:Nat) (cs:Cs) (ws:List Int) (y t o:Int) (cards:List Bool) (rt:List Int),e= .returned (.tuple #[.slice A5 cs.length c5,.agg #[.slice A0 ws.length c0,.int .i64 y,.int .i64 t,.int .i64 o,.slice A4 cards.length c4],.slice A7 rt.length c7])∧Dr w' (fun k=>w.heap.size≤k) A5 c5 A0 c0 A4 c4 cs ws cards∧Kd.V (Kd.int .i64) 3 w' 0 (fun k=>w.heap.size≤k) (.slice A7 rt.length c7) rt∧rt.length≤100∧Below w.heap.size w w'
theorem bMa (AC:Option Addr) (cC:Nat) (lC:List Int) (w:World) (hr0:Kd.C (Kd.int .u8) w AC lC.length lC) (hc0:lC.length≤cC) (hl: ∀x∈lC,(Lit.int .u8 x).wf=true):
  Calls Try.prog 20 #[.slice AC lC.length cC] w (DrawPR w):=by
 have HR0:=aK hr0;have HC0:=aK hc0;have HL:=aK hl;clear hr0 hc0 hl;go_enter Try.func20,Try.ntmps20
 go_wp2_with ((with_reducible refine dK (N:=3) rfl ?_);refine bF (fun hng=>?_))
 refine hng ?_;clear hng;refine dM ?hg (N:=3) ?hd (cs:= #[.slice none 0 0,.int .i64 0,.int .i64 0,.int .i64 0,.slice none 0 0]) (t:=29) ?hr ?_
 (case hd=>rfl)
 (case hg=>rfl)
 (case hr=>first|(go_simp;done)|(go_simp;rfl))
 intro gz hg w1 hbox hb;have BZ1:=aK hbox;have HB1:=aK hb;have HGz:=aK (show w.heap.size≤gz by rw [hg];exact bV _);clear hb hbox hg
 go_wp2_with (go_at_call 38;refine bF (fun hng=>?_))
 refine hng ?_;clear hng;refine (bRk AC cC lC _ (cG HR0.out HB1.out) HC0.out HL.out).mono ?_;rintro e w2 ⟨g,rfl,hi,hge,hb⟩;have HI2:=aK hi;have HG:=aK (show gz<g from pZ (dN BZ1.out) hge);have HB2:=aK (bK HB1.out hb);have BZ2:=aK (bS BZ1.out hb);clear hi hge hb HB1 BZ1 HR0 HC0 HL
 go_wp2_with (go_at_call 37;refine bF (fun hng=>?_))
 refine hng ?_;clear hng;refine (mem_any 0 g _ _ HI2.out (by omega)).mono ?_;rintro e w3 ⟨v5,v0,v4,v7,cs,ws,y,t,o,cards,rt,rfl,hd,hi,hc⟩;obtain ⟨A5,c5,rfl⟩:=Kd.V_slice hd.h5;obtain ⟨A0,c0,rfl⟩:=Kd.V_slice hd.h0;obtain ⟨A4,c4,rfl⟩:=Kd.V_slice hd.h4;obtain ⟨A7,c7,rfl⟩:=Kd.V_slice hd.h7;have HD4:=aK ((Dr.of hd).mono (ok':=fun k=>gz<k) (fun k hk=>by have:=dN BZ2.out;omega));have HR4:=aK (qA hd.h7 (ok':=fun k=>gz<k) (fun k hk=>by have:=dN BZ2.out;omega));have HL7:=aK hd.l7;have HB4:=aK (HB2.out.trans (hc.toBelow (B:=w.heap.size) (bW HB2.out) (fun k hk=>by have:=HG.out;have:=HGz.out;omega)));have BM4:=aK (hc.blk BZ2.out (by have:=HG.out;omega));clear hd hi hc HB2 BZ2 HI2 HG;have qc0:=(bA BM4.out 0).trans rfl;have qc1:=(bA BM4.out 1).trans rfl;have qc2:=(bA BM4.out 2).trans rfl;have qc3:=(bA BM4.out 3).trans rfl;have qc4:=(bA BM4.out 4).trans rfl;have qf0:=bL BM4.out 0;have qf1:=bL BM4.out 1;have qf2:=bL BM4.out 2;have qf3:=bL BM4.out 3;have qf4:=bL BM4.out 4
 go_wp2_with ((with_reducible refine fX (t:=29) (p:=3) rfl ?_);refine bF (fun hng=>?_))
 refine hng ?_;clear hng;refine fN (t:=29) (p:=3) (v:=?vm1) (w1:=(nF w3 gz (.slice A0 ws.length c0) (.int .i64 y) (.int .i64 t) (.int .i64 o) (.slice A4 cards.length c4))) ?hg ?ho ?hn ?hr ?_
 (case ho=>rfl)
 (case hg=>rfl)
 (case hn=>rfl)
 (case hr=>first|(go_simp;done)|(go_simp;rfl))
 intro w5 hw;have hc4:Ch (fun k=>k=gz) w3 w5:=by rw [hw];exact (Ch.refl (fun k=>k=gz) _).box5 (.inl rfl) _ _ _ _ _
 have HD5:=aK ((HD4.out.ch hc4 (fun k hk=>by omega)).mono (ok':=fun k=>w.heap.size≤k) (fun k hk=>by have:=HGz.out;omega));have HR5:=aK (qA (qB HR4.out hc4.kept (fun k hk=>by omega)) (ok':=fun k=>w.heap.size≤k) (fun k hk=>by have:=HGz.out;omega));have BZ5:=aK (show w5.heap[gz]? =some (.cells #[.slice A0 ws.length c0,.int .i64 y,.int .i64 t,.int .i64 o,.slice A4 cards.length c4] 29 (0,0)) by rw [hw];exact jH BM4.out);have HB5:=aK (HB4.out.trans (hc4.toBelow (B:=w.heap.size) (bW HB4.out) (fun k hk=>by have:=HGz.out;omega)));clear hw hc4 HD4 HB4 BM4 HR4;clear qc0 qc1 qc2 qc3 qc4;clear qf0 qf1 qf2 qf3 qf4;go_wp2;refine fM (kG (rs:=[.tmp 2,.cell 3 29,.tmp 4]) rfl (by simp) (.tmp (.cell gz 29 #[.slice A0 ws.length c0,.int .i64 y,.int .i64 t,.int .i64 o,.slice A4 cards.length c4] (0,0) _ rfl BZ5.out Try.underlying29 rfl (by kernel_rfl) (.tmp .nil)))) rfl ?_;exact ⟨A5,c5,A0,c0,A4,c4,A7,c7,cs,ws,y,t,o,cards,rt,rfl,HD5.out,HR5.out,by have:=HL7.out;omega,HB5.out⟩
end Go.Proofs.Ytbaklikaoleplaa.K
