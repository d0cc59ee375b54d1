import Derived.Test.YtbaklikaoleplaaPh24
import Derived.Test.YtbaklikaoleplaaPh28
import Derived.Test.YtbaklikaoleplaaPh26
import Derived.Test.YtbaklikaoleplaaPh25
set_option maxHeartbeats 32000000
set_option maxRecDepth 100000
namespace Go.Proofs.Ytbaklikaoleplaa.K
open Go.RowKit Go.Proofs.YtbaklikaoleplaaW.PrintWords Go.Proofs.YtbaklikaoleplaaW.PrintLast Go.Proofs.YtbaklikaoleplaaW.PrintMore
attribute [local go_sem] gD gB gY gW fR fQ gC gA
set_option linter.unusedVariables false
set_option linter.unusedSimpArgs false
def spec_l21Put.f (l0_0:List Int) (a0_1:Int) (a0_2:Int) (a0_3:Int) (l0_4:List Bool) (a1:Int) (a2:Int) (a3:Bool):Option (List Int×Int×Int×Int×List Bool):=if 0≤a1 then (if a1<(l0_0.length:Int) then ((some (l0_0.set (a1:Int).toNat a2:List Int)).bind fun y403=>(if a3=true then (if a1≥a0_1 then ((fK a2 1 a0_1).bind fun t404=>(if t404=true then (if 0≤(wrap64 (Int.tdiv (wrap64 (a1 - a0_1)) 4)) then (if (wrap64 (Int.tdiv (wrap64 (a1 - a0_1)) 4))<(l0_4.length:Int) then (some (y403,a0_1,a0_2,a0_3,(l0_4.set ((wrap64 (Int.tdiv (wrap64 (a1 - a0_1)) 4)):Int).toNat true))) else (none)) else (none)) else (some (y403,a0_1,a0_2,a0_3,l0_4)))) else (some (y403,a0_1,a0_2,a0_3,l0_4))) else (some (y403,a0_1,a0_2,a0_3,l0_4)))) else (none)) else (none)
end Go.Proofs.Ytbaklikaoleplaa.K
namespace Go.Proofs.Ytbaklikaoleplaa.Pure
open Go.RowKit Go.Proofs.Ytbaklikaoleplaa.K Go.Proofs.YtbaklikaoleplaaW.PrintWords Go.Proofs.YtbaklikaoleplaaW.PrintLast Go.Proofs.YtbaklikaoleplaaW.PrintMore
set_option linter.unusedVariables false
set_option linter.unusedSimpArgs false
theorem jS (a b c:Int):fK a b c=some (decide (b≤a∧a≤c)):=by
 unfold fK;by_cases h:a≥b
 ·rw [if_pos h];simp [show b≤a from h]
 ·rw [if_neg h];simp [show¬b≤a from h]
def yB (ws:List Int) (y:Int) (cards:List Bool) (i v:Int) (ref:Bool):List Int×List Bool:=
  (ws.set i.toNat v,if ref=true∧i≥y∧1≤v∧v≤y then cards.set ((i - y)/4).toNat true else cards)
end Go.Proofs.Ytbaklikaoleplaa.Pure
namespace Go.Proofs.Ytbaklikaoleplaa.K
open Go.RowKit Go.Proofs.YtbaklikaoleplaaW.PrintWords Go.Proofs.YtbaklikaoleplaaW.PrintLast Go.Proofs.YtbaklikaoleplaaW.PrintMore
attribute [local go_sem] gD gB gY gW fR fQ gC gA
set_option linter.unusedVariables false
set_option linter.unusedSimpArgs false
open Go.Proofs.Ytbaklikaoleplaa.Pure
theorem bOh (b gw cW gc cC:Nat) (ws:List Int) (y t o:Int) (cards:List Bool) (i v:Int) (ref:Bool) (w:World) (h:OM b gw cW gc cC w ws cards) (hn:ws.length≤1048576) (h0:0≤i) (h1:i<ws.length) (hy:0≤y∧y≤40) (hcd:i≥y→(i - y)/4<(cards.length:Int)):
  Calls Try.prog 113 #[.agg #[.slice (some ⟨gw,0,none⟩) ws.length cW,.int .i64 y,.int .i64 t,.int .i64 o,.slice (some ⟨gc,0,none⟩) cards.length cC],.int .i64 i,.int .i64 v,.bool ref] w fun e w'=>e= .returned (.agg #[.slice (some ⟨gw,0,none⟩) ws.length cW,.int .i64 y,.int .i64 t,.int .i64 o,.slice (some ⟨gc,0,none⟩) cards.length cC])∧OM b gw cW gc cC w' (yB ws y cards i v ref).1 (yB ws y cards i v ref).2∧Ch (fun k=>k=gw∨k=gc) w w':=by
 have HO:=aK h;have H1:=aK (show (0≤i∧i<ws.length)∧ws.length≤1048576∧(0≤y∧y≤40)∧(i≥y→(i - y)/4<(cards.length:Int)) from ⟨⟨h0,h1⟩,hn,hy,hcd⟩);have HGW:=aK (show gw<w.heap.size∧gc<w.heap.size∧gw≠gc from ⟨h.bw.2,h.bc.2,h.ne⟩);have p1:=bO h0;have p2:=bO h1;clear h hn h0 h1 hy hcd
 cases ref with
 |false=>
  rw [show yB ws y cards i v false=(ws.set i.toNat v,cards) from by unfold yB;rw [if_neg (by simp)]];go_enter Try.func113,Try.ntmps113
  go_wp2_with (first|((with_reducible refine dK (N:=4) rfl ?_);refine dM ?hg (N:=4) ?hd (cs:= #[.slice (some ⟨gw,0,none⟩) ws.length cW,.int .i64 y,.int .i64 t,.int .i64 o,.slice (some ⟨gc,0,none⟩) cards.length cC]) (t:=29) ?hr ?_;(case hd=>rfl);(case hg=>rfl);(case hr=>first|(go_simp;done)|(go_simp;rfl));intro gp hg w1 hbox hb;have BP:=aK hbox;have HCh:=aK ((Ch.refl (fun k=>k=gw∨k=gc) w).below hb);have HGp:=aK (show w.heap.size≤gp by rw [hg];exact bV _);have HC0:=aK ((Ch.refl (fun _=>False) w).below hb);clear hb hbox hg)|((with_reducible refine dK (N:=8) rfl ?_);refine dM ?hg (N:=8) ?hd (cs:= #[.slice none 0 0,.int .i64 0,.int .i64 0,.int .i64 0,.slice none 0 0]) (t:=29) ?hr ?_;(case hd=>rfl);(case hg=>rfl);(case hr=>first|(go_simp;done)|(go_simp;rfl));intro gr hg w2 hbox hb;have BR:=aK hbox;have HGr:=aK (show w.heap.size≤gr∧gp<gr by have:=HCh.out.size;have:=dN BP.out;rw [hg];exact ⟨by omega,by omega⟩);replace BP:=aK (bS BP.out hb);replace HCh:=aK (HCh.out.below hb);replace HC0:=aK (HC0.out.below hb);have HO2:=aK (HO.out.ch HC0.out (fun h=>h) (fun h=>h));have c0:=(bA BP.out 0).trans rfl;have c1:=(bA BP.out 1).trans rfl;have c2:=(bA BP.out 2).trans rfl;have c3:=(bA BP.out 3).trans rfl;have c4:=(bA BP.out 4).trans rfl;obtain ⟨x0,f0⟩:=HO2.out.wcell i H1.out.1.1 H1.out.1.2;clear hb hbox hg)|((with_reducible refine fX (t:=3) (p:=13) rfl ?_);refine fN (t:=3) (p:=13) (v:=?vo1) (w1:=(w2.setCell ⟨gw,i.toNat,none⟩ (.int .i64 v))) ?hg ?ho ?hn ?hr ?_;(case ho=>rfl);(case hg=>rfl);(case hn=>rfl);(case hr=>first|(go_simp;done)|(go_simp;rfl));intro w3 hw;have HO3:=aK (show OM b gw cW gc cC w3 (ws.set i.toNat v) cards by rw [hw];exact HO2.out.setw i v);have HC3:=aK (show Ch (fun k=>k=gw∨k=gc) w w3 by rw [hw];exact HCh.out.set (.inl (.inl rfl)) _);have BP3:=aK (show w3.heap[gp]? =some (.cells #[.slice (some ⟨gw,0,none⟩) ws.length cW,.int .i64 y,.int .i64 t,.int .i64 o,.slice (some ⟨gc,0,none⟩) cards.length cC] 29 (0,0)) by rw [hw];exact jG BP.out (by have:=HGp.out;have:=HGW.out;show gp≠gw;omega) _);have BR3:=aK (show w3.heap[gr]? =some (.cells #[.slice none 0 0,.int .i64 0,.int .i64 0,.int .i64 0,.slice none 0 0] 29 (0,0)) by rw [hw];exact jG BR.out (by have:=HGr.out;have:=HGW.out;show gr≠gw;omega) _);clear hw x0 f0 HO2 HCh BP BR HC0;clear c0 c1 c2 c3 c4;have c0:=(bA BP3.out 0).trans rfl;have c1:=(bA BP3.out 1).trans rfl;have c2:=(bA BP3.out 2).trans rfl;have c3:=(bA BP3.out 3).trans rfl;have c4:=(bA BP3.out 4).trans rfl;have z0:=(bA BR3.out 0).trans rfl;have z1:=(bA BR3.out 1).trans rfl;have z2:=(bA BR3.out 2).trans rfl;have z3:=(bA BR3.out 3).trans rfl;have z4:=(bA BR3.out 4).trans rfl;have y_0:=bL BR3.out 0;have y_1:=bL BR3.out 1;have y_2:=bL BR3.out 2;have y_3:=bL BR3.out 3;have y_4:=bL BR3.out 4))
  refine fM (jY rfl _ _ gr 29 #[.slice (some ⟨gw,0,none⟩) ws.length cW,.int .i64 y,.int .i64 t,.int .i64 o,.slice (some ⟨gc,0,none⟩) cards.length cC] (0,0) _ rfl (jH BR3.out) Try.underlying29 rfl (by kernel_rfl)) rfl ?_;exact ⟨rfl,HO3.out.ch (Ch.box5 (Ch.refl (fun k=>k=gr) _) (.inl rfl) _ _ _ _ _) tW tW,HC3.out.box5 (.inr HGr.out.1) _ _ _ _ _⟩
 | true =>
  by_cases c1:y≤i
  ·have d1 : decide (y ≤ i) = true := bD c1
   by_cases c2:1≤v∧v≤y
   ·skip
    have HV:=aK (show decide (1≤v∧v≤y)=true from bD c2);rw [show yB ws y cards i v true=(ws.set i.toNat v,cards.set ((i - y)/4).toNat true) from by unfold yB;rw [if_pos ⟨rfl,by omega,c2⟩]];go_enter Try.func113,Try.ntmps113;have h_:=H1.out;have hcd_:=h_.2.2.2 c1;obtain ⟨E,hE⟩: ∃E,E=(i - y)/4:=⟨_,rfl⟩;have q1:IntKind.i64.wrap (i - y)=i - y:=dD _ (by omega)
    have q2:Int.tdiv (i - y) 4=E:=by rw [jB (by omega),hE]
    have q2':(i - y)/4=E:=hE.symm
    have q3:IntKind.i64.wrap E=E:=dD _ (by omega)
    rw [q2'];have p3:=bO (show 0≤E by omega);have p4:=bO (show E<(cards.length:Int) by omega);have HE:=aK (show 0≤E∧E<(cards.length:Int) by omega);clear h_ hcd_ hE c1 c2
    go_wp2_with (first|((with_reducible refine dK (N:=4) rfl ?_);refine dM ?hg (N:=4) ?hd (cs:= #[.slice (some ⟨gw,0,none⟩) ws.length cW,.int .i64 y,.int .i64 t,.int .i64 o,.slice (some ⟨gc,0,none⟩) cards.length cC]) (t:=29) ?hr ?_;(case hd=>rfl);(case hg=>rfl);(case hr=>first|(go_simp;done)|(go_simp;rfl));intro gp hg w1 hbox hb;have BP:=aK hbox;have HCh:=aK ((Ch.refl (fun k=>k=gw∨k=gc) w).below hb);have HGp:=aK (show w.heap.size≤gp by rw [hg];exact bV _);have HC0:=aK ((Ch.refl (fun _=>False) w).below hb);clear hb hbox hg)|((with_reducible refine dK (N:=8) rfl ?_);refine dM ?hg (N:=8) ?hd (cs:= #[.slice none 0 0,.int .i64 0,.int .i64 0,.int .i64 0,.slice none 0 0]) (t:=29) ?hr ?_;(case hd=>rfl);(case hg=>rfl);(case hr=>first|(go_simp;done)|(go_simp;rfl));intro gr hg w2 hbox hb;have BR:=aK hbox;have HGr:=aK (show w.heap.size≤gr∧gp<gr by have:=HCh.out.size;have:=dN BP.out;rw [hg];exact ⟨by omega,by omega⟩);replace BP:=aK (bS BP.out hb);replace HCh:=aK (HCh.out.below hb);replace HC0:=aK (HC0.out.below hb);have HO2:=aK (HO.out.ch HC0.out (fun h=>h) (fun h=>h));have c0:=(bA BP.out 0).trans rfl;have c1:=(bA BP.out 1).trans rfl;have c2:=(bA BP.out 2).trans rfl;have c3:=(bA BP.out 3).trans rfl;have c4:=(bA BP.out 4).trans rfl;obtain ⟨x0,f0⟩:=HO2.out.wcell i H1.out.1.1 H1.out.1.2;clear hb hbox hg)|((with_reducible refine fX (t:=3) (p:=13) rfl ?_);refine fN (t:=3) (p:=13) (v:=?vo1) (w1:=(w2.setCell ⟨gw,i.toNat,none⟩ (.int .i64 v))) ?hg ?ho ?hn ?hr ?_;(case ho=>rfl);(case hg=>rfl);(case hn=>rfl);(case hr=>first|(go_simp;done)|(go_simp;rfl));intro w3 hw;have HO3:=aK (show OM b gw cW gc cC w3 (ws.set i.toNat v) cards by rw [hw];exact HO2.out.setw i v);have HC3:=aK (show Ch (fun k=>k=gw∨k=gc) w w3 by rw [hw];exact HCh.out.set (.inl (.inl rfl)) _);have BP3:=aK (show w3.heap[gp]? =some (.cells #[.slice (some ⟨gw,0,none⟩) ws.length cW,.int .i64 y,.int .i64 t,.int .i64 o,.slice (some ⟨gc,0,none⟩) cards.length cC] 29 (0,0)) by rw [hw];exact jG BP.out (by have:=HGp.out;have:=HGW.out;show gp≠gw;omega) _);have BR3:=aK (show w3.heap[gr]? =some (.cells #[.slice none 0 0,.int .i64 0,.int .i64 0,.int .i64 0,.slice none 0 0] 29 (0,0)) by rw [hw];exact jG BR.out (by have:=HGr.out;have:=HGW.out;show gr≠gw;omega) _);clear hw x0 f0 HO2 HCh BP BR HC0;clear c0 c1 c2 c3 c4;have c0:=(bA BP3.out 0).trans rfl;have c1:=(bA BP3.out 1).trans rfl;have c2:=(bA BP3.out 2).trans rfl;have c3:=(bA BP3.out 3).trans rfl;have c4:=(bA BP3.out 4).trans rfl;obtain ⟨x1,f1⟩:=HO3.out.ccell E HE.out.1 HE.out.2)|(go_at_call 73;refine (cZ v 1 y true _ (by rw [jS,HV.out])).mono ?_;rintro e w' ⟨rfl,⟨nd,rfl⟩⟩)|((with_reducible refine fX (t:=4) (p:=34) rfl ?_);refine fN (t:=4) (p:=34) (v:=?vo2) (w1:=((w3.drewN nd).setCell ⟨gc,E.toNat,none⟩ (.bool true))) ?hg ?ho ?hn ?hr ?_;(case ho=>rfl);(case hg=>rfl);(case hn=>rfl);(case hr=>first|(go_simp;done)|(go_simp;rfl));intro w4 hw;have HO4:=aK (show OM b gw cW gc cC w4 (ws.set i.toNat v) (cards.set E.toNat true) by rw [hw];exact (HO3.out.ch ((Ch.refl (fun _=>False) _).drewN nd) (fun h=>h) (fun h=>h)).setc E true);have HC4:=aK (show Ch (fun k=>k=gw∨k=gc) w w4 by rw [hw];exact (HC3.out.drewN nd).set (.inl (.inr rfl)) _);have BP4:=aK (show w4.heap[gp]? =some (.cells #[.slice (some ⟨gw,0,none⟩) ws.length cW,.int .i64 y,.int .i64 t,.int .i64 o,.slice (some ⟨gc,0,none⟩) cards.length cC] 29 (0,0)) by rw [hw];exact jG (bX BP3.out nd) (by have:=HGp.out;have:=HGW.out;show gp≠gc;omega) _);have BR4:=aK (show w4.heap[gr]? =some (.cells #[.slice none 0 0,.int .i64 0,.int .i64 0,.int .i64 0,.slice none 0 0] 29 (0,0)) by rw [hw];exact jG (bX BR3.out nd) (by have:=HGr.out;have:=HGW.out;show gr≠gc;omega) _);clear hw x1 f1 HO3 HC3 BP3 BR3;clear c0 c1 c2 c3 c4;have c0:=(bA BP4.out 0).trans rfl;have c1:=(bA BP4.out 1).trans rfl;have c2:=(bA BP4.out 2).trans rfl;have c3:=(bA BP4.out 3).trans rfl;have c4:=(bA BP4.out 4).trans rfl;have z0:=(bA BR4.out 0).trans rfl;have z1:=(bA BR4.out 1).trans rfl;have z2:=(bA BR4.out 2).trans rfl;have z3:=(bA BR4.out 3).trans rfl;have z4:=(bA BR4.out 4).trans rfl;have y_0:=bL BR4.out 0;have y_1:=bL BR4.out 1;have y_2:=bL BR4.out 2;have y_3:=bL BR4.out 3;have y_4:=bL BR4.out 4))
    refine fM (jY rfl _ _ gr 29 #[.slice (some ⟨gw,0,none⟩) ws.length cW,.int .i64 y,.int .i64 t,.int .i64 o,.slice (some ⟨gc,0,none⟩) cards.length cC] (0,0) _ rfl (jH BR4.out) Try.underlying29 rfl (by kernel_rfl)) rfl ?_;exact ⟨rfl,HO4.out.ch (Ch.box5 (Ch.refl (fun k=>k=gr) _) (.inl rfl) _ _ _ _ _) tW tW,HC4.out.box5 (.inr HGr.out.1) _ _ _ _ _⟩
   ·skip
    have HV:=aK (show decide (1≤v∧v≤y)=false from bM c2);rw [show yB ws y cards i v true=(ws.set i.toNat v,cards) from by unfold yB;rw [if_neg (fun h=>c2 h.2.2)]];go_enter Try.func113,Try.ntmps113;clear c1 c2
    go_wp2_with (first|((with_reducible refine dK (N:=4) rfl ?_);refine dM ?hg (N:=4) ?hd (cs:= #[.slice (some ⟨gw,0,none⟩) ws.length cW,.int .i64 y,.int .i64 t,.int .i64 o,.slice (some ⟨gc,0,none⟩) cards.length cC]) (t:=29) ?hr ?_;(case hd=>rfl);(case hg=>rfl);(case hr=>first|(go_simp;done)|(go_simp;rfl));intro gp hg w1 hbox hb;have BP:=aK hbox;have HCh:=aK ((Ch.refl (fun k=>k=gw∨k=gc) w).below hb);have HGp:=aK (show w.heap.size≤gp by rw [hg];exact bV _);have HC0:=aK ((Ch.refl (fun _=>False) w).below hb);clear hb hbox hg)|((with_reducible refine dK (N:=8) rfl ?_);refine dM ?hg (N:=8) ?hd (cs:= #[.slice none 0 0,.int .i64 0,.int .i64 0,.int .i64 0,.slice none 0 0]) (t:=29) ?hr ?_;(case hd=>rfl);(case hg=>rfl);(case hr=>first|(go_simp;done)|(go_simp;rfl));intro gr hg w2 hbox hb;have BR:=aK hbox;have HGr:=aK (show w.heap.size≤gr∧gp<gr by have:=HCh.out.size;have:=dN BP.out;rw [hg];exact ⟨by omega,by omega⟩);replace BP:=aK (bS BP.out hb);replace HCh:=aK (HCh.out.below hb);replace HC0:=aK (HC0.out.below hb);have HO2:=aK (HO.out.ch HC0.out (fun h=>h) (fun h=>h));have c0:=(bA BP.out 0).trans rfl;have c1:=(bA BP.out 1).trans rfl;have c2:=(bA BP.out 2).trans rfl;have c3:=(bA BP.out 3).trans rfl;have c4:=(bA BP.out 4).trans rfl;obtain ⟨x0,f0⟩:=HO2.out.wcell i H1.out.1.1 H1.out.1.2;clear hb hbox hg)|((with_reducible refine fX (t:=3) (p:=13) rfl ?_);refine fN (t:=3) (p:=13) (v:=?vo1) (w1:=(w2.setCell ⟨gw,i.toNat,none⟩ (.int .i64 v))) ?hg ?ho ?hn ?hr ?_;(case ho=>rfl);(case hg=>rfl);(case hn=>rfl);(case hr=>first|(go_simp;done)|(go_simp;rfl));intro w3 hw;have HO3:=aK (show OM b gw cW gc cC w3 (ws.set i.toNat v) cards by rw [hw];exact HO2.out.setw i v);have HC3:=aK (show Ch (fun k=>k=gw∨k=gc) w w3 by rw [hw];exact HCh.out.set (.inl (.inl rfl)) _);have BP3:=aK (show w3.heap[gp]? =some (.cells #[.slice (some ⟨gw,0,none⟩) ws.length cW,.int .i64 y,.int .i64 t,.int .i64 o,.slice (some ⟨gc,0,none⟩) cards.length cC] 29 (0,0)) by rw [hw];exact jG BP.out (by have:=HGp.out;have:=HGW.out;show gp≠gw;omega) _);have BR3:=aK (show w3.heap[gr]? =some (.cells #[.slice none 0 0,.int .i64 0,.int .i64 0,.int .i64 0,.slice none 0 0] 29 (0,0)) by rw [hw];exact jG BR.out (by have:=HGr.out;have:=HGW.out;show gr≠gw;omega) _);clear hw x0 f0 HO2 HCh BP BR HC0;clear c0 c1 c2 c3 c4;have c0:=(bA BP3.out 0).trans rfl;have c1:=(bA BP3.out 1).trans rfl;have c2:=(bA BP3.out 2).trans rfl;have c3:=(bA BP3.out 3).trans rfl;have c4:=(bA BP3.out 4).trans rfl;have z0:=(bA BR3.out 0).trans rfl;have z1:=(bA BR3.out 1).trans rfl;have z2:=(bA BR3.out 2).trans rfl;have z3:=(bA BR3.out 3).trans rfl;have z4:=(bA BR3.out 4).trans rfl;have y_0:=bL BR3.out 0;have y_1:=bL BR3.out 1;have y_2:=bL BR3.out 2;have y_3:=bL BR3.out 3;have y_4:=bL BR3.out 4)|(go_at_call 73;refine (cZ v 1 y false _ (by rw [jS,HV.out])).mono ?_;rintro e w' ⟨rfl,⟨nd,rfl⟩⟩;have HO4:=aK (HO3.out.ch ((Ch.refl (fun _=>False) _).drewN nd) (fun h=>h) (fun h=>h));have HC4:=aK (HC3.out.drewN nd);have BR4:=aK (bX BR3.out nd)))
    refine fM (jY rfl _ _ gr 29 #[.slice (some ⟨gw,0,none⟩) ws.length cW,.int .i64 y,.int .i64 t,.int .i64 o,.slice (some ⟨gc,0,none⟩) cards.length cC] (0,0) _ rfl (jH BR4.out) Try.underlying29 rfl (by kernel_rfl)) rfl ?_;exact ⟨rfl,HO4.out.ch (Ch.box5 (Ch.refl (fun k=>k=gr) _) (.inl rfl) _ _ _ _ _) tW tW,HC4.out.box5 (.inr HGr.out.1) _ _ _ _ _⟩
  ·skip
   have d1:decide (y≤i)=false:=bM c1
   rw [show yB ws y cards i v true=(ws.set i.toNat v,cards) from by unfold yB;rw [if_neg (by omega)]];go_enter Try.func113,Try.ntmps113;clear c1
   go_wp2_with (first|((with_reducible refine dK (N:=4) rfl ?_);refine dM ?hg (N:=4) ?hd (cs:= #[.slice (some ⟨gw,0,none⟩) ws.length cW,.int .i64 y,.int .i64 t,.int .i64 o,.slice (some ⟨gc,0,none⟩) cards.length cC]) (t:=29) ?hr ?_;(case hd=>rfl);(case hg=>rfl);(case hr=>first|(go_simp;done)|(go_simp;rfl));intro gp hg w1 hbox hb;have BP:=aK hbox;have HCh:=aK ((Ch.refl (fun k=>k=gw∨k=gc) w).below hb);have HGp:=aK (show w.heap.size≤gp by rw [hg];exact bV _);have HC0:=aK ((Ch.refl (fun _=>False) w).below hb);clear hb hbox hg)|((with_reducible refine dK (N:=8) rfl ?_);refine dM ?hg (N:=8) ?hd (cs:= #[.slice none 0 0,.int .i64 0,.int .i64 0,.int .i64 0,.slice none 0 0]) (t:=29) ?hr ?_;(case hd=>rfl);(case hg=>rfl);(case hr=>first|(go_simp;done)|(go_simp;rfl));intro gr hg w2 hbox hb;have BR:=aK hbox;have HGr:=aK (show w.heap.size≤gr∧gp<gr by have:=HCh.out.size;have:=dN BP.out;rw [hg];exact ⟨by omega,by omega⟩);replace BP:=aK (bS BP.out hb);replace HCh:=aK (HCh.out.below hb);replace HC0:=aK (HC0.out.below hb);have HO2:=aK (HO.out.ch HC0.out (fun h=>h) (fun h=>h));have c0:=(bA BP.out 0).trans rfl;have c1:=(bA BP.out 1).trans rfl;have c2:=(bA BP.out 2).trans rfl;have c3:=(bA BP.out 3).trans rfl;have c4:=(bA BP.out 4).trans rfl;obtain ⟨x0,f0⟩:=HO2.out.wcell i H1.out.1.1 H1.out.1.2;clear hb hbox hg)|((with_reducible refine fX (t:=3) (p:=13) rfl ?_);refine fN (t:=3) (p:=13) (v:=?vo1) (w1:=(w2.setCell ⟨gw,i.toNat,none⟩ (.int .i64 v))) ?hg ?ho ?hn ?hr ?_;(case ho=>rfl);(case hg=>rfl);(case hn=>rfl);(case hr=>first|(go_simp;done)|(go_simp;rfl));intro w3 hw;have HO3:=aK (show OM b gw cW gc cC w3 (ws.set i.toNat v) cards by rw [hw];exact HO2.out.setw i v);have HC3:=aK (show Ch (fun k=>k=gw∨k=gc) w w3 by rw [hw];exact HCh.out.set (.inl (.inl rfl)) _);have BP3:=aK (show w3.heap[gp]? =some (.cells #[.slice (some ⟨gw,0,none⟩) ws.length cW,.int .i64 y,.int .i64 t,.int .i64 o,.slice (some ⟨gc,0,none⟩) cards.length cC] 29 (0,0)) by rw [hw];exact jG BP.out (by have:=HGp.out;have:=HGW.out;show gp≠gw;omega) _);have BR3:=aK (show w3.heap[gr]? =some (.cells #[.slice none 0 0,.int .i64 0,.int .i64 0,.int .i64 0,.slice none 0 0] 29 (0,0)) by rw [hw];exact jG BR.out (by have:=HGr.out;have:=HGW.out;show gr≠gw;omega) _);clear hw x0 f0 HO2 HCh BP BR HC0;clear c0 c1 c2 c3 c4;have c0:=(bA BP3.out 0).trans rfl;have c1:=(bA BP3.out 1).trans rfl;have c2:=(bA BP3.out 2).trans rfl;have c3:=(bA BP3.out 3).trans rfl;have c4:=(bA BP3.out 4).trans rfl;have z0:=(bA BR3.out 0).trans rfl;have z1:=(bA BR3.out 1).trans rfl;have z2:=(bA BR3.out 2).trans rfl;have z3:=(bA BR3.out 3).trans rfl;have z4:=(bA BR3.out 4).trans rfl;have y_0:=bL BR3.out 0;have y_1:=bL BR3.out 1;have y_2:=bL BR3.out 2;have y_3:=bL BR3.out 3;have y_4:=bL BR3.out 4))
   refine fM (jY rfl _ _ gr 29 #[.slice (some ⟨gw,0,none⟩) ws.length cW,.int .i64 y,.int .i64 t,.int .i64 o,.slice (some ⟨gc,0,none⟩) cards.length cC] (0,0) _ rfl (jH BR3.out) Try.underlying29 rfl (by kernel_rfl)) rfl ?_;exact ⟨rfl,HO3.out.ch (Ch.box5 (Ch.refl (fun k=>k=gr) _) (.inl rfl) _ _ _ _ _) tW tW,HC3.out.box5 (.inr HGr.out.1) _ _ _ _ _⟩
end Go.Proofs.Ytbaklikaoleplaa.K
namespace Go.Proofs.Ytbaklikaoleplaa.Pure
open Go.RowKit Go.Proofs.Ytbaklikaoleplaa.K Go.Proofs.YtbaklikaoleplaaW.PrintWords Go.Proofs.YtbaklikaoleplaaW.PrintLast Go.Proofs.YtbaklikaoleplaaW.PrintMore
set_option linter.unusedVariables false
set_option linter.unusedSimpArgs false
theorem word_ev {b:List Int} (hb: ∀x∈b,0≤x∧x≤255) (hl:b.length≤2000) {p:Int} (hp:0≤p) (hp2:p≤900000):
  ∃v,∀k,3≤k→vA k b p=some (v,p+2):=by
 obtain ⟨v,v0,v1,hv⟩:=bCm hb hl hp (by omega) (show (1:Int)≤3 by omega) (by omega);by_cases c:v=0
 ·obtain ⟨u, u0, u1, hu⟩ := bCm hb hl (p := p + 1) (by omega) (by omega) (show (1 : Int) ≤ 6 by omega) (by omega)
  exact ⟨rd [0,1,2,(-1),(-128),127] u,fun k hk=>by
   unfold vA;rw [hv k (by omega),bC,if_pos c,bC,hu k (by omega),bC,if_pos u0,if_pos (by simp only [sU,List.length_nil];omega)]
   simp only [show p+1+1=p+2 by omega]⟩
 ·obtain ⟨u, u0, u1, hu⟩ := bCm hb hl (p := p + 1) (by omega) (by omega) (show (1 : Int) ≤ 12 by omega) (by omega)
  exact ⟨wrap64 (u - 3),fun k hk=>by
   unfold vA;rw [hv k (by omega),bC,if_neg c,hu k (by omega),bC]
   simp only [show p+1+1=p+2 by omega]⟩
end Go.Proofs.Ytbaklikaoleplaa.Pure
namespace Go.Proofs.Ytbaklikaoleplaa.K
open Go.RowKit Go.Proofs.YtbaklikaoleplaaW.PrintWords Go.Proofs.YtbaklikaoleplaaW.PrintLast Go.Proofs.YtbaklikaoleplaaW.PrintMore
attribute [local go_sem] gD gB gY gW fR fQ gC gA
set_option linter.unusedVariables false
set_option linter.unusedSimpArgs false
open Go.Proofs.Ytbaklikaoleplaa.Pure
theorem bQq (M:Int) (g:Nat) (w0 w:World) (h:xG M w0 w g) (hM:M≤800000):
  Calls Try.prog 112 #[.pointer (some ⟨g,0,none⟩)] w fun e w'=> ∃t:Int,e= .returned (.int .i64 t)∧xG (M+2) w0 w' g∧gZ w w' g none:=by
 obtain ⟨⟨b,p,hI,hl,hb,hp,hpM⟩,hB⟩:=h;obtain ⟨t,hv⟩:=word_ev hb hl hp (by omega);exact (bDo 3 g b p t (p+2) w0 w hI hB (hv 3 (bV _))).mono fun e w' ⟨he,hi,hbb,hk⟩=>⟨t,he,⟨⟨b,p+2,hi,hl,hb,by omega,by omega⟩,hbb⟩,hk⟩
end Go.Proofs.Ytbaklikaoleplaa.K
namespace Go.Proofs.Ytbaklikaoleplaa.Pure
open Go.RowKit Go.Proofs.Ytbaklikaoleplaa.K Go.Proofs.YtbaklikaoleplaaW.PrintWords Go.Proofs.YtbaklikaoleplaaW.PrintLast Go.Proofs.YtbaklikaoleplaaW.PrintMore
set_option linter.unusedVariables false
set_option linter.unusedSimpArgs false
theorem zW (cs:Cs): ∀(k:Nat) (a:Int),jP k cs a=gJ k cs a
  |0,a=>by rw [jP,gJ]
  |k+1,a=>by rw [jP,gJ,zW cs k]
theorem bSd {cs:Cs} (h:rP cs=true) {i:Int} (h0:0≤i) (h1:i<cs.length):(rU cs i).length≤2:=by
 have h2:=bKi h h0 h1;unfold zF at h2;simp only [dY] at h2;have h3:=h2.2;by_cases c0:i=0
 ·rw [if_pos c0, dI] at h3
  rw [c0,h3.2];simp
 rw [if_neg c0] at h3;by_cases c1:i=1
 ·rw [if_pos c1, dI] at h3
  rw [c1,h3.2];simp
 rw [if_neg c1,dI] at h3;exact h3.2
theorem bHv {cs:Cs} (h:rP cs=true): ∀a:Int,0≤a→a<cs.length→∃fs,fs.length≤2*a.toNat∧∀k,a.toNat+1≤k→gJ k cs a=some fs:=by
 refine cls_ind h ⟨[],by simp,fun k hk=>?_⟩ ?_
 ·obtain ⟨k, rfl⟩ : ∃ m, k = m + 1 := ⟨k - 1, by omega⟩
  rw [gJ,if_pos rfl]
 ·intro a ha hl ⟨fs, hfs, hk⟩
  have hs:=bHs h ha hl;have h2:=bSd h (by omega) hl;refine ⟨fs++rU cs a,by rw [cH];omega,fun k hk2=>?_⟩;obtain ⟨k,rfl⟩: ∃m,k=m+1:=⟨k - 1,by omega⟩;have e:=hk k (by omega);rw [gJ,if_neg (by omega),if_pos (by omega),if_pos hl];show ((gJ k cs (bBn cs a)).bind fun t=>if t.length+(rU cs a).length<17592186044416 then some (t++rU cs a) else none)=_
  rw [e,bC,if_pos (by have:=sL h;omega)]
def bIm (cs:Cs) (a:Int):List Int:=(gJ 10 cs a).getD []
theorem bCe {cs:Cs} (h:rP cs=true) {a:Int} (h0:0≤a) (h1:a<cs.length):(bIm cs a).length≤8∧∀k,10≤k→gJ k cs a=some (bIm cs a):=by
 have hl:=sL h;obtain ⟨fs,hf,hk⟩:=bHv h a h0 h1;have e:bIm cs a=fs:=by unfold bIm;rw [hk 10 (by omega)];rfl
 rw [e];exact ⟨by omega,fun k hk2=>hk k (by omega)⟩
def gI (cs:Cs):List (List Int):=(List.range cs.length).map (fun i:Nat=>bIm cs i)
theorem vI (cs:Cs):(gI cs).length=cs.length:=by unfold gI;simp
theorem bGv (cs:Cs) {c:Int} (h0:0≤c) (h1:c<cs.length):bIc (gI cs) c=bIm cs c:=by
 have h2:c.toNat<cs.length:=by omega
 unfold bIc gI;rw [bP,sD,xR h2];show bIm cs ((c.toNat:Nat):Int)=_
 rw [xS h0]
theorem bNx {cs:Cs} (h:rP cs=true):bFp (gI cs):=by
 intro c h0 h1;rw [vI] at h1;rw [bGv cs h0 h1];have:=(bCe h h0 h1).1
 omega
theorem bMn {cs:Cs} (h:rP cs=true):(gI cs).all (fun r=>decide (r.length≤4294967296))=true:=by
 rw [nY];intro r hr;obtain ⟨i,hi,rfl⟩:=qX hr;have h2:=bNx h (i:Int) (by omega) (by omega);unfold bIc at h2;rw [dF,bP,bT hi] at h2;exact bD h2
theorem bKo {cs:Cs} (h:rP cs=true) (d:Nat): ∀(k i:Nat),i+d=cs.length→d+11≤k→kC k cs ((List.range i).map (fun j:Nat=>bIm cs j)) cs.length i=some (gI cs):=by
 have hl:=sL h
 induction d with
 |zero=>
  intro k i hi hk;obtain ⟨k,rfl⟩: ∃m,k=m+1:=⟨k - 1,by omega⟩;rw [kC,if_neg (by omega)];unfold gI;rw [show i=cs.length by omega]
 |succ d ih=>
  intro k i hi hk;obtain ⟨k,rfl⟩: ∃m,k=m+1:=⟨k - 1,by omega⟩;rw [kC,if_pos (by omega),(bCe h (a:=(i:Int)) (by omega) (by omega)).2 k (by omega)];simp only [bC]
  rw [if_pos (by simp;omega),pQ (n:=1000) (by omega) (by omega) (by omega)];have:=ih k (i+1) (by omega) (by omega)
  rw [List.range_succ,nA] at this;exact this
theorem bFb {cs:Cs} (h:rP cs=true) (k:Nat) (hk:20≤k):sN k cs=some (gI cs):=by
 have hl:=sL h;have:=bKo h cs.length k 0 (by omega) (by omega)
 unfold sN;exact this
theorem bAt {cs:Cs} {c:Int} (n:Int) (h0:0≤c) (h1:c<cs.length):jJ (gI cs) c n=1+(bIm cs c).length:=by
  unfold jJ;rw [if_neg (by omega),vI,if_pos ⟨h0,h1⟩,bGv cs h0 h1]
theorem vS {cs:Cs} (h:rP cs=true) {ws:List Int} (hw:ws.length≤1048576) {i e:Int} (h0:0≤i) (he:e≤ws.length) (k:Nat) (hk:20≤k):
  jN k cs ws i e=some (if i<e then jV ws (gI cs) e i else 0):=by
 have hl:=sL h;unfold jN;by_cases c0:i<e
 case neg=>rw [if_pos (by omega),if_neg c0]
 case pos=>
 rw [if_neg (by omega),if_pos h0,if_pos (by omega),jS,if_pos c0,dZ (n:=(cs.length:Int) - 1) (by omega) (by omega)];simp only [bC,dI]
 obtain ⟨c,hc⟩: ∃c,c=rd ws i:=⟨_,rfl⟩;unfold jV;rw [←hc];by_cases c1:0≤c∧c≤(cs.length:Int) - 1
 ·have c1' : c < (cs.length : Int) := by omega
  obtain ⟨f1,f2⟩:=bCe h c1.1 c1';rw [if_pos c1,zW,f2 k (by omega),if_neg (by omega),bAt 0 c1.1 c1'];simp only [bC]
  rw [dZ (n:=1+((bIm cs c).length:Int)) (by omega) (by omega),dZ (n:=i+(1+((bIm cs c).length:Int))) (by omega) (by omega)];by_cases c2:i+(1+((bIm cs c).length:Int))>e
  ·rw [if_pos c2,if_neg (by omega)]
  ·rw [if_neg c2,if_pos (by omega)]
 rw [if_neg c1];obtain ⟨k,rfl⟩: ∃m,k=m+2:=⟨k - 2,by omega⟩;have w1:wrap64 (i+1)=i+1:=dZ (by omega) (by omega)
 have key: ∀b:Bool,(b=true↔(c= -1∨c= -2))→mV (k+2) ws i e 0 b=some (if c<0 then (if i+1<e then (if jJ (gI cs) c (rd ws (i+1))≤e - i then jJ (gI cs) c (rd ws (i+1)) else 0) else 0) else (if jJ (gI cs) c 0≤e - i then jJ (gI cs) c 0 else 0)):=by
  intro b hb;rw [mV];by_cases c2:c= -1∨c= -2
  ·rw [if_pos (hb.mpr c2), w1, if_pos (show c < 0 by omega)]
   by_cases c3:i+1≥e
   ·rw [if_pos c3,nM,if_pos rfl,if_neg (show¬i+1<e by omega)]
   rw [if_neg c3,if_pos (show 0≤i+1 by omega),if_pos (show i+1<(ws.length:Int) by omega),jS,if_pos (show i+1<e by omega)];simp only [bC]
   obtain ⟨n,hn⟩: ∃n,n=rd ws (i+1):=⟨_,rfl⟩;rw [←hn];have m1:jJ (gI cs) c n=if 0≤n∧n≤6 then 2+n else 0:=by unfold jJ;rw [if_pos c2]
   rw [m1,nM];by_cases c4:0≤n∧n≤6
   ·rw [bD c4, if_neg (by simp), w1, if_pos (show 0 ≤ i + 1 by omega), if_pos (show i + 1 < (ws.length : Int) by omega), if_pos c4, ← hn, dZ (n := 2 + n) (by omega) (by omega), dZ (n := i + (2 + n)) (by omega) (by omega)]
    by_cases c5:i+(2+n)>e
    ·rw [if_pos c5,if_neg (by omega)]
    ·rw [if_neg c5,if_pos (by omega)]
   ·rw [bM c4,if_pos (by simp),if_neg c4,if_pos (by omega)]
  ·rw [if_neg (fun hh => c2 (hb.mp hh)), dZ (n := i + 0) (by omega) (by omega), if_neg (by omega)]
   have m0: ∀n,jJ (gI cs) c n=0:=fun n=>by unfold jJ;rw [if_neg c2,vI,if_neg (by omega)]
   rw [m0,m0];by_cases c3:c<0
   ·rw [if_pos c3]
    by_cases c4:i+1<e
    ·rw [if_pos c4,if_pos (by omega)]
    ·rw [if_neg c4]
   ·rw [if_neg c3,if_pos (by omega)]
 by_cases c2:c= -1
 ·rw [if_pos c2,key true (by simp [c2])]
 ·rw [if_neg c2,key _ (by simp [c2])]
end Go.Proofs.Ytbaklikaoleplaa.Pure
namespace Go.Proofs.Ytbaklikaoleplaa.K
open Go.RowKit Go.Proofs.YtbaklikaoleplaaW.PrintWords Go.Proofs.YtbaklikaoleplaaW.PrintLast Go.Proofs.YtbaklikaoleplaaW.PrintMore
attribute [local go_sem] gD gB gY gW fR fQ gC gA
set_option linter.unusedVariables false
set_option linter.unusedSimpArgs false
def jU:Nat→List Int→List Bool→Int→Option (List Bool)
  |0,_,_,_=>none
  |k+1,x1,x5,x6=>if x6<(x1.length:Int) then (if 0≤x6 then (if 0≤(rd x1 x6) then (if (rd x1 x6)<(x5.length:Int) then (jU k x1 (x5.set ((rd x1 x6):Int).toNat true) (wrap64 (x6+1))) else (none)) else (none)) else (none)) else (some x5)
def mG (k:Nat) (a0:Int) (l1:List Int):Option (List Bool):=if 0≤a0 then (if (a0:Int).toNat≤281474976710656 then (jU k l1 (List.replicate (a0:Int).toNat false) 0) else (none)) else (none)
theorem xA (k : Nat) (a0 : Int) (A1 : Option Addr) (c1 : Nat) (l1 : List Int) (r : List Bool) (w : World) (hr1 : Kd.C (Kd.int .i64) w A1 l1.length l1) (hc1 : l1.length ≤ c1) (h : mG k a0 l1 = some r) :
  Calls Try.prog 42 #[.int .i64 a0,.slice A1 l1.length c1] w fun e w'=> ∃v0_:Value,e= .returned (v0_)∧Kd.R Kd.bool 4 w' w.heap.size (fun _=>True) v0_ r∧Below w.heap.size w w':=by
 have HR1:=aK hr1;have HC1:=aK hc1;clear hr1 hc1;have HB:=aK (bH w.heap.size w);have H:(if 0≤a0 then (if (a0:Int).toNat≤281474976710656 then (jU k l1 (List.replicate (a0:Int).toNat false) 0) else (none)) else (none))=some r:=h
 clear h;by_cases c3:0≤a0
 ·rw [if_pos c3] at H
  have c3b0:=bO c3;have c3b1:decide (0≤a0)=true:=bD c3
  clear c3;by_cases c4:(a0:Int).toNat≤281474976710656
  ·rw [if_pos c4] at H
   have c4b0:=bO c4;have c4b1:decide ((a0:Int).toNat≤281474976710656)=true:=bD c4
   clear c4;obtain ⟨y149,hy149⟩: ∃y_:List Bool,y_=(List.replicate (a0:Int).toNat false):=⟨_,rfl⟩;replace H:(jU k l1 y149 0)=some r:=by first|(rw [hy149];with_reducible exact H)|(have H2_:=(bC _ _).symm.trans H;rw [hy149];with_reducible exact H2_)|(have H2_:=(bC _ _).symm.trans H;with_reducible exact H2_)|with_reducible exact H|(rw [hy149];exact H)|exact H
   have Ny149:=aK hy149;clear hy149;have H':=aK H;clear H;go_enter Try.func42,Try.ntmps42
   go_wp2_with (first|((with_reducible refine dK (N:=8) rfl ?_);refine Kd.R_make Kd.bool _ 4 rfl (N:=8) rfl 24 _ _ rfl a0 rfl rfl Try.underlying24 (.bool false) 1 bGa rfl (by decide) (by omega) false (ok:=fun _=>True) (okp:=fun _=>True) rfl (fun _ hk=>hk) dT (bB jX) (dO (fE _ (bB jX:a0.toNat≤281474976710656)) (by omega)) (bH _ _) (bV _) ?_;intro v150 w5 ho6 hb hg_ hnew_;clear hg_ hnew_;(first|rw [←Ny149.out] at ho6|(simp only [Int.reduceToNat] at ho6;rw [←Ny149.out] at ho6));have HO151:=aK (dE ho6 (bW nQ));replace HB:=aK (bK nQ hb);clear hb ho6))
   go_loopg [6] k (fun kq v6 w'=> ∃(x5_1:List Bool) (x6_1:Int),v6= .int .i64 x6_1∧Aside0 (jU kq l1 x5_1 x6_1=some r)∧Aside0 (kq≤k)∧Aside0 (Kd.R Kd.bool 4 w' w.heap.size (fun _=>True) v150 x5_1)∧Aside0 (Below w.heap.size w w'))
   case atStart=>exact ⟨(y149),(0),nR,H',⟨bV _⟩,⟨by (with_reducible repeat (first|apply Kd.R_alloc|apply dA|apply dC));exact HO151.out⟩,⟨by repeat (first|(with_reducible first|exact HB.out|apply bJ|apply bI|apply bG)|exact HB.out)⟩⟩
   case round =>
    clear H';(try clear c1);(try clear p2);(try clear c3);(try clear c3b0);(try clear c3b1);(try clear c4);(try clear c4b0);(try clear c4b1);obtain ⟨x5_1,x6_1,rfl,HA,HK1,HO_5,HB⟩:=hrel
    cases gk with
    |zero=>exact absurd HA.out (by simp [jU])
    | succ k1 =>
     have H:=HA.out;clear HA;simp only [jU] at H;by_cases c7:x6_1<(l1.length:Int)
     ·rw [if_pos c7] at H
      have c7b0:decide (x6_1<(l1.length:Int))=true:=bD c7
      clear c7;by_cases c8:0≤x6_1
      ·rw [if_pos c8] at H
       have c8b0:decide (0≤x6_1)=true:=bD c8
       clear c8;by_cases c9:0≤(rd l1 x6_1)
       ·rw [if_pos c9] at H
        have c9b0:decide (0≤(rd l1 x6_1))=true:=bD c9
        clear c9;by_cases c10:(rd l1 x6_1)<(x5_1.length:Int)
        ·rw [if_pos c10] at H
         have c10b0:decide ((rd l1 x6_1)<(x5_1.length:Int))=true:=bD c10
         clear c10;obtain ⟨y153,hy153⟩: ∃y_:List Bool,y_=(x5_1.set ((rd l1 x6_1):Int).toNat true):=⟨_,rfl⟩;replace H:(jU k1 l1 y153 (wrap64 (x6_1+1)))=some r:=by first|(rw [hy153];with_reducible exact H)|(have H2_:=(bC _ _).symm.trans H;rw [hy153];with_reducible exact H2_)|(have H2_:=(bC _ _).symm.trans H;with_reducible exact H2_)|with_reducible exact H|(rw [hy153];exact H)|exact H
         have Ny153:=aK hy153;clear hy153;have H':=aK H;clear H;have p152:0≤(x6_1:Int):=bB jX
         have q152:x6_1<(l1.length:Int):=bB jX
         obtain ⟨ad152,e152,hx152_0⟩:=dL HR1.out x6_1 p152 q152
         cases e152
         replace hx152_0:=(HB.out.cell (bN w _ hx152_0)).trans hx152_0;replace p152:=bO p152;replace q152:=bO q152;have p11:0≤((rd l1 x6_1):Int):=bB jX
         have q11:((rd l1 x6_1):Int)<((x5_1.length:Int):Int):=bB jX
         obtain ⟨go11,co11,eo11,gb11,gl11,cl11,HG11⟩:=pG HO_5.out (by omega)
         (first|cases eo11|(injection eo11 with ea_ en_ ec_;(first|subst ea_|(injection ea_ with ea_;subst ea_));subst ec_;clear en_))
         have GB11:=aK gb11;have GG11:=aK HG11;clear gb11 gl11 HG11;obtain ⟨hx11_0,hf11_0⟩:=Kd.R_celln false HO_5.out ((rd l1 x6_1):Int) p11 q11;replace p11:=bO p11;replace q11:=bO q11;have HP12:=Kd.R_putg HO_5.out ((rd l1 x6_1):Int) true
         go_wp2_with (first|((with_reducible refine fX (t:=4) (p:=20) rfl ?_);refine fN (t:=4) (p:=20) (v:=?vo_w13) (w1:=(wr.setCell ⟨go11,((rd l1 x6_1):Int).toNat,none⟩ (.bool true))) ?hg ?ho ?hn ?hr ?_;(case ho=>rfl);(case hg=>rfl);(case hn=>rfl);(case hr=>first|(go_simp;done)|(go_simp;rfl)|((try (first|(obtain ⟨_,_,rfl⟩:=cL HO_5.out)|(obtain ⟨_,_,rfl⟩:=vV HO_5.out)));first|(go_simp;done)|(go_simp;rfl)));intro w13 hw;have hg:wr.grownBy w13 (some go11):=(by rw [hw];exact HP12.2);have hp_:Kd.R Kd.bool 4 w13 w.heap.size (fun _=>True) (.slice (some ⟨go11,0,none⟩) x5_1.length co11) y153:=(by rw [hw,Ny153.out];exact HP12.1);clear HP12;replace HO_5:=aK (hp_);replace HB:=aK ((by rw [hw];exact cE (HB.out) GB11.out:Below w.heap.size w w13));clear hg hw hp_))
         go_roundg k1
         case measure=>have:=HK1.out;omega
         case rel=>exact ⟨(y153),(wrap64 (x6_1+1)),nR,H',⟨by have:=HK1.out;omega⟩,⟨by (with_reducible repeat (first|apply Kd.R_alloc|apply dA|apply dC));exact HO_5.out⟩,⟨by repeat (first|(with_reducible first|exact HB.out|apply bJ|apply bI|apply bG)|exact HB.out)⟩⟩
        ·rw [if_neg c10] at H
         exact absurd H (by simp)
       ·rw [if_neg c9] at H
        exact absurd H (by simp)
      ·rw [if_neg c8] at H
       exact absurd H (by simp)
     ·rw [if_neg c7] at H
      have c7b0:decide (x6_1<(l1.length:Int))=false:=bM c7
      clear c7;obtain rfl:=bE H;go_wp2;go_ret;exact ⟨_,by first|rfl|(simp [dS,dR]<;>rfl)|(simp [*,dS,dR]<;>rfl),by (with_reducible repeat (first|apply Kd.R_alloc|apply dA|apply dC));exact HO_5.out,by repeat (first|(with_reducible first|exact HB.out|apply bJ|apply bI|apply bG)|exact HB.out)⟩
  ·rw [if_neg c4] at H
   exact absurd H (by simp)
 ·rw [if_neg c3] at H
  exact absurd H (by simp)
end Go.Proofs.Ytbaklikaoleplaa.K
namespace Go.Proofs.Ytbaklikaoleplaa.Pure
open Go.RowKit Go.Proofs.Ytbaklikaoleplaa.K Go.Proofs.YtbaklikaoleplaaW.PrintWords Go.Proofs.YtbaklikaoleplaaW.PrintLast Go.Proofs.YtbaklikaoleplaaW.PrintMore
set_option linter.unusedVariables false
set_option linter.unusedSimpArgs false
theorem xL {xs:List Int} {i:Nat} (h:i<xs.length):rd xs (i:Int)=xs[i]:=by
  rw [zR,bP,bT h];rfl
structure Bnd (cs:Cs) (ws:List Int) (y t o:Int) (cards:List Bool):Prop where
 ok:rP cs=true
 y0:0≤y
 y1:y≤40
 n0:14≤(ws.length:Int) - y
 n1:(ws.length:Int) - y≤120
 t0:0≤t
 t1:t≤y
 o0:y≤o
 o1:o≤ws.length
 cd:(cards.length:Int)=((ws.length:Int) - y+3)/4
structure Wlk (cs:Cs) (ws:List Int) (W:List Int):Prop where
 mem: ∀x∈W,∃e:Int,e≤ws.length∧0≤x∧x<e∧0<jV ws (gI cs) e x∧jV ws (gI cs) e x≤e - x
 srt:W.Pairwise (· < ·)
 len:W.length≤200
def kR (W:List Int) (n:Nat):List Bool:=(List.range n).map (fun j:Nat=>decide ((j:Int)∈W))
theorem bFr (W:List Int) (n:Nat):(kR W n).length=n:=by simp [kR]
theorem bNb (W:List Int) (n:Nat) {j:Int} (h0:0≤j) (h1:j<n):kK false (kR W n) j=decide (j∈W):=by
 unfold kK kR;rw [bP,sD,xR (by omega)];show decide (((j.toNat:Nat):Int)∈W)=_
 rw [xS h0]
theorem bPa (W:List Int) (n:Nat) (hW: ∀x∈W,0≤x∧x<(n:Int)) (hl:W.length≤1048576) (d:Nat): ∀(k i:Nat) (S:List Bool),i+d=W.length→d<k→S.length=n→(∀j:Nat,j<n→S.getD j false=decide ((j:Int)∈W.take i))→
  jU k W S i=some (kR W n):=by
 induction d with
 |zero=>
  intro k i S hi hk hS hj;obtain ⟨k,rfl⟩: ∃m,k=m+1:=⟨k - 1,by omega⟩;rw [jU,if_neg (by omega)]
  congr 1
  refine List.ext_getElem (by rw [hS,bFr]) (fun j h1 h2=>?_);have:=hj j (by omega)
  rw [bP,bT h1,show i=W.length by omega,List.take_length] at this;have e2:(kR W n)[j]=decide ((j:Int)∈W):=by simp [kR]
  rw [e2];exact this
 | succ d ih =>
  intro k i S hi hk hS hj;obtain ⟨k,rfl⟩: ∃m,k=m+1:=⟨k - 1,by omega⟩;have hlt:i<W.length:=by omega
  have hx:=hW W[i] (jZ hlt);rw [jU,if_pos (by omega),if_pos (by omega),xL hlt,if_pos hx.1,if_pos (by rw [hS];exact hx.2),pQ (n:=1048577) (by omega) (by omega) (by omega)]
  have:=ih k (i+1) (S.set W[i].toNat true) (by omega) (by omega) (by rw [dV,hS]) (fun j hj2=>by
   have h3:=hj j hj2;rw [mO hlt];rw [bP] at h3 ⊢;rw [List.getElem?_set];by_cases q:W[i].toNat=j
   ·rw [if_pos q, if_pos (by omega)]
    have:(j:Int)∈W.take i++[W[i]]:=by rw [List.mem_append,nU];right;omega
    rw [bD this];rfl
   ·rw [if_neg q, h3]
    have:(j:Int)∈W.take i++[W[i]]↔(j:Int)∈W.take i:=by
     rw [List.mem_append,nU]
     constructor
     ·rintro (z | z)
      ·exact z
      ·omega
     ·exact Or.inl
    simp only [this])
  rw [show ((i+1:Nat):Int)=(i:Int)+1 by omega] at this;exact this
theorem bIq {W:List Int} {n:Nat} (hW: ∀x∈W,0≤x∧x<(n:Int)) (hl:W.length≤1000) (hn:n≤1048576) (k:Nat) (hk:1001≤k):mG k n W=some (kR W n):=by
 unfold mG;rw [if_pos (by omega),if_pos (by omega),dF];have:=bPa W n hW (by omega) W.length k 0 (List.replicate n false) (by omega) (by omega) (by simp) (fun j hj=>by simp [bP,hj])
 exact this
def bDj (cs:Cs) (c k:Int):Bool:=if c= -1 then false else if c= -2 then true else (rd (bIm cs c) k !=1)
theorem bBk {cs : Cs} {ws : List Int} {y t o : Int} {cards : List Bool} (hb : Bnd cs ws y t o cards) {W : List Int} (hw : Wlk cs ws W) (m : Mm) (hm : m = ⟨ws, y, t, o, cards, gI cs, W.map (· + 1)⟩) {x : Int} (hx : x ∈ W) :
    ∃ c hd cnt : Int, c = rd ws x ∧ 0 ≤ x ∧ (hd = 1 ∨ hd = 2) ∧ 0 ≤ cnt ∧ cnt ≤ 8 ∧ x + hd + cnt ≤ ws.length ∧ nW m (x + 1) = some cnt ∧ kZ m (x + 1) = some (x + hd) ∧ jD c = some hd ∧
      (∀k,20≤k→jN k cs ws x ws.length=some (hd+cnt))∧(∀k,0≤k→k<cnt→nV m (x+1) k=some (bDj cs c k))∧(c= -1∨c= -2∨(0≤c∧c<cs.length∧hd=1∧cnt=(bIm cs c).length)):=by
  obtain ⟨e,he,h0,h1,h2,h3⟩:=hw.mem x hx;have n0:=hb.n0;have n1:=hb.n1;have y0:=hb.y0;have y1:=hb.y1;have hl:=sL hb.ok
  have hc:nG m (x+1)=some (rd ws x):=by
    unfold nG;rw [hm];show (if 1≤x+1∧x+1≤(ws.length:Int)∧ws.length≤281474976710656 then some (rd ws (x+1 - 1)) else none)=_
    rw [if_pos (by omega),show x+1 - 1=x by omega]
  obtain ⟨c,hcc⟩: ∃c,c=rd ws x:=⟨_,rfl⟩;rw [←hcc] at hc
  have hsz: ∀k,20≤k→jN k cs ws x ws.length=some (jV ws (gI cs) ws.length x):=fun k hk=>by
    rw [vS hb.ok (by omega) h0 (vW _) k hk,if_pos (by omega)]
  by_cases c0:c<0
  · have hs : jV ws (gI cs) e x = 2 + rd ws (x + 1) ∧ (c = -1 ∨ c = -2) ∧ x + 1 < e ∧ 0 ≤ rd ws (x + 1) ∧ rd ws (x + 1) ≤ 6 := by
      unfold jV at h2 ⊢;rw [←hcc] at h2 ⊢;rw [if_pos c0] at h2 ⊢;by_cases c1:x+1<e
      · rw [if_pos c1] at h2 ⊢
        by_cases c2:c= -1∨c= -2
        · by_cases c3 : 0 ≤ rd ws (x + 1) ∧ rd ws (x + 1) ≤ 6
          · have m1 : jJ (gI cs) c (rd ws (x + 1)) = 2 + rd ws (x + 1) := by unfold jJ; rw [if_pos c2, if_pos c3]
            rw [m1] at h2 ⊢
            split at h2
            · rename_i z;rw [if_pos z];exact ⟨rfl,c2,c1,c3.1,c3.2⟩
            · omega
          · have m1 : jJ (gI cs) c (rd ws (x + 1)) = 0 := by unfold jJ; rw [if_pos c2, if_neg c3]
            rw [m1] at h2
            split at h2<;>omega
        · have m1 : jJ (gI cs) c (rd ws (x + 1)) = 0 := by unfold jJ; rw [if_neg c2, if_neg (by omega)]
          rw [m1] at h2
          split at h2<;>omega
      · rw [if_neg c1] at h2;omega
    obtain ⟨s1,s2,s3,s4,s5⟩:=hs;refine ⟨c,2,rd ws (x+1),hcc,h0,Or.inr rfl,s4,by omega,by omega,?_,?_,?_,?_,?_,?_⟩
    · unfold nW
      rw [hc,bC,if_pos c0,hm];show (if x+1<(ws.length:Int) then some (rd ws (x+1)) else none)=_
      rw [if_pos (by omega)]
    · unfold kZ
      rw [hc,bC,if_pos c0,show x+1+1=x+2 by omega]
    · unfold jD;rw [if_pos c0]
    · intro k hk
      rw [hsz k hk];unfold jV;rw [←hcc,if_pos c0,if_pos (by omega)];have m1:jJ (gI cs) c (rd ws (x+1))=2+rd ws (x+1):=by unfold jJ;rw [if_pos s2,if_pos ⟨s4,s5⟩]
      rw [m1,if_pos (by omega)]
    · intro k _ _
      unfold nV bDj;rw [hc,bC];rcases s2 with z|z
      · rw [if_pos z,if_pos z]
      · rw [if_neg (by omega),if_pos z,if_neg (by omega),if_pos z]
    · rcases s2 with z | z
      · exact Or.inl z
      · exact Or.inr (Or.inl z)
  · have c1 : c < cs.length ∧ jV ws (gI cs) e x = 1 + (bIm cs c).length := by
      unfold jV at h2 ⊢;rw [←hcc] at h2 ⊢;rw [if_neg c0] at h2 ⊢;by_cases z:c<(cs.length:Int)
      · rw [bAt 0 (by omega) z] at h2 ⊢
        split at h2
        · rename_i q;rw [if_pos q];exact ⟨z,rfl⟩
        · omega
      · have m1 : jJ (gI cs) c 0 = 0 := by unfold jJ; rw [if_neg (by omega), vI, if_neg (by omega)]
        rw [m1] at h2
        split at h2<;>omega
    have hf:=bCe hb.ok (a:=c) (by omega) c1.1;refine ⟨c,1,(bIm cs c).length,hcc,h0,Or.inl rfl,by omega,by omega,by omega,?_,?_,?_,?_,?_,Or.inr (Or.inr ⟨by omega,c1.1,rfl,rfl⟩)⟩
    · unfold nW
      rw [hc,bC,if_neg c0,hm];show (if c<((gI cs).length:Int)∧(gI cs).length≤281474976710656 then some (((bIc (gI cs) c).length:Nat):Int) else none)=_
      rw [vI,if_pos ⟨c1.1,by omega⟩,bGv cs (by omega) c1.1]
    · unfold kZ
      rw [hc,bC,if_neg c0]
    · unfold jD;rw [if_neg c0]
    · intro k hk
      rw [hsz k hk];unfold jV;rw [←hcc,if_neg c0,bAt 0 (by omega) c1.1,if_pos (by omega)]
    · intro k k0 k1
      unfold nV bDj;have q1: ¬c= -1:=by omega
      have q2: ¬c= -2:=by omega
      rw [hc,bC];simp only [if_neg q1,if_neg q2]
      rw [hm];show (if 0≤c∧c<((gI cs).length:Int)∧0≤k∧k<((bIc (gI cs) c).length:Int) then some (rd (bIc (gI cs) c) k !=1) else none)=_
      rw [vI,bGv cs (by omega) c1.1,if_pos ⟨by omega,c1.1,k0,k1⟩]
def sZ (cs:Cs) (c hd s:Int):List Bool:=(List.range s.toNat).map (fun j:Nat=>decide (hd≤j)&&bDj cs c (j - hd))
theorem bRc (cs:Cs) (c hd s:Int) {j:Int} (h0:hd≤j) (h00:0≤j) (h1:j<s):kK false (sZ cs c hd s) j=bDj cs c (j - hd):=by
 unfold kK sZ;rw [bP,sD,xR (by omega)];show (decide (hd≤((j.toNat:Nat):Int))&&bDj cs c (((j.toNat:Nat):Int) - hd))=_
 rw [xS h00,bD h0,jQ]
theorem bJv {cs:Cs} (h:rP cs=true) {c hd:Int} {s:Nat} (hs:s≤100) (hh:hd=1∨hd=2) (hc:c= -1∨c= -2∨(0≤c∧c<cs.length∧hd=1∧(s:Int)=1+(bIm cs c).length)) (d:Nat): ∀(k j:Nat) (R:List Bool),j+d=s→hd≤(j:Int)→d+30≤k→R.length=s→(∀i:Nat,i<s→R.getD i false=(decide (hd≤(i:Int)∧i<j)&&bDj cs c ((i:Int) - hd)))→
  gN k cs R c j=some (sZ cs c hd s):=by
 induction d with
 |zero=>
  intro k j R hj hj2 hk hR hi;obtain ⟨k,rfl⟩: ∃m,k=m+1:=⟨k - 1,by omega⟩;rw [gN,if_neg (by omega)]
  congr 1
  refine List.ext_getElem (by rw [hR];simp [sZ]) (fun i h1 h2=>?_);have e1:=hi i (by omega);rw [bP,bT h1] at e1;have e2:(sZ cs c hd s)[i]=(decide (hd≤(i:Int))&&bDj cs c ((i:Int) - hd)):=by simp [sZ]
  rw [e2];have e3:(hd≤(i:Int)∧i<j)↔hd≤(i:Int):=⟨fun z=>z.1,fun z=>⟨z,by omega⟩⟩
  simp only [e3] at e1;exact e1
 | succ d ih =>
  intro k j R hj hj2 hk hR hi;obtain ⟨k,rfl⟩: ∃m,k=m+1:=⟨k - 1,by omega⟩
  have step: ∀b,b=bDj cs c ((j:Int) - hd)→gN k cs (R.set ((j:Int)).toNat b) c (wrap64 ((j:Int)+1))=some (sZ cs c hd s):=fun b hbb=>by
   rw [pQ (n:=1000) (by omega) (by omega) (by omega),dF]
   have:=ih k (j+1) (R.set j b) (by omega) (by omega) (by omega) (by rw [dV,hR]) (fun i hi2=>by
    have h3:=hi i hi2;rw [bP] at h3 ⊢;rw [List.getElem?_set];by_cases q:j=i
    ·rw [if_pos q, if_pos (by omega)]
     subst q;rw [bD (show hd≤(j:Int)∧j<j+1 from ⟨hj2,by omega⟩),jQ,hbb];rfl
    ·rw [if_neg q, h3]
     have:(hd≤(i:Int)∧i<j+1)↔(hd≤(i:Int)∧i<j):=by omega
     simp only [this])
   rw [show ((j+1:Nat):Int)=(j:Int)+1 by omega] at this;exact this
  rw [gN,if_pos (by omega)];rcases hc with z|z|z
  ·rw [if_neg (by omega), if_neg (by omega), if_pos (by omega)]
   exact step _ (by unfold bDj;rw [if_pos z])
  ·rw [if_pos z, if_pos (by omega)]
   exact step _ (by unfold bDj;rw [if_neg (by omega),if_pos z])
  ·obtain ⟨z0, z1, z2, z3⟩ := z
   rw [if_neg (by omega),if_pos (by omega),zW,(bCe h z0 z1).2 k (by omega)];simp only [bC]
   rw [dZ (n:=(j:Int) - 1) (by omega) (by omega),if_pos (by omega),if_pos (by omega),if_pos (by omega)];exact step _ (by unfold bDj;rw [if_neg (by omega),if_neg (by omega),z2])
theorem bLx (c:Int): ∃hd,(hd=1∨hd=2)∧jD c=some hd:=by
 unfold jD;by_cases h:c<0
 ·exact ⟨2,.inr rfl,by rw [if_pos h]⟩
 ·exact ⟨1,.inl rfl,by rw [if_neg h]⟩
theorem bRb {cs : Cs} (h : rP cs = true) {ws : List Int} (hn : ws.length ≤ 1000) {x : Int} (h0 : 0 ≤ x) (h1 : x < ws.length) :
  ∃R:List Bool,(x+R.length≤ws.length∧R.length≤10)∧∀k,200≤k→mQ k cs ws x=some R:=by
 have hsz: ∀k,20≤k→jN k cs ws x ws.length=some (jV ws (gI cs) ws.length x):=fun k hk=>by
  rw [vS h (by omega) h0 (vW _) k hk,if_pos h1]
 rcases bAl ws (gI cs) ws.length x with hz|⟨hz,hz2⟩
 ·obtain ⟨hd, hh, he⟩ := bLx (rd ws x)
  refine ⟨[],⟨by simp;omega,by simp⟩,fun k hk=>?_⟩;unfold mQ;rw [hsz k (by omega),hz,bC,if_pos (by omega),if_pos (by simp),if_pos h0,if_pos h1,he,bC];obtain ⟨k,rfl⟩: ∃m,k=m+1:=⟨k - 1,by omega⟩;rw [gN,if_neg (by simp;omega)];rfl
 ·obtain ⟨c, hc⟩ : ∃ c, c = rd ws x := ⟨_, rfl⟩
  have hm : ∃ hd cnt : Int, (hd = 1 ∨ hd = 2) ∧ 0 ≤ cnt ∧ cnt ≤ 8 ∧ jV ws (gI cs) ws.length x = hd + cnt ∧ jD c = some hd ∧ (c = -1 ∨ c = -2 ∨ (0 ≤ c ∧ c < cs.length ∧ hd = 1 ∧ cnt = (bIm cs c).length)) := by
   unfold jV at hz ⊢;rw [←hc] at hz ⊢;by_cases c0:c<0
   ·rw [if_pos c0] at hz ⊢
    by_cases c1:x+1<(ws.length:Int)
    ·rw [if_pos c1] at hz ⊢
     by_cases c2:jJ (gI cs) c (rd ws (x+1))≤(ws.length:Int) - x
     ·rw [if_pos c2] at hz ⊢
      unfold jJ at hz ⊢;by_cases c3:c= -1∨c= -2
      ·rw [if_pos c3] at hz ⊢
       by_cases c4:0≤rd ws (x+1)∧rd ws (x+1)≤6
       ·rw [if_pos c4]
        exact ⟨2,rd ws (x+1),.inr rfl,c4.1,by omega,rfl,by unfold jD;rw [if_pos c0],c3.elim .inl (fun z=> .inr (.inl z))⟩
       ·rw [if_neg c4] at hz;omega
      ·rw [if_neg c3,if_neg (by omega)] at hz;omega
     ·rw [if_neg c2] at hz;omega
    ·rw [if_neg c1] at hz;omega
   ·rw [if_neg c0] at hz ⊢
    by_cases c2:jJ (gI cs) c 0≤(ws.length:Int) - x
    ·rw [if_pos c2] at hz ⊢
     by_cases c3:c<cs.length
     ·rw [bAt 0 (by omega) c3]
      exact ⟨1,(bIm cs c).length,.inl rfl,by omega,by have:=(bCe h (show 0≤c by omega) c3).1;omega,rfl,by unfold jD;rw [if_neg c0],.inr (.inr ⟨by omega,c3,rfl,rfl⟩)⟩
     ·unfold jJ at hz
      rw [if_neg (by omega),vI,if_neg (by omega)] at hz;omega
    ·rw [if_neg c2] at hz;omega
  obtain ⟨hd,cnt,hh,n0,n8,hs,he,hcc⟩:=hm;refine ⟨sZ cs c hd (hd+cnt),by unfold sZ;rw [dP,kV];exact ⟨by omega,by omega⟩,fun k hk=>?_⟩;have hsk:=hsz k (by omega);rw [hs] at hsk;unfold mQ;rw [hsk,bC,if_pos (by omega),if_pos (by omega),if_pos h0,if_pos (by omega),←hc,he,bC]
  have:=bJv h (c:=c) (hd:=hd) (s:=(hd+cnt).toNat) (by omega) hh (by rcases hcc with z|z|z;exact .inl z;exact .inr (.inl z);exact .inr (.inr ⟨z.1,z.2.1,z.2.2.1,by omega⟩)) ((hd+cnt).toNat - hd.toNat) k hd.toNat (List.replicate (hd+cnt).toNat false) (by omega) (by omega) (by omega) (by simp) (fun i hi=>by
   rw [bP,zK,if_pos hi]
   rw [bM (by omega)];rfl)
  rw [show ((hd.toNat:Nat):Int)=hd by omega,show (((hd+cnt).toNat:Nat):Int)=hd+cnt by omega] at this;exact this
end Go.Proofs.Ytbaklikaoleplaa.Pure
namespace Go.Proofs.Ytbaklikaoleplaa.K
open Go.RowKit Go.Proofs.YtbaklikaoleplaaW.PrintWords Go.Proofs.YtbaklikaoleplaaW.PrintLast Go.Proofs.YtbaklikaoleplaaW.PrintMore
attribute [local go_sem] gD gB gY gW fR fQ gC gA
set_option linter.unusedVariables false
set_option linter.unusedSimpArgs false
open Go.Proofs.Ytbaklikaoleplaa.Pure
theorem bHq (b gw cW gc cC:Nat) (ws:List Int) (y t o:Int) (cards:List Bool) (M:Int) (g:Nat) (A:Option Addr) (cA:Nat) (cs:Cs) (at_:Int) (AP:Option Addr) (cP:Nat) (pl:List Int) (w0 w:World) (h:OM b gw cW gc cC w ws cards) (hi:xG M w0 w g) (hM:M≤700000) (hok:rP cs=true)
  (hC: ∀W',Kept w W' (fun k=>(k=gw∨k=gc)∨k=g)→Kd.C tU W' A cs.length cs) (hcA:cs.length≤cA) (hP: ∀W',Kept w W' (fun k=>(k=gw∨k=gc)∨k=g)→Kd.C (Kd.int .i64) W' AP pl.length pl) (hcP:pl.length≤cP) (hpl:1≤pl.length∧pl.length≤1000) (h0:0≤at_) (h1:at_≤ws.length) (hn:ws.length≤1000) (hy:0≤y∧y≤40) (hcd:(cards.length:Int)=((ws.length:Int) - y+3)/4) (hg:g≠gw∧g≠gc) (hg0:w0.heap.size≤gw∧w0.heap.size≤gc):
  Calls Try.prog 93 #[.pointer (some ⟨g,0,none⟩),.slice A cs.length cA,.agg #[.slice (some ⟨gw,0,none⟩) ws.length cW,.int .i64 y,.int .i64 t,.int .i64 o,.slice (some ⟨gc,0,none⟩) cards.length cC],.int .i64 at_,.slice AP pl.length cP] w fun e w'=> ∃(ws':List Int) (cards':List Bool),e= .returned (.agg #[.slice (some ⟨gw,0,none⟩) ws.length cW,.int .i64 y,.int .i64 t,.int .i64 o,.slice (some ⟨gc,0,none⟩) cards.length cC])∧(ws'.length=ws.length∧cards'.length=cards.length)∧OM b gw cW gc cC w' ws' cards'∧xG (M+60) w0 w' g∧Ch (fun k=>(k=gw∨k=gc)∨k=g) w w':=by
 have HO:=aK h;have HI:=aK hi;have HM:=aK hM;have HC:=aK hC;have HP:=aK hP;have HCA:=aK hcA;have HCP:=aK hcP;have HPL:=aK hpl;have H1:=aK (show (0≤at_∧at_≤ws.length)∧ws.length≤1000∧(0≤y∧y≤40)∧(cards.length:Int)=((ws.length:Int) - y+3)/4 from ⟨⟨h0,h1⟩,hn,hy,hcd⟩);have HGW:=aK (show (gw<w.heap.size∧gc<w.heap.size∧g<w.heap.size)∧gw≠gc∧(g≠gw∧g≠gc)∧w0.heap.size≤gw∧w0.heap.size≤gc∧w0.heap.size≤g from ⟨⟨h.bw.2,h.bc.2,hi.lt⟩,h.ne,hg,hg0.1,hg0.2,hi.ge⟩);have HRf:=aK (fun (z0:0≤at_ - 1)=>bRb hok hn z0 (show at_ - 1<(ws.length:Int) by omega));clear h hi hM hok hC hcA hP hcP hpl h0 h1 hn hy hcd hg hg0;by_cases ca:at_=0
 ·have d0 : (at_ == 0) = true := zH.mpr ca
  have d0':decide (at_=0)=true:=bD ca
  clear ca;go_enter Try.func93,Try.ntmps93
  go_wp2_with (first|((with_reducible refine dK (N:=7) rfl ?_);refine dM ?hg (N:=7) ?hd (cs:= #[.slice (some ⟨gw,0,none⟩) ws.length cW,.int .i64 y,.int .i64 t,.int .i64 o,.slice (some ⟨gc,0,none⟩) cards.length cC]) (t:=29) ?hr ?_;(case hd=>rfl);(case hg=>rfl);(case hr=>first|(go_simp;done)|(go_simp;rfl));intro gp hg w1 hbox hb;have BP:=aK hbox;have HCh:=aK ((Ch.refl (fun k=>(k=gw∨k=gc)∨k=g) w).below hb);have HGp:=aK (show w.heap.size≤gp by rw [hg];exact bV _);have HC0:=aK ((Ch.refl (fun _=>False) w).below hb);clear hb hbox hg)|((with_reducible refine dK (N:=10) rfl ?_);refine dM ?hg (N:=10) ?hd (cs:= #[.slice none 0 0,.int .i64 0,.int .i64 0,.int .i64 0,.slice none 0 0]) (t:=29) ?hr ?_;(case hd=>rfl);(case hg=>rfl);(case hr=>first|(go_simp;done)|(go_simp;rfl));intro gr hg w2 hbox hb;have BR:=aK hbox;have HGr:=aK (show w.heap.size≤gr∧gp<gr by have:=HCh.out.size;have:=dN BP.out;rw [hg];exact ⟨by omega,by omega⟩);replace BP:=aK (bS BP.out hb);replace HCh:=aK (HCh.out.below hb);replace HC0:=aK (HC0.out.below hb);have HO2:=aK (HO.out.ch HC0.out (fun h=>h) (fun h=>h));have HI2:=aK (HI.out.ch HC0.out (fun h=>h) (fun _ h=>h.elim));have c0:=(bA BP.out 0).trans rfl;have c1:=(bA BP.out 1).trans rfl;have c2:=(bA BP.out 2).trans rfl;have c3:=(bA BP.out 3).trans rfl;have c4:=(bA BP.out 4).trans rfl;clear hb hbox hg;have BR2:=BR;have z0:=(bA BR2.out 0).trans rfl;have z1:=(bA BR2.out 1).trans rfl;have z2:=(bA BR2.out 2).trans rfl;have z3:=(bA BR2.out 3).trans rfl;have z4:=(bA BR2.out 4).trans rfl;have y_0:=bL BR2.out 0;have y_1:=bL BR2.out 1;have y_2:=bL BR2.out 2;have y_3:=bL BR2.out 3;have y_4:=bL BR2.out 4))
  refine fM (jY rfl _ _ gr 29 #[.slice (some ⟨gw,0,none⟩) ws.length cW,.int .i64 y,.int .i64 t,.int .i64 o,.slice (some ⟨gc,0,none⟩) cards.length cC] (0,0) _ rfl (jH BR2.out) Try.underlying29 rfl (by kernel_rfl)) rfl ?_;exact ⟨ws,cards,rfl,⟨rfl,rfl⟩,HO2.out.ch (Ch.box5 (Ch.refl (fun k=>k=gr) _) (.inl rfl) _ _ _ _ _) tW tW,(HI2.out.ch (Ch.box5 (Ch.refl (fun k=>k=gr) _) (.inl rfl) _ _ _ _ _) tW (fun k hk=>by have:=HGr.out;have:=HGW.out;omega)).le (by omega),HCh.out.box5 (.inr HGr.out.1) _ _ _ _ _⟩
 ·have d0 : (at_ == 0) = false := xP.mpr ca
  have d0':decide (at_=0)=false:=bM ca
  have hz:=H1.out;obtain ⟨a1,ha⟩: ∃a1,a1=at_ - 1:=⟨_,rfl⟩;obtain ⟨R,hR1,hR2⟩:=HRf.out (by omega);rw [←ha] at hR1 hR2;have HAt:=aK ha;have HRe:=aK (hR2 200 (bV _));have H2:=aK (show (0≤a1∧a1<ws.length)∧a1+R.length≤ws.length∧R.length≤10 from ⟨by omega,hR1⟩);have q0:IntKind.i64.wrap (at_ - 1)=a1:=by rw [ha];exact dD _ (by omega)
  have p1:=bO (show 0≤a1 by omega);have p2:=bO (show a1<(ws.length:Int) by omega);obtain ⟨hd,hh,he⟩:=bLx (rd ws (a1));have HHd:=aK he;have Hhd:=aK hh;clear ca hz hR1 hR2 HRf hh he ha;go_enter Try.func93,Try.ntmps93
  go_wp2_with (first|((with_reducible refine dK (N:=7) rfl ?_);refine dM ?hg (N:=7) ?hd (cs:= #[.slice (some ⟨gw,0,none⟩) ws.length cW,.int .i64 y,.int .i64 t,.int .i64 o,.slice (some ⟨gc,0,none⟩) cards.length cC]) (t:=29) ?hr ?_;(case hd=>rfl);(case hg=>rfl);(case hr=>first|(go_simp;done)|(go_simp;rfl));intro gp hg w1 hbox hb;have BP:=aK hbox;have HCh:=aK ((Ch.refl (fun k=>(k=gw∨k=gc)∨k=g) w).below hb);have HGp:=aK (show w.heap.size≤gp by rw [hg];exact bV _);have HC0:=aK ((Ch.refl (fun _=>False) w).below hb);clear hb hbox hg)|((with_reducible refine dK (N:=10) rfl ?_);refine dM ?hg (N:=10) ?hd (cs:= #[.slice none 0 0,.int .i64 0,.int .i64 0,.int .i64 0,.slice none 0 0]) (t:=29) ?hr ?_;(case hd=>rfl);(case hg=>rfl);(case hr=>first|(go_simp;done)|(go_simp;rfl));intro gr hg w2 hbox hb;have BR:=aK hbox;have HGr:=aK (show w.heap.size≤gr∧gp<gr by have:=HCh.out.size;have:=dN BP.out;rw [hg];exact ⟨by omega,by omega⟩);replace BP:=aK (bS BP.out hb);replace HCh:=aK (HCh.out.below hb);replace HC0:=aK (HC0.out.below hb);have HO2:=aK (HO.out.ch HC0.out (fun h=>h) (fun h=>h));have HI2:=aK (HI.out.ch HC0.out (fun h=>h) (fun _ h=>h.elim));have c0:=(bA BP.out 0).trans rfl;have c1:=(bA BP.out 1).trans rfl;have c2:=(bA BP.out 2).trans rfl;have c3:=(bA BP.out 3).trans rfl;have c4:=(bA BP.out 4).trans rfl;clear hb hbox hg)|(go_at_call 74;refine (tH 200 A cA cs (some ⟨gw,0,none⟩) cW ws (a1) R _ (HC.out _ HCh.out.kept) HCA.out (cD HO2.out.hw).2.2 (cD HO2.out.hw).2.1 HRe.out).mono ?_;rintro e w3 ⟨vR,rfl,hv,hb⟩;have HV3:=aK (show Kd.R Kd.bool 4 w3 w2.heap.size (fun _=>True) vR R from hv);have HCh3:=aK (HCh.out.below hb);have HO3:=aK (HO2.out.ch ((Ch.refl (fun _=>False) _).below hb) (fun h=>h) (fun h=>h));have HI3:=aK (HI2.out.below hb);have BP3:=aK (bS BP.out hb);have BR3:=aK (bS BR.out hb);have HZ:=aK (show w.heap.size≤w2.heap.size∧gp<w2.heap.size∧gr<w2.heap.size from ⟨HCh.out.size,dN BP.out,dN BR.out⟩);clear hv hb HCh HO2 HI2 BP BR HC0;obtain ⟨bR,hbR⟩: ∃z,z=w2.heap.size:=⟨_,rfl⟩;rw [←hbR] at HV3 HZ;clear hbR;obtain ⟨AR,cR,eR⟩:=cL HV3.out;subst eR;clear c0 c1 c2 c3 c4;have c0:=(bA BP3.out 0).trans rfl;have c1:=(bA BP3.out 1).trans rfl;have c2:=(bA BP3.out 2).trans rfl;have c3:=(bA BP3.out 3).trans rfl;have c4:=(bA BP3.out 4).trans rfl;obtain ⟨x0,f0⟩:=HO3.out.wcell (a1) H2.out.1.1 H2.out.1.2)|(go_at_call 104;refine (tI (rd ws (a1)) hd _ HHd.out).mono ?_;rintro e w' ⟨rfl,⟨nd,rfl⟩⟩))
  go_loopw [12] (fun v12 wr=> ∃(x:Int) (ws':List Int) (cards':List Bool),v12= .int .i64 x∧Aside0 (1≤x∧x≤R.length+2)∧Aside0 (ws'.length=ws.length∧cards'.length=cards.length)∧Aside0 (OM b gw cW gc cC wr ws' cards')∧Aside0 (Kd.R Kd.bool 4 wr bR (fun _=>True) (.slice AR R.length cR) R)∧Aside0 (wr.heap[gp]? =some (.cells #[.slice (some ⟨gw,0,none⟩) ws'.length cW,.int .i64 y,.int .i64 t,.int .i64 o,.slice (some ⟨gc,0,none⟩) cards'.length cC] 29 (0,0)))∧Aside0 (wr.heap[gr]? =some (.cells #[.slice none 0 0,.int .i64 0,.int .i64 0,.int .i64 0,.slice none 0 0] 29 (0,0)))∧Aside0 (xG (M+4*x) w0 wr g)∧Aside0 (Ch (fun k=>(k=gw∨k=gc)∨k=g) w wr)) (fun v12 _=>(R.length - intOf v12).toNat)
  case atStart=>exact ⟨hd,ws,cards,rfl,⟨by have:=Hhd.out;omega⟩,⟨rfl,rfl⟩,⟨HO3.out.ch ((Ch.refl (fun _=>False) _).drewN nd) (fun h=>h) (fun h=>h)⟩,⟨dA HV3.out nd⟩,⟨bX BP3.out nd⟩,⟨bX BR3.out nd⟩,⟨(HI3.out.drewN nd).le (by have:=Hhd.out;omega)⟩,⟨HCh3.out.drewN nd⟩⟩
  case round =>
   clear HO3 HV3 BP3 BR3 HI3 HCh3 x0 f0 c0 c1 c2 c3 c4;obtain ⟨x,ws',cards',rfl,HX,HLn,HO,HV,BP,BR,HI,HCh⟩:=hrel;by_cases cx:x<R.length
   ·have d1 : decide (x < (R.length : Int)) = true := bD cx
    have HXx:=aK (show (1≤x∧x<R.length) by have:=HX.out;omega);have p3:=bO (show 0≤x by have:=HX.out;omega);have p4:=bO cx;clear cx HX
    go_wp2_with fail
    go_at_call 112;refine (bQq _ g w0 _ HI.out (by have:=HM.out;have:=H2.out;have:=HXx.out;omega)).mono ?_;rintro e w4 ⟨z,rfl,hi,hk⟩;have hst:=HI.out.step hi hk;have HO4:=aK (HO.out.ch hst (by have:=HGW.out;omega) (by have:=HGW.out;omega));have HV4:=aK (cI (hst.R (fZ HV.out) (fun k hk=>by have:=HZ.out;have:=HGW.out;omega)) (fun _ _=>trivial));have BP4:=aK (hst.blk BP.out bCu);have BR4:=aK (hst.blk BR.out tW);have HI4:=aK hi;have HCh4:=aK (HCh.out.trans hst (fun k h=> .inl (.inr h)));clear hst hi hk HO HV BP BR HI HCh;obtain ⟨gR,cap,hv,_,_,_⟩:=pG HV4.out (by have:=HXx.out;omega);injection hv with e1 e2 e3;subst e1 e3;clear e2;obtain ⟨r0,_⟩:=kO (enc:=Value.bool) (h1:=fun _=>rfl) false HV4.out x (by have:=HXx.out;omega) HXx.out.2
    cases hb:kK false R x with
    | false =>
     rw [hb] at r0;have HF:=aK hb;clear hb
     go_wp2_with fail
     go_at_call 63;refine (jF _ g 3 w0 _ HI4.out (by have:=HM.out;have:=H2.out;have:=HXx.out;omega) (by omega) (by omega)).mono ?_;rintro e w6 ⟨q,rfl,hq,hi,hk⟩;clear r0;have hst:=HI4.out.step hi hk;have HO6:=aK (HO4.out.ch hst (by have:=HGW.out;omega) (by have:=HGW.out;omega));have HV6:=aK (cI (hst.R (fZ HV4.out) (fun k hk=>by have:=HZ.out;have:=HGW.out;omega)) (fun _ _=>trivial));have BP6:=aK (hst.blk BP4.out bCu);have BR6:=aK (hst.blk BR4.out tW);have HI6:=aK hi;have HCh6:=aK (HCh4.out.trans hst (fun k h=> .inl (.inr h)));clear hst hi hk HO4 HV4 BP4 BR4 HI4 HCh4;by_cases cq:0<q
     ·have d2 : decide (0 < q) = true := bD cq
      clear cq hq;have q4:IntKind.i64.wrap (a1+x)=a1+x:=dD _ (by have:=HXx.out;have:=H2.out;have:=H1.out;omega)
      go_wp2;replace HO6:=aK (HO6.out.ch (Ch.drew (Ch.refl (fun _=>False) _)) (fun h=>h) (fun h=>h));replace HV6:=aK (dC HV6.out);replace BP6:=aK (bY BP6.out);replace BR6:=aK (bY BR6.out);replace HI6:=aK HI6.out.drew;replace HCh6:=aK HCh6.out.drew;have r1:=(kO (enc:=Value.bool) (h1:=fun _=>rfl) false HV6.out x (by have:=HXx.out;omega) HXx.out.2).1;rw [HF.out] at r1;refine sT 12 (S:=fun w'=>w'.cell? ⟨gp,0,none⟩=some (.slice (some ⟨gw,0,none⟩) ws'.length cW)∧w'.cell? ⟨gp,1,none⟩=some (.int .i64 y)∧w'.cell? ⟨gp,2,none⟩=some (.int .i64 t)∧w'.cell? ⟨gp,3,none⟩=some (.int .i64 o)∧w'.cell? ⟨gp,4,none⟩=some (.slice (some ⟨gc,0,none⟩) cards'.length cC)∧w'.cell? ⟨gR,x.toNat,none⟩=some (.bool false)) (ds:=[11]) ⟨(bA BP6.out 0).trans rfl,(bA BP6.out 1).trans rfl,(bA BP6.out 2).trans rfl,(bA BP6.out 3).trans rfl,(bA BP6.out 4).trans rfl,r1⟩ (fun hHeld=>?_);generalize w6.drew=w6a at HO6 HV6 BP6 BR6 HI6 HCh6 r1 hHeld ⊢;refine cJ 1 ?_;refine cJ 2 ?_;refine cJ 3 ?_;refine cJ 4 ?_;refine cJ 5 ?_;refine cJ 6 ?_;refine cJ 7 ?_;refine cJ 8 ?_;refine tS 0 52 (lA 12 511) rfl rfl (by kernel_rfl) hHeld pK ?_;refine tS 9 61 (lA 12 1023) rfl rfl (by kernel_rfl) hHeld pK ?_;refine oS 10 62 (lA 12 2047) rfl rfl (fun K hK=>?_);refine gO Try.func113 #[.agg #[.slice (some ⟨gw,0,none⟩) ws'.length cW,.int .i64 y,.int .i64 t,.int .i64 o,.slice (some ⟨gc,0,none⟩) cards'.length cC],.int .i64 (a1+x),.int .i64 z,.bool false] ?_;(with_reducible refine (bOh b gw cW gc cC ws' y t o cards' (a1+x) z false _ HO6.out (by have:=HLn.out;have:=H1.out;omega) (by have:=H2.out;have:=HXx.out;omega) (by have:=H2.out;have:=HXx.out;have:=HLn.out;omega) H1.out.2.2.1 (by have:=H2.out;have:=H1.out;have:=HXx.out;have:=HLn.out;omega)).mono ?_);rintro e w7 ⟨rfl,hO,hc⟩;refine ⟨_,rfl,?_⟩;have HO7:=aK hO;have HV7:=aK (cI (hc.R (fZ HV6.out) (fun k hk=>by have:=HZ.out;have:=HGW.out;omega)) (fun _ _=>trivial));have BP7:=aK (hc.blk BP6.out bCu);have BR7:=aK (hc.blk BR6.out tW);have HI7:=aK (HI6.out.ch hc (by have:=HGW.out;omega) (fun k hk=>by have:=HGW.out;omega));have HCh7:=aK (HCh6.out.trans hc (fun k h=> .inl (.inl h)));have HPm:=aK (show (yB ws' y cards' (a1+x) z false).1.length=ws'.length∧(yB ws' y cards' (a1+x) z false).2.length=cards'.length by unfold yB;dsimp only;rw [dV];refine ⟨rfl,?_⟩;split<;>simp);clear hO hc HO6 HV6 BP6 BR6 HI6 HCh6 r1;have c0:=(bA BP7.out 0).trans rfl;have c1:=(bA BP7.out 1).trans rfl;have c2:=(bA BP7.out 2).trans rfl;have c3:=(bA BP7.out 3).trans rfl;have c4:=(bA BP7.out 4).trans rfl;have y0:=bL BP7.out 0;have y1:=bL BP7.out 1;have y2:=bL BP7.out 2;have y3:=bL BP7.out 3;have y4:=bL BP7.out 4;refine hK.out _ _ ⟨c0,c1,c2,c3,c4,(by have h_:=(kO (enc:=Value.bool) (h1:=fun _=>rfl) false HV7.out x (by have:=HXx.out;omega) HXx.out.2).1;rw [HF.out] at h_;exact h_)⟩ (fun hHeld=>?_);clear hK K;refine nS 62 ?_;refine qL (i:=11) (N:=none) (lA 12 4095) rfl rfl (by kernel_rfl) (by decide) (fun K hK=>?_);refine vN (w1:=?_) (by rfl) rfl ?_ ?_;rotate_left
      ·go_simp
       rfl
      refine hK.out _ _ ?_;clear hK K;refine gT (by kernel_rfl) ?_;have HO8:=aK (HO7.out.ch (Ch.box5 (Ch.refl (fun k=>k=gp) _) (.inl rfl) (.slice (some ⟨gw,0,none⟩) ws'.length cW) (.int .i64 y) (.int .i64 t) (.int .i64 o) (.slice (some ⟨gc,0,none⟩) cards'.length cC)) bCu bCu);have HV8:=aK (cI ((Ch.box5 (Ch.refl (fun k=>k=gp) _) (.inl rfl) (.slice (some ⟨gw,0,none⟩) ws'.length cW) (.int .i64 y) (.int .i64 t) (.int .i64 o) (.slice (some ⟨gc,0,none⟩) cards'.length cC)).R (fZ HV7.out) (fun k hk=>by have:=HZ.out;omega)) (fun _ _=>trivial));have BP8:=aK (show (nF w7 gp (.slice (some ⟨gw,0,none⟩) ws'.length cW) (.int .i64 y) (.int .i64 t) (.int .i64 o) (.slice (some ⟨gc,0,none⟩) cards'.length cC)).heap[gp]? =some (.cells #[.slice (some ⟨gw,0,none⟩) (yB ws' y cards' (a1+x) z false).1.length cW,.int .i64 y,.int .i64 t,.int .i64 o,.slice (some ⟨gc,0,none⟩) (yB ws' y cards' (a1+x) z false).2.length cC] 29 (0,0)) by rw [HPm.out.1,HPm.out.2];exact jH BP7.out);have BR8:=aK ((Ch.box5 (Ch.refl (fun k=>k=gp) _) (.inl rfl) (.slice (some ⟨gw,0,none⟩) ws'.length cW) (.int .i64 y) (.int .i64 t) (.int .i64 o) (.slice (some ⟨gc,0,none⟩) cards'.length cC)).blk BR7.out (by have:=HGr.out;omega));have HI8:=aK (HI7.out.ch (Ch.box5 (Ch.refl (fun k=>k=gp) _) (.inl rfl) (.slice (some ⟨gw,0,none⟩) ws'.length cW) (.int .i64 y) (.int .i64 t) (.int .i64 o) (.slice (some ⟨gc,0,none⟩) cards'.length cC)) bCu (fun k hk=>by have:=HGp.out;have:=HGW.out;omega));have HCh8:=aK (HCh7.out.box5 (.inr HGp.out) (.slice (some ⟨gw,0,none⟩) ws'.length cW) (.int .i64 y) (.int .i64 t) (.int .i64 o) (.slice (some ⟨gc,0,none⟩) cards'.length cC));clear HO7 HV7 BP7 BR7 HI7 HCh7 c0 c1 c2 c3 c4 y0 y1 y2 y3 y4;go_wp2;have q7:wrap64 (x+1)=x+1:=by have:=HXx.out;have:=H2.out;unfold wrap64;omega
      go_roundw
      case rel=>exact ⟨x+1,(yB ws' y cards' (a1+x) z false).1,(yB ws' y cards' (a1+x) z false).2,by rw [q7],⟨by have:=HXx.out;omega⟩,⟨by rw [HPm.out.1];exact HLn.out.1,by rw [HPm.out.2];exact HLn.out.2⟩,HO8,⟨HV8.out⟩,BP8,BR8,⟨HI8.out.le (by omega)⟩,HCh8⟩
      case measure=>rw [q7];have:=HXx.out;simp only [intOf];omega
     ·have d2 : decide (0 < q) = false := bM cq
      clear cq hq;go_wp2;have q7:wrap64 (x+1)=x+1:=by have:=HXx.out;have:=H2.out;unfold wrap64;omega
      go_roundw
      case rel=>exact ⟨x+1,ws',cards',by rw [q7],⟨by have:=HXx.out;omega⟩,⟨HLn.out.1,HLn.out.2⟩,HO6,⟨HV6.out⟩,BP6,BR6,⟨HI6.out.le (by omega)⟩,HCh6⟩
      case measure=>rw [q7];have:=HXx.out;simp only [intOf];omega
    | true =>
     rw [hb] at r0;have HF:=aK hb;clear hb
     go_wp2_with fail
     go_at_call 63;refine (jF _ g pl.length w0 _ HI4.out (by have:=HM.out;have:=H2.out;have:=HXx.out;omega) (by have:=HPL.out;omega) (by have:=HPL.out;omega)).mono ?_;rintro e w5 ⟨pz,rfl,hpz,hi,hk⟩;clear r0;have hst:=HI4.out.step hi hk;have HO5:=aK (HO4.out.ch hst (by have:=HGW.out;omega) (by have:=HGW.out;omega));have HV5:=aK (cI (hst.R (fZ HV4.out) (fun k hk=>by have:=HZ.out;have:=HGW.out;omega)) (fun _ _=>trivial));have BP5:=aK (hst.blk BP4.out bCu);have BR5:=aK (hst.blk BR4.out tW);have HI5:=aK hi;have HCh5:=aK (HCh4.out.trans hst (fun k h=> .inl (.inr h)));clear hst hi hk HO4 HV4 BP4 BR4 HI4 HCh4;have HPz:=aK hpz;have p5:=bO hpz.1;have p6:=bO hpz.2;obtain ⟨adp,ep,hxp⟩:=dL (HP.out _ HCh5.out.kept) pz hpz.1 hpz.2
     cases ep
     clear hpz;obtain ⟨u,hu⟩: ∃u,u=rd pl pz:=⟨_,rfl⟩;rw [←hu] at hxp;clear hu
     go_wp2_with fail
     go_at_call 63;refine (jF _ g 3 w0 _ HI5.out (by have:=HM.out;have:=H2.out;have:=HXx.out;omega) (by omega) (by omega)).mono ?_;rintro e w6 ⟨q,rfl,hq,hi,hk⟩;clear hxp;have hst:=HI5.out.step hi hk;have HO6:=aK (HO5.out.ch hst (by have:=HGW.out;omega) (by have:=HGW.out;omega));have HV6:=aK (cI (hst.R (fZ HV5.out) (fun k hk=>by have:=HZ.out;have:=HGW.out;omega)) (fun _ _=>trivial));have BP6:=aK (hst.blk BP5.out bCu);have BR6:=aK (hst.blk BR5.out tW);have HI6:=aK hi;have HCh6:=aK (HCh5.out.trans hst (fun k h=> .inl (.inr h)));clear hst hi hk HO5 HV5 BP5 BR5 HI5 HCh5;by_cases cq:0<q
     ·have d2 : decide (0 < q) = true := bD cq
      clear cq hq;have q4:IntKind.i64.wrap (a1+x)=a1+x:=dD _ (by have:=HXx.out;have:=H2.out;have:=H1.out;omega)
      go_wp2;replace HO6:=aK (HO6.out.ch (Ch.drew (Ch.refl (fun _=>False) _)) (fun h=>h) (fun h=>h));replace HV6:=aK (dC HV6.out);replace BP6:=aK (bY BP6.out);replace BR6:=aK (bY BR6.out);replace HI6:=aK HI6.out.drew;replace HCh6:=aK HCh6.out.drew;have r1:=(kO (enc:=Value.bool) (h1:=fun _=>rfl) false HV6.out x (by have:=HXx.out;omega) HXx.out.2).1;rw [HF.out] at r1;refine sT 12 (S:=fun w'=>w'.cell? ⟨gp,0,none⟩=some (.slice (some ⟨gw,0,none⟩) ws'.length cW)∧w'.cell? ⟨gp,1,none⟩=some (.int .i64 y)∧w'.cell? ⟨gp,2,none⟩=some (.int .i64 t)∧w'.cell? ⟨gp,3,none⟩=some (.int .i64 o)∧w'.cell? ⟨gp,4,none⟩=some (.slice (some ⟨gc,0,none⟩) cards'.length cC)∧w'.cell? ⟨gR,x.toNat,none⟩=some (.bool true)) (ds:=[11]) ⟨(bA BP6.out 0).trans rfl,(bA BP6.out 1).trans rfl,(bA BP6.out 2).trans rfl,(bA BP6.out 3).trans rfl,(bA BP6.out 4).trans rfl,r1⟩ (fun hHeld=>?_);generalize w6.drew=w6a at HO6 HV6 BP6 BR6 HI6 HCh6 r1 hHeld ⊢;refine cJ 1 ?_;refine cJ 2 ?_;refine cJ 3 ?_;refine cJ 4 ?_;refine cJ 5 ?_;refine cJ 6 ?_;refine cJ 7 ?_;refine cJ 8 ?_;refine tS 0 52 (lA 12 511) rfl rfl (by kernel_rfl) hHeld pK ?_;refine tS 9 61 (lA 12 1023) rfl rfl (by kernel_rfl) hHeld pK ?_;refine oS 10 62 (lA 12 2047) rfl rfl (fun K hK=>?_);refine gO Try.func113 #[.agg #[.slice (some ⟨gw,0,none⟩) ws'.length cW,.int .i64 y,.int .i64 t,.int .i64 o,.slice (some ⟨gc,0,none⟩) cards'.length cC],.int .i64 (a1+x),.int .i64 u,.bool true] ?_;(with_reducible refine (bOh b gw cW gc cC ws' y t o cards' (a1+x) u true _ HO6.out (by have:=HLn.out;have:=H1.out;omega) (by have:=H2.out;have:=HXx.out;omega) (by have:=H2.out;have:=HXx.out;have:=HLn.out;omega) H1.out.2.2.1 (by have:=H2.out;have:=H1.out;have:=HXx.out;have:=HLn.out;omega)).mono ?_);rintro e w7 ⟨rfl,hO,hc⟩;refine ⟨_,rfl,?_⟩;have HO7:=aK hO;have HV7:=aK (cI (hc.R (fZ HV6.out) (fun k hk=>by have:=HZ.out;have:=HGW.out;omega)) (fun _ _=>trivial));have BP7:=aK (hc.blk BP6.out bCu);have BR7:=aK (hc.blk BR6.out tW);have HI7:=aK (HI6.out.ch hc (by have:=HGW.out;omega) (fun k hk=>by have:=HGW.out;omega));have HCh7:=aK (HCh6.out.trans hc (fun k h=> .inl (.inl h)));have HPm:=aK (show (yB ws' y cards' (a1+x) u true).1.length=ws'.length∧(yB ws' y cards' (a1+x) u true).2.length=cards'.length by unfold yB;dsimp only;rw [dV];refine ⟨rfl,?_⟩;split<;>simp);clear hO hc HO6 HV6 BP6 BR6 HI6 HCh6 r1;have c0:=(bA BP7.out 0).trans rfl;have c1:=(bA BP7.out 1).trans rfl;have c2:=(bA BP7.out 2).trans rfl;have c3:=(bA BP7.out 3).trans rfl;have c4:=(bA BP7.out 4).trans rfl;have y0:=bL BP7.out 0;have y1:=bL BP7.out 1;have y2:=bL BP7.out 2;have y3:=bL BP7.out 3;have y4:=bL BP7.out 4;refine hK.out _ _ ⟨c0,c1,c2,c3,c4,(by have h_:=(kO (enc:=Value.bool) (h1:=fun _=>rfl) false HV7.out x (by have:=HXx.out;omega) HXx.out.2).1;rw [HF.out] at h_;exact h_)⟩ (fun hHeld=>?_);clear hK K;refine nS 62 ?_;refine qL (i:=11) (N:=none) (lA 12 4095) rfl rfl (by kernel_rfl) (by decide) (fun K hK=>?_);refine vN (w1:=?_) (by rfl) rfl ?_ ?_;rotate_left
      ·go_simp
       rfl
      refine hK.out _ _ ?_;clear hK K;refine gT (by kernel_rfl) ?_;have HO8:=aK (HO7.out.ch (Ch.box5 (Ch.refl (fun k=>k=gp) _) (.inl rfl) (.slice (some ⟨gw,0,none⟩) ws'.length cW) (.int .i64 y) (.int .i64 t) (.int .i64 o) (.slice (some ⟨gc,0,none⟩) cards'.length cC)) bCu bCu);have HV8:=aK (cI ((Ch.box5 (Ch.refl (fun k=>k=gp) _) (.inl rfl) (.slice (some ⟨gw,0,none⟩) ws'.length cW) (.int .i64 y) (.int .i64 t) (.int .i64 o) (.slice (some ⟨gc,0,none⟩) cards'.length cC)).R (fZ HV7.out) (fun k hk=>by have:=HZ.out;omega)) (fun _ _=>trivial));have BP8:=aK (show (nF w7 gp (.slice (some ⟨gw,0,none⟩) ws'.length cW) (.int .i64 y) (.int .i64 t) (.int .i64 o) (.slice (some ⟨gc,0,none⟩) cards'.length cC)).heap[gp]? =some (.cells #[.slice (some ⟨gw,0,none⟩) (yB ws' y cards' (a1+x) u true).1.length cW,.int .i64 y,.int .i64 t,.int .i64 o,.slice (some ⟨gc,0,none⟩) (yB ws' y cards' (a1+x) u true).2.length cC] 29 (0,0)) by rw [HPm.out.1,HPm.out.2];exact jH BP7.out);have BR8:=aK ((Ch.box5 (Ch.refl (fun k=>k=gp) _) (.inl rfl) (.slice (some ⟨gw,0,none⟩) ws'.length cW) (.int .i64 y) (.int .i64 t) (.int .i64 o) (.slice (some ⟨gc,0,none⟩) cards'.length cC)).blk BR7.out (by have:=HGr.out;omega));have HI8:=aK (HI7.out.ch (Ch.box5 (Ch.refl (fun k=>k=gp) _) (.inl rfl) (.slice (some ⟨gw,0,none⟩) ws'.length cW) (.int .i64 y) (.int .i64 t) (.int .i64 o) (.slice (some ⟨gc,0,none⟩) cards'.length cC)) bCu (fun k hk=>by have:=HGp.out;have:=HGW.out;omega));have HCh8:=aK (HCh7.out.box5 (.inr HGp.out) (.slice (some ⟨gw,0,none⟩) ws'.length cW) (.int .i64 y) (.int .i64 t) (.int .i64 o) (.slice (some ⟨gc,0,none⟩) cards'.length cC));clear HO7 HV7 BP7 BR7 HI7 HCh7 c0 c1 c2 c3 c4 y0 y1 y2 y3 y4;go_wp2;have q7:wrap64 (x+1)=x+1:=by have:=HXx.out;have:=H2.out;unfold wrap64;omega
      go_roundw
      case rel=>exact ⟨x+1,(yB ws' y cards' (a1+x) u true).1,(yB ws' y cards' (a1+x) u true).2,by rw [q7],⟨by have:=HXx.out;omega⟩,⟨by rw [HPm.out.1];exact HLn.out.1,by rw [HPm.out.2];exact HLn.out.2⟩,HO8,⟨HV8.out⟩,BP8,BR8,⟨HI8.out.le (by omega)⟩,HCh8⟩
      case measure=>rw [q7];have:=HXx.out;simp only [intOf];omega
     ·have d2 : decide (0 < q) = false := bM cq
      clear cq hq;go_wp2;have q7:wrap64 (x+1)=x+1:=by have:=HXx.out;have:=H2.out;unfold wrap64;omega
      go_roundw
      case rel=>exact ⟨x+1,ws',cards',by rw [q7],⟨by have:=HXx.out;omega⟩,⟨HLn.out.1,HLn.out.2⟩,HO6,⟨HV6.out⟩,BP6,BR6,⟨HI6.out.le (by omega)⟩,HCh6⟩
      case measure=>rw [q7];have:=HXx.out;simp only [intOf];omega
   ·have d1 : decide (x < (R.length : Int)) = false := bM cx
    have HXx:=aK (show x≤R.length+2 from HX.out.2);clear cx HX;have c0:=(bA BP.out 0).trans rfl;have c1:=(bA BP.out 1).trans rfl;have c2:=(bA BP.out 2).trans rfl;have c3:=(bA BP.out 3).trans rfl;have c4:=(bA BP.out 4).trans rfl;have z0:=(bA BR.out 0).trans rfl;have z1:=(bA BR.out 1).trans rfl;have z2:=(bA BR.out 2).trans rfl;have z3:=(bA BR.out 3).trans rfl;have z4:=(bA BR.out 4).trans rfl;have y_0:=bL BR.out 0;have y_1:=bL BR.out 1;have y_2:=bL BR.out 2;have y_3:=bL BR.out 3;have y_4:=bL BR.out 4;go_wp2;refine fM (jY rfl _ _ gr 29 #[.slice (some ⟨gw,0,none⟩) ws'.length cW,.int .i64 y,.int .i64 t,.int .i64 o,.slice (some ⟨gc,0,none⟩) cards'.length cC] (0,0) _ rfl (jH BR.out) Try.underlying29 rfl (by kernel_rfl)) rfl ?_;exact ⟨ws',cards',by rw [HLn.out.1,HLn.out.2],HLn.out,HO.out.ch (Ch.box5 (Ch.refl (fun k=>k=gr) _) (.inl rfl) _ _ _ _ _) tW tW,(HI.out.ch (Ch.box5 (Ch.refl (fun k=>k=gr) _) (.inl rfl) _ _ _ _ _) tW (fun k hk=>by have:=HGr.out;have:=HGW.out;omega)).le (by have:=HXx.out;have:=H2.out;omega),HCh.out.box5 (.inr HGr.out.1) _ _ _ _ _⟩
end Go.Proofs.Ytbaklikaoleplaa.K
namespace Go.Proofs.Ytbaklikaoleplaa.K
open Go.RowKit Go.Proofs.YtbaklikaoleplaaW.PrintWords Go.Proofs.YtbaklikaoleplaaW.PrintLast Go.Proofs.YtbaklikaoleplaaW.PrintMore
attribute [local go_sem] gD gB gY gW fR fQ gC gA
set_option linter.unusedVariables false
set_option linter.unusedSimpArgs false
def vD (k:Nat) (l0:List (S53)) (a1:Int) (a2:Int):Option (Int):=(fK a1 0 (wrap64 ((l0.length:Int) - 1))).bind fun t368=>(if t368=true then ((jP k l0 a1).bind fun t369=>(some (wrap64 (1+(t369.length:Int))))) else (if a1=(-1) then ((fK a2 0 6).bind fun t372=>(if t372=true then (some (wrap64 (2+a2))) else (some 0))) else (if a1=(-2) then ((fK a2 0 6).bind fun t373=>(if t373=true then (some (wrap64 (2+a2))) else (some 0))) else (some 0))))
theorem rI (k:Nat) (A0:Option Addr) (c0:Nat) (l0:List (S53)) (a1:Int) (a2:Int) (r:Int) (w:World) (hr0:Kd.C tU w A0 l0.length l0) (hc0:l0.length≤c0) (h:vD k l0 a1 a2=some r):
  Calls Try.prog 110 #[.slice A0 l0.length c0,.int .i64 a1,.int .i64 a2] w fun e w'=>e= .returned (.int .i64 r)∧Below w.heap.size w w':=by
 have HR0:=aK hr0;have HC0:=aK hc0;clear hr0 hc0;have HB:=aK (bH w.heap.size w);have H:((fK a1 0 (wrap64 ((l0.length:Int) - 1))).bind fun t368=>(if t368=true then ((jP k l0 a1).bind fun t369=>(some (wrap64 (1+(t369.length:Int))))) else (if a1=(-1) then ((fK a2 0 6).bind fun t372=>(if t372=true then (some (wrap64 (2+a2))) else (some 0))) else (if a1=(-2) then ((fK a2 0 6).bind fun t373=>(if t373=true then (some (wrap64 (2+a2))) else (some 0))) else (some 0)))))=some r:=h
 clear h;replace H:=Option.bind_eq_some_iff.mp H;obtain ⟨t368,A40,H⟩:=H;(try dsimp only at H);have A4:=aK A40;clear A40;by_cases c5:t368=true
 ·subst c5
  rw [if_pos rfl] at H;replace H:=Option.bind_eq_some_iff.mp H;obtain ⟨t369,A60,H⟩:=H;(try dsimp only at H);have A6:=aK A60;clear A60;obtain rfl:=bE H;go_enter Try.func110,Try.ntmps110
  go_wp2_with (first|((with_reducible refine dG (f:=73) rfl ?_);refine gE (some 12) rfl rfl Try.func73 (by kernel_rfl) rfl #[.int .i64 a1,.int .i64 0,.int .i64 (wrap64 ((l0.length:Int) - 1))] rfl qD ?_;(with_reducible refine (cZ a1 0 (wrap64 ((l0.length:Int) - 1)) true _ A4.out).mono ?_);rintro e w' ⟨rfl,⟨nd,rfl⟩⟩;refine ⟨_,rfl,?_⟩)|((with_reducible refine dG (f:=75) rfl ?_);refine gE (some 15) rfl rfl Try.func75 (by kernel_rfl) rfl #[.slice A0 l0.length c0,.int .i64 a1] rfl qD ?_;(with_reducible refine (qY k _ _ l0 a1 t369 _ ?side1 ?side2 A6.out).mono ?_);(case side1=>exact zz44);(case side2=>exact HC0.out);rintro e w7 ⟨v370,rfl,ho0,hb⟩;refine ⟨_,rfl,?_⟩;have HO371:=aK (dE ho0 (bW nQ));replace HB:=aK (bK nQ hb);(try clear hb);(try clear hb2);(try clear hk);(try clear hi);(try clear ho0);obtain ⟨Ao8,co8,eo8⟩:=cL HO371.out;subst eo8))
  go_ret;exact ⟨zL,nQ⟩
 ·replace c5 := Bool.eq_false_iff.mpr c5
  subst c5;rw [if_neg (show¬(false=true) by decide)] at H;by_cases c9:a1=(-1)
  ·rw [if_pos c9] at H
   have c9b0:(a1==(-1))=true:=zH.mpr c9
   have c9b1:(a1 !=(-1))=false:=bne_eq_false_iff_eq.mpr c9
   clear c9;replace H:=Option.bind_eq_some_iff.mp H;obtain ⟨t372,A100,H⟩:=H;(try dsimp only at H);have A10:=aK A100;clear A100;by_cases c11:t372=true
   ·subst c11
    rw [if_pos rfl] at H;obtain rfl:=bE H;go_enter Try.func110,Try.ntmps110
    go_wp2_with (first|((with_reducible refine dG (f:=73) rfl ?_);refine gE (some 12) rfl rfl Try.func73 (by kernel_rfl) rfl #[.int .i64 a1,.int .i64 0,.int .i64 (wrap64 ((l0.length:Int) - 1))] rfl qD ?_;(with_reducible refine (cZ a1 0 (wrap64 ((l0.length:Int) - 1)) false _ A4.out).mono ?_);rintro e w' ⟨rfl,⟨nd,rfl⟩⟩;refine ⟨_,rfl,?_⟩)|(go_at_call 73;(with_reducible refine (cZ a2 0 6 true _ A10.out).mono ?_);rintro e w' ⟨rfl,⟨nd,rfl⟩⟩))
    go_ret;exact ⟨zL,nQ⟩
   ·replace c11 := Bool.eq_false_iff.mpr c11
    subst c11;rw [if_neg (show¬(false=true) by decide)] at H;obtain rfl:=bE H;go_enter Try.func110,Try.ntmps110
    go_wp2_with (first|((with_reducible refine dG (f:=73) rfl ?_);refine gE (some 12) rfl rfl Try.func73 (by kernel_rfl) rfl #[.int .i64 a1,.int .i64 0,.int .i64 (wrap64 ((l0.length:Int) - 1))] rfl qD ?_;(with_reducible refine (cZ a1 0 (wrap64 ((l0.length:Int) - 1)) false _ A4.out).mono ?_);rintro e w' ⟨rfl,⟨nd,rfl⟩⟩;refine ⟨_,rfl,?_⟩)|(go_at_call 73;(with_reducible refine (cZ a2 0 6 false _ A10.out).mono ?_);rintro e w' ⟨rfl,⟨nd,rfl⟩⟩))
    go_ret;exact ⟨zL,nQ⟩
  ·rw [if_neg c9] at H
   have c9b0:(a1==(-1))=false:=xP.mpr c9
   have c9b1:(a1 !=(-1))=true:=bne_iff_ne.mpr c9
   by_cases c12:a1=(-2)
   ·rw [if_pos c12] at H
    have c12b0:(a1==(-2))=true:=zH.mpr c12
    have c12b1:(a1 !=(-2))=false:=bne_eq_false_iff_eq.mpr c12
    clear c12;replace H:=Option.bind_eq_some_iff.mp H;obtain ⟨t373,A130,H⟩:=H;(try dsimp only at H);have A13:=aK A130;clear A130;by_cases c14:t373=true
    ·subst c14
     rw [if_pos rfl] at H;obtain rfl:=bE H;go_enter Try.func110,Try.ntmps110
     go_wp2_with (first|((with_reducible refine dG (f:=73) rfl ?_);refine gE (some 12) rfl rfl Try.func73 (by kernel_rfl) rfl #[.int .i64 a1,.int .i64 0,.int .i64 (wrap64 ((l0.length:Int) - 1))] rfl qD ?_;(with_reducible refine (cZ a1 0 (wrap64 ((l0.length:Int) - 1)) false _ A4.out).mono ?_);rintro e w' ⟨rfl,⟨nd,rfl⟩⟩;refine ⟨_,rfl,?_⟩)|(go_at_call 73;(with_reducible refine (cZ a2 0 6 true _ A13.out).mono ?_);rintro e w' ⟨rfl,⟨nd,rfl⟩⟩))
     go_ret;exact ⟨zL,nQ⟩
    ·replace c14 := Bool.eq_false_iff.mpr c14
     subst c14;rw [if_neg (show¬(false=true) by decide)] at H;obtain rfl:=bE H;go_enter Try.func110,Try.ntmps110
     go_wp2_with (first|((with_reducible refine dG (f:=73) rfl ?_);refine gE (some 12) rfl rfl Try.func73 (by kernel_rfl) rfl #[.int .i64 a1,.int .i64 0,.int .i64 (wrap64 ((l0.length:Int) - 1))] rfl qD ?_;(with_reducible refine (cZ a1 0 (wrap64 ((l0.length:Int) - 1)) false _ A4.out).mono ?_);rintro e w' ⟨rfl,⟨nd,rfl⟩⟩;refine ⟨_,rfl,?_⟩)|(go_at_call 73;(with_reducible refine (cZ a2 0 6 false _ A13.out).mono ?_);rintro e w' ⟨rfl,⟨nd,rfl⟩⟩))
     go_ret;exact ⟨zL,nQ⟩
   ·rw [if_neg c12] at H
    have c12b0:(a1==(-2))=false:=xP.mpr c12
    have c12b1:(a1 !=(-2))=true:=bne_iff_ne.mpr c12
    obtain rfl:=bE H;go_enter Try.func110,Try.ntmps110
    go_wp2_with (first|((with_reducible refine dG (f:=73) rfl ?_);refine gE (some 12) rfl rfl Try.func73 (by kernel_rfl) rfl #[.int .i64 a1,.int .i64 0,.int .i64 (wrap64 ((l0.length:Int) - 1))] rfl qD ?_;(with_reducible refine (cZ a1 0 (wrap64 ((l0.length:Int) - 1)) false _ A4.out).mono ?_);rintro e w' ⟨rfl,⟨nd,rfl⟩⟩;refine ⟨_,rfl,?_⟩))
    go_ret;exact ⟨zL,nQ⟩
def bBp (l0_0:List Int) (a0_1:Int) (a0_2:Int) (a0_3:Int) (l0_4:List Bool) (a1:Int) (a2:Int) (a3:Int):Option (List Int×Int×Int×Int×List Bool×Int):=if 0≤a1 then (if a1<(l0_0.length:Int) then ((some (l0_0.set (a1:Int).toNat a2:List Int)).bind fun y376=>(if a2<0 then (if 0≤(wrap64 (a1+1)) then (if (wrap64 (a1+1))<(l0_0.length:Int) then (some ((y376.set ((wrap64 (a1+1)):Int).toNat a3),a0_1,a0_2,a0_3,l0_4,wrap64 (a1+1))) else (none)) else (none)) else (some (y376,a0_1,a0_2,a0_3,l0_4,wrap64 (a1+1))))) else (none)) else (none)
def bBo:Nat→Int→Int→Bool→Int→Bool→List Int→Int→Int→Int→List Bool→Option (List Int×Int×Int×Int×List Bool×Int)
  |0,_,_,_,_,_,_,_,_,_,_=>none
  |k+1,x2,x3,x4,x12,x27,x379000,x379001,x379002,x379003,x379004=>if x27=true then ((bBp x379000 x379001 x379002 (wrap64 (x379003+x12)) x379004 (wrap64 ((wrap64 (x379003+x12)) - x12)) x2 x3).bind fun bt381=>(some (bt381.1,bt381.2.1,bt381.2.2.1,bt381.2.2.2.1,bt381.2.2.2.2.1,bt381.2.2.2.2.2))) else (if x4=true then (some (x379000,x379001,x379002,x379003,x379004,0)) else (if (wrap64 (x379002+x12))≤x379001 then ((bBp x379000 x379001 (wrap64 (x379002+x12)) x379003 x379004 (wrap64 ((wrap64 (x379002+x12)) - x12)) x2 x3).bind fun bt391=>(some (bt391.1,bt391.2.1,bt391.2.2.1,bt391.2.2.2.1,bt391.2.2.2.2.1,bt391.2.2.2.2.2))) else (some (x379000,x379001,x379002,x379003,x379004,0))))
def spec_l21Try.f (k:Nat) (l0:List (S53)) (l1_0:List Int) (a1_1:Int) (a1_2:Int) (a1_3:Int) (l1_4:List Bool) (a2:Int) (a3:Int) (a4:Bool):Option (List Int×Int×Int×Int×List Bool×Int):=(vD k l0 a2 a3).bind fun t380=>(if a4=true then (bBo k a2 a3 a4 t380 (decide ((wrap64 (a1_3+t380))≤(l1_0.length:Int))) l1_0 a1_1 a1_2 a1_3 l1_4) else (bBo k a2 a3 a4 t380 false l1_0 a1_1 a1_2 a1_3 l1_4))
end Go.Proofs.Ytbaklikaoleplaa.K
namespace Go.Proofs.Ytbaklikaoleplaa.Pure
open Go.RowKit Go.Proofs.Ytbaklikaoleplaa.K Go.Proofs.YtbaklikaoleplaaW.PrintWords Go.Proofs.YtbaklikaoleplaaW.PrintLast Go.Proofs.YtbaklikaoleplaaW.PrintMore
set_option linter.unusedVariables false
set_option linter.unusedSimpArgs false
theorem want_eq {cs:Cs} (h:rP cs=true) (c n:Int) (k:Nat) (hk:20≤k):vD k cs c n=some (jJ (gI cs) c n):=by
 have hl:=sL h;unfold vD;rw [jS,dZ (n:=(cs.length:Int) - 1) (by omega) (by omega)];simp only [bC,dI]
 by_cases c1:0≤c∧c≤(cs.length:Int) - 1
 ·have c1' : c < (cs.length : Int) := by omega
  obtain ⟨f1,f2⟩:=bCe h c1.1 c1';rw [if_pos c1,zW,f2 k (by omega),bAt n c1.1 c1',bC,dZ (n:=1+((bIm cs c).length:Int)) (by omega) (by omega)]
 ·rw [if_neg c1, jS]
  unfold jJ;rw [vI];simp only [bC,dI]
  by_cases e1:c= -1
  ·rw [if_pos e1, if_pos (Or.inl e1)]
   by_cases z:0≤n∧n≤6
   ·rw [if_pos z,if_pos z,dZ (by omega) (by omega)]
   ·rw [if_neg z,if_neg z]
  ·rw [if_neg e1]
   by_cases e2:c= -2
   ·rw [if_pos e2, if_pos (Or.inr e2)]
    by_cases z:0≤n∧n≤6
    ·rw [if_pos z,if_pos z,dZ (by omega) (by omega)]
    ·rw [if_neg z,if_neg z]
   ·rw [if_neg e2,if_neg (by omega),if_neg (by omega)]
theorem bHm {cs:Cs} (h:rP cs=true) (c n:Int):0≤jJ (gI cs) c n∧jJ (gI cs) c n≤9∧(c<0→jJ (gI cs) c n≠0→2≤jJ (gI cs) c n):=by
 by_cases z:0≤c∧c<cs.length
 ·rw [bAt n z.1 z.2]
  have:=(bCe h z.1 z.2).1
  omega
 ·unfold jJ
  rw [vI,if_neg z]
  split
  ·split<;>omega
  ·omega
def bQi (ws:List Int) (i c n:Int):List Int:=if c<0 then (ws.set i.toNat c).set (i+1).toNat n else ws.set i.toNat c
theorem mkW_len (ws:List Int) (i c n:Int):(bQi ws i c n).length=ws.length:=by
  unfold bQi;split<;>simp
def bNa (ws:List Int) (y t o s:Int) (v:Bool):Bool:=match v with|true=>decide (o+s≤(ws.length:Int))|false=>decide (t+s≤y)
def bAp (ws:List Int) (y t o:Int) (cards:List Bool) (c n s:Int) (v:Bool):List Int×Int×Int×Int×List Bool×Int:=
  match v with
  |true=>if bNa ws y t o s true=true then (bQi ws o c n,y,t,o+s,cards,o+1) else (ws,y,t,o,cards,0)
  |false=>if bNa ws y t o s false=true then (bQi ws t c n,y,t+s,o,cards,t+1) else (ws,y,t,o,cards,0)
end Go.Proofs.Ytbaklikaoleplaa.Pure
namespace Go.Proofs.Ytbaklikaoleplaa.K
open Go.RowKit Go.Proofs.YtbaklikaoleplaaW.PrintWords Go.Proofs.YtbaklikaoleplaaW.PrintLast Go.Proofs.YtbaklikaoleplaaW.PrintMore
attribute [local go_sem] gD gB gY gW fR fQ gC gA
set_option linter.unusedVariables false
set_option linter.unusedSimpArgs false
open Go.Proofs.Ytbaklikaoleplaa.Pure
theorem bRn (b gw cW gc cC:Nat) (ws:List Int) (y t o:Int) (cards:List Bool) (i c n:Int) (w:World) (h:OM b gw cW gc cC w ws cards) (hn:ws.length≤1048576) (h0:0≤i) (h1:i<ws.length) (h2:c<0→i+1<ws.length):
  Calls Try.prog 111 #[.agg #[.slice (some ⟨gw,0,none⟩) ws.length cW,.int .i64 y,.int .i64 t,.int .i64 o,.slice (some ⟨gc,0,none⟩) cards.length cC],.int .i64 i,.int .i64 c,.int .i64 n] w fun e w'=>e= .returned (.tuple #[.agg #[.slice (some ⟨gw,0,none⟩) ws.length cW,.int .i64 y,.int .i64 t,.int .i64 o,.slice (some ⟨gc,0,none⟩) cards.length cC],.int .i64 (i+1)])∧OM b gw cW gc cC w' (bQi ws i c n) cards∧Ch (fun k=>k=gw) w w':=by
 have HO:=aK h;have HN:=aK hn;have H1:=aK (show (0≤i∧i<ws.length)∧(c<0→i+1<ws.length) from ⟨⟨h0,h1⟩,h2⟩);have HGW:=aK (show gw<w.heap.size∧gc<w.heap.size from ⟨h.bw.2,h.bc.2⟩);have q1:IntKind.i64.wrap (i+1)=i+1:=dD _ (by omega)
 have p1:=bO h0;have p2:=bO h1;clear h hn h0 h1 h2;go_enter Try.func111,Try.ntmps111;by_cases c2:c<0
 ·have d : decide (c < 0) = true := bD c2
  have HT:=aK c2;clear c2
  go_wp2_with (first|((with_reducible refine dK (N:=4) rfl ?_);refine dM ?hg (N:=4) ?hd (cs:= #[.slice (some ⟨gw,0,none⟩) ws.length cW,.int .i64 y,.int .i64 t,.int .i64 o,.slice (some ⟨gc,0,none⟩) cards.length cC]) (t:=29) ?hr ?_;(case hd=>rfl);(case hg=>rfl);(case hr=>first|(go_simp;done)|(go_simp;rfl));intro gp hg w1 hbox hb;have BP:=aK hbox;have HCh:=aK ((Ch.refl (fun k=>k=gw) w).below hb);have HGp:=aK (show w.heap.size≤gp by rw [hg];exact bV _);have HC0:=aK ((Ch.refl (fun _=>False) w).below hb);clear hb hbox hg)|((with_reducible refine dK (N:=8) rfl ?_);refine dM ?hg (N:=8) ?hd (cs:= #[.slice none 0 0,.int .i64 0,.int .i64 0,.int .i64 0,.slice none 0 0]) (t:=29) ?hr ?_;(case hd=>rfl);(case hg=>rfl);(case hr=>first|(go_simp;done)|(go_simp;rfl));intro gr hg w2 hbox hb;have BR:=aK hbox;have HGr:=aK (show w.heap.size≤gr∧gp<gr by have:=HCh.out.size;have:=dN BP.out;rw [hg];exact ⟨by omega,by omega⟩);replace BP:=aK (bS BP.out hb);replace HCh:=aK (HCh.out.below hb);skip;replace HC0:=aK (HC0.out.below hb);have HO2:=aK (HO.out.ch HC0.out (fun h=>h) (fun h=>h));have c0:=(bA BP.out 0).trans rfl;have c1:=(bA BP.out 1).trans rfl;have c2:=(bA BP.out 2).trans rfl;have c3:=(bA BP.out 3).trans rfl;have c4:=(bA BP.out 4).trans rfl;obtain ⟨x0,f0⟩:=HO2.out.wcell i H1.out.1.1 H1.out.1.2;clear hb hbox hg)|((with_reducible refine fX (t:=3) (p:=14) rfl ?_);refine fN (t:=3) (p:=14) (v:=?vo1) (w1:=(w2.setCell ⟨gw,i.toNat,none⟩ (.int .i64 c))) ?hg ?ho ?hn ?hr ?_;(case ho=>rfl);(case hg=>rfl);(case hn=>rfl);(case hr=>first|(go_simp;done)|(go_simp;rfl));intro w3 hw;have HO3:=aK (show OM b gw cW gc cC w3 (ws.set i.toNat c) cards by rw [hw];exact HO2.out.setw i c);have HC3:=aK (show Ch (fun k=>k=gw) w w3 by rw [hw];exact HCh.out.set (.inl rfl) _);have BP3:=aK (show w3.heap[gp]? =some (.cells #[.slice (some ⟨gw,0,none⟩) ws.length cW,.int .i64 y,.int .i64 t,.int .i64 o,.slice (some ⟨gc,0,none⟩) cards.length cC] 29 (0,0)) by rw [hw];exact jG BP.out (by have:=HGp.out;have:=HGW.out;show gp≠gw;omega) _);have BR3:=aK (show w3.heap[gr]? =some (.cells #[.slice none 0 0,.int .i64 0,.int .i64 0,.int .i64 0,.slice none 0 0] 29 (0,0)) by rw [hw];exact jG BR.out (by have:=HGr.out;have:=HGW.out;show gr≠gw;omega) _);clear hw x0 f0 HO2 HCh BP BR HC0;clear c0 c1 c2 c3 c4;have c0:=(bA BP3.out 0).trans rfl;have c1:=(bA BP3.out 1).trans rfl;have c2:=(bA BP3.out 2).trans rfl;have c3:=(bA BP3.out 3).trans rfl;have c4:=(bA BP3.out 4).trans rfl;have p3:=bO (show 0≤i+1 by have:=H1.out;omega);have p4:=bO (show i+1<(ws.length:Int) from H1.out.2 HT.out);obtain ⟨x1,f1⟩:=HO3.out.wcell (i+1) (by have:=H1.out;omega) (by rw [dV];exact H1.out.2 HT.out))|((with_reducible refine fX (t:=3) (p:=22) rfl ?_);refine fN (t:=3) (p:=22) (v:=?vo2) (w1:=(w3.setCell ⟨gw,(i+1).toNat,none⟩ (.int .i64 n))) ?hg ?ho ?hn ?hr ?_;(case ho=>rfl);(case hg=>rfl);(case hn=>rfl);(case hr=>first|(go_simp;done)|(go_simp;rfl));intro w4 hw;have HO4:=aK (show OM b gw cW gc cC w4 ((ws.set i.toNat c).set (i+1).toNat n) cards by rw [hw];exact HO3.out.setw (i+1) n);have HC4:=aK (show Ch (fun k=>k=gw) w w4 by rw [hw];exact HC3.out.set (.inl rfl) _);have BP4:=aK (show w4.heap[gp]? =some (.cells #[.slice (some ⟨gw,0,none⟩) ws.length cW,.int .i64 y,.int .i64 t,.int .i64 o,.slice (some ⟨gc,0,none⟩) cards.length cC] 29 (0,0)) by rw [hw];exact jG BP3.out (by have:=HGp.out;have:=HGW.out;show gp≠gw;omega) _);have BR4:=aK (show w4.heap[gr]? =some (.cells #[.slice none 0 0,.int .i64 0,.int .i64 0,.int .i64 0,.slice none 0 0] 29 (0,0)) by rw [hw];exact jG BR3.out (by have:=HGr.out;have:=HGW.out;show gr≠gw;omega) _);clear hw x1 f1 HO3 HC3 BP3 BR3 p3 p4;clear c0 c1 c2 c3 c4;have c0:=(bA BP4.out 0).trans rfl;have c1:=(bA BP4.out 1).trans rfl;have c2:=(bA BP4.out 2).trans rfl;have c3:=(bA BP4.out 3).trans rfl;have c4:=(bA BP4.out 4).trans rfl;have z0:=(bA BR4.out 0).trans rfl;have z1:=(bA BR4.out 1).trans rfl;have z2:=(bA BR4.out 2).trans rfl;have z3:=(bA BR4.out 3).trans rfl;have z4:=(bA BR4.out 4).trans rfl;have y_0:=bL BR4.out 0;have y_1:=bL BR4.out 1;have y_2:=bL BR4.out 2;have y_3:=bL BR4.out 3;have y_4:=bL BR4.out 4))
  refine fM (tJ rfl _ _ gr 29 #[.slice (some ⟨gw,0,none⟩) ws.length cW,.int .i64 y,.int .i64 t,.int .i64 o,.slice (some ⟨gc,0,none⟩) cards.length cC] (0,0) _ rfl (jH BR4.out) Try.underlying29 rfl (by kernel_rfl)) rfl ?_;exact ⟨rfl,by rw [show bQi ws i c n=_ from if_pos HT.out];exact HO4.out.ch (Ch.box5 (Ch.refl (fun k=>k=gr) _) (.inl rfl) _ _ _ _ _) (by have:=HGr.out;have:=HGW.out;show¬gw=gr;omega) (by have:=HGr.out;have:=HGW.out;show¬gc=gr;omega),HC4.out.box5 (.inr HGr.out.1) _ _ _ _ _⟩
 ·have d : decide (c < 0) = false := bM c2
  have HT:=aK c2;clear c2
  go_wp2_with (first|((with_reducible refine dK (N:=4) rfl ?_);refine dM ?hg (N:=4) ?hd (cs:= #[.slice (some ⟨gw,0,none⟩) ws.length cW,.int .i64 y,.int .i64 t,.int .i64 o,.slice (some ⟨gc,0,none⟩) cards.length cC]) (t:=29) ?hr ?_;(case hd=>rfl);(case hg=>rfl);(case hr=>first|(go_simp;done)|(go_simp;rfl));intro gp hg w1 hbox hb;have BP:=aK hbox;have HCh:=aK ((Ch.refl (fun k=>k=gw) w).below hb);have HGp:=aK (show w.heap.size≤gp by rw [hg];exact bV _);have HC0:=aK ((Ch.refl (fun _=>False) w).below hb);clear hb hbox hg)|((with_reducible refine dK (N:=8) rfl ?_);refine dM ?hg (N:=8) ?hd (cs:= #[.slice none 0 0,.int .i64 0,.int .i64 0,.int .i64 0,.slice none 0 0]) (t:=29) ?hr ?_;(case hd=>rfl);(case hg=>rfl);(case hr=>first|(go_simp;done)|(go_simp;rfl));intro gr hg w2 hbox hb;have BR:=aK hbox;have HGr:=aK (show w.heap.size≤gr∧gp<gr by have:=HCh.out.size;have:=dN BP.out;rw [hg];exact ⟨by omega,by omega⟩);replace BP:=aK (bS BP.out hb);replace HCh:=aK (HCh.out.below hb);skip;replace HC0:=aK (HC0.out.below hb);have HO2:=aK (HO.out.ch HC0.out (fun h=>h) (fun h=>h));have c0:=(bA BP.out 0).trans rfl;have c1:=(bA BP.out 1).trans rfl;have c2:=(bA BP.out 2).trans rfl;have c3:=(bA BP.out 3).trans rfl;have c4:=(bA BP.out 4).trans rfl;obtain ⟨x0,f0⟩:=HO2.out.wcell i H1.out.1.1 H1.out.1.2;clear hb hbox hg)|((with_reducible refine fX (t:=3) (p:=14) rfl ?_);refine fN (t:=3) (p:=14) (v:=?vo1) (w1:=(w2.setCell ⟨gw,i.toNat,none⟩ (.int .i64 c))) ?hg ?ho ?hn ?hr ?_;(case ho=>rfl);(case hg=>rfl);(case hn=>rfl);(case hr=>first|(go_simp;done)|(go_simp;rfl));intro w3 hw;have HO3:=aK (show OM b gw cW gc cC w3 (ws.set i.toNat c) cards by rw [hw];exact HO2.out.setw i c);have HC3:=aK (show Ch (fun k=>k=gw) w w3 by rw [hw];exact HCh.out.set (.inl rfl) _);have BP3:=aK (show w3.heap[gp]? =some (.cells #[.slice (some ⟨gw,0,none⟩) ws.length cW,.int .i64 y,.int .i64 t,.int .i64 o,.slice (some ⟨gc,0,none⟩) cards.length cC] 29 (0,0)) by rw [hw];exact jG BP.out (by have:=HGp.out;have:=HGW.out;show gp≠gw;omega) _);have BR3:=aK (show w3.heap[gr]? =some (.cells #[.slice none 0 0,.int .i64 0,.int .i64 0,.int .i64 0,.slice none 0 0] 29 (0,0)) by rw [hw];exact jG BR.out (by have:=HGr.out;have:=HGW.out;show gr≠gw;omega) _);clear hw x0 f0 HO2 HCh BP BR HC0;clear c0 c1 c2 c3 c4;have c0:=(bA BP3.out 0).trans rfl;have c1:=(bA BP3.out 1).trans rfl;have c2:=(bA BP3.out 2).trans rfl;have c3:=(bA BP3.out 3).trans rfl;have c4:=(bA BP3.out 4).trans rfl;have z0:=(bA BR3.out 0).trans rfl;have z1:=(bA BR3.out 1).trans rfl;have z2:=(bA BR3.out 2).trans rfl;have z3:=(bA BR3.out 3).trans rfl;have z4:=(bA BR3.out 4).trans rfl;have y_0:=bL BR3.out 0;have y_1:=bL BR3.out 1;have y_2:=bL BR3.out 2;have y_3:=bL BR3.out 3;have y_4:=bL BR3.out 4))
  refine fM (tJ rfl _ _ gr 29 #[.slice (some ⟨gw,0,none⟩) ws.length cW,.int .i64 y,.int .i64 t,.int .i64 o,.slice (some ⟨gc,0,none⟩) cards.length cC] (0,0) _ rfl (jH BR3.out) Try.underlying29 rfl (by kernel_rfl)) rfl ?_;exact ⟨rfl,by rw [show bQi ws i c n=_ from if_neg (by have:=HT.out;omega)];exact HO3.out.ch (Ch.box5 (Ch.refl (fun k=>k=gr) _) (.inl rfl) _ _ _ _ _) (by have:=HGr.out;have:=HGW.out;show¬gw=gr;omega) (by have:=HGr.out;have:=HGW.out;show¬gc=gr;omega),HC3.out.box5 (.inr HGr.out.1) _ _ _ _ _⟩
theorem try_any (b gw cW gc cC:Nat) (ws:List Int) (y t o:Int) (cards:List Bool) (A:Option Addr) (cA:Nat) (cs:Cs) (c n:Int) (v:Bool) (w:World) (h:OM b gw cW gc cC w ws cards) (hb:Bnd cs ws y t o cards) (hs:jJ (gI cs) c n≠0) (hC:Kd.C tU w A cs.length cs) (hcA:cs.length≤cA):
  Calls Try.prog 92 #[.slice A cs.length cA,.agg #[.slice (some ⟨gw,0,none⟩) ws.length cW,.int .i64 y,.int .i64 t,.int .i64 o,.slice (some ⟨gc,0,none⟩) cards.length cC],.int .i64 c,.int .i64 n,.bool v] w fun e w'=>e= .returned (.tuple #[.agg #[.slice (some ⟨gw,0,none⟩) ws.length cW,.int .i64 y,.int .i64 (bAp ws y t o cards c n (jJ (gI cs) c n) v).2.2.1,.int .i64 (bAp ws y t o cards c n (jJ (gI cs) c n) v).2.2.2.1,.slice (some ⟨gc,0,none⟩) cards.length cC],.int .i64 (bAp ws y t o cards c n (jJ (gI cs) c n) v).2.2.2.2.2])∧OM b gw cW gc cC w' (bAp ws y t o cards c n (jJ (gI cs) c n) v).1 cards∧Ch (fun k=>k=gw) w w':=by
 have hz:=bHm hb.ok c n;have hW:=want_eq hb.ok c n 20 (bV _);obtain ⟨s,hss⟩: ∃s,jJ (gI cs) c n=s:=⟨_,rfl⟩;rw [hss] at hs hz hW ⊢;have HWt:=aK hW;have HSz:=aK (show 1≤s∧s≤9∧(c<0→2≤s) by omega);have HY:=aK (show (0≤y∧y≤40)∧(0≤t∧t≤y)∧(y≤o∧o≤ws.length)∧(14≤(ws.length:Int) - y∧(ws.length:Int) - y≤120) from ⟨⟨hb.y0,hb.y1⟩,⟨hb.t0,hb.t1⟩,⟨hb.o0,hb.o1⟩,⟨hb.n0,hb.n1⟩⟩);have HO:=aK h;have HC:=aK hC;have HCA:=aK hcA;have HGW:=aK (show gw<w.heap.size∧gc<w.heap.size from ⟨h.bw.2,h.bc.2⟩);clear h hb hs hC hcA hz hW hss
 cases v with
 | true =>
  have hy:=HY.out;have hz:=HSz.out;obtain ⟨T,hT⟩: ∃T,T=o+s:=⟨_,rfl⟩;have q1:IntKind.i64.wrap (o+s)=T:=by rw [hT];exact dD _ (by omega)
  have q2:IntKind.i64.wrap (T - s)=o:=by rw [hT,show o+s - s=o by omega];exact dD _ (by omega)
  by_cases cr:T≤(ws.length:Int)
  ·have d1 : decide (T ≤ (ws.length : Int)) = true := bD cr
   have HT:=aK (show T=o+s∧T≤(ws.length:Int) from ⟨hT,cr⟩);clear hy hz hT cr;have hM:bAp ws y t o cards c n s true=(bQi ws o c n,y,t,T,cards,o+1):=by (have h_:=HT.out;unfold bAp bNa;dsimp only;rw [if_pos (bD (by omega)),show o+s=T by omega])
   rw [hM];clear hM;go_enter Try.func92,Try.ntmps92
   go_wp2_with (first|((with_reducible refine dK (N:=6) rfl ?_);refine dM ?hg (N:=6) ?hd (cs:= #[.slice (some ⟨gw,0,none⟩) ws.length cW,.int .i64 y,.int .i64 t,.int .i64 o,.slice (some ⟨gc,0,none⟩) cards.length cC]) (t:=29) ?hr ?_;(case hd=>rfl);(case hg=>rfl);(case hr=>first|(go_simp;done)|(go_simp;rfl));intro gp hg w1 hbox hb;have BP:=aK hbox;have HCh:=aK ((Ch.refl (fun k=>k=gw) w).below hb);have HGp:=aK (show w.heap.size≤gp by rw [hg];exact bV _);have HC0:=aK ((Ch.refl (fun _=>False) w).below hb);clear hb hbox hg)|((with_reducible refine dK (N:=10) rfl ?_);refine dM ?hg (N:=10) ?hd (cs:= #[.slice none 0 0,.int .i64 0,.int .i64 0,.int .i64 0,.slice none 0 0]) (t:=29) ?hr ?_;(case hd=>rfl);(case hg=>rfl);(case hr=>first|(go_simp;done)|(go_simp;rfl));intro gr hg w2 hbox hb;have BR:=aK hbox;have HGr:=aK (show w.heap.size≤gr∧gp<gr by have:=HCh.out.size;have:=dN BP.out;rw [hg];exact ⟨by omega,by omega⟩);replace BP:=aK (bS BP.out hb);replace HCh:=aK (HCh.out.below hb);replace HC0:=aK (HC0.out.below hb);have HO2:=aK (HO.out.ch HC0.out (fun h=>h) (fun h=>h));have HB2:=aK (HC0.out.toBelow (bV _) (fun _ h=>h.elim));clear hb hbox hg)|(go_at_call 110;refine (rI 20 A cA cs c n s _ (cG HC.out HB2.out) HCA.out HWt.out).mono ?_;rintro e w3 ⟨rfl,hb⟩;have HCh3:=aK (HCh.out.below hb);have HO3:=aK (HO2.out.ch ((Ch.refl (fun _=>False) _).below hb) (fun h=>h) (fun h=>h));have BP3:=aK (bS BP.out hb);have BR3:=aK (bS BR.out hb);clear hb HCh HO2 BP BR HC0 HB2;have c0:=(bA BP3.out 0).trans rfl;have c1:=(bA BP3.out 1).trans rfl;have c2:=(bA BP3.out 2).trans rfl;have c3:=(bA BP3.out 3).trans rfl;have c4:=(bA BP3.out 4).trans rfl;have fz:=bL BP3.out 3)|((with_reducible refine fX (t:=3) (p:=32) rfl ?_);refine fN (t:=3) (p:=32) (v:=?vo_3) (w1:=(w3.setCell ⟨gp,3,none⟩ (.int .i64 T))) ?hg ?ho ?hn ?hr ?_;(case ho=>rfl);(case hg=>rfl);(case hn=>rfl);(case hr=>first|(go_simp;done)|(go_simp;rfl));intro w4 hw;have HO4:=aK (show OM b gw cW gc cC w4 ws cards by rw [hw];exact HO3.out.ch (Ch.set (Ch.refl (fun k=>k=gp) _) (.inl rfl) _) bCu bCu);have HC4:=aK (show Ch (fun k=>k=gw) w w4 by rw [hw];exact HCh3.out.set (.inr HGp.out) _);have BP4:=aK (show w4.heap[gp]? =some (.cells #[.slice (some ⟨gw,0,none⟩) ws.length cW,.int .i64 y,.int .i64 t,.int .i64 T,.slice (some ⟨gc,0,none⟩) cards.length cC] 29 (0,0)) by rw [hw];exact fF BP3.out 3 _ rfl);have BR4:=aK (show w4.heap[gr]? =some (.cells #[.slice none 0 0,.int .i64 0,.int .i64 0,.int .i64 0,.slice none 0 0] 29 (0,0)) by rw [hw];exact jG BR3.out (by have:=HGr.out;show gr≠gp;omega) _);clear hw HO3 HCh3 BP3 BR3 fz;clear c0 c1 c2 c3 c4;have c0:=(bA BP4.out 0).trans rfl;have c1:=(bA BP4.out 1).trans rfl;have c2:=(bA BP4.out 2).trans rfl;have c3:=(bA BP4.out 3).trans rfl;have c4:=(bA BP4.out 4).trans rfl)|(go_at_call 111;refine (bRn b gw cW gc cC ws y t T cards o c n _ HO4.out (by have:=HY.out;omega) (by have:=HY.out;omega) (by have:=HY.out;have:=HT.out;have:=HSz.out;omega) (by have:=HY.out;have:=HT.out;have:=HSz.out;omega)).mono ?_;rintro e w5 ⟨rfl,hO,hC⟩;have HO5:=aK hO;have HC5:=aK (HC4.out.then_ hC);have BR5:=aK (hC.blk BR4.out tW);clear hO hC HO4 HC4 BP4 BR4;clear c0 c1 c2 c3 c4;have z0:=(bA BR5.out 0).trans rfl;have z1:=(bA BR5.out 1).trans rfl;have z2:=(bA BR5.out 2).trans rfl;have z3:=(bA BR5.out 3).trans rfl;have z4:=(bA BR5.out 4).trans rfl;have y_0:=bL BR5.out 0;have y_1:=bL BR5.out 1;have y_2:=bL BR5.out 2;have y_3:=bL BR5.out 3;have y_4:=bL BR5.out 4))
   refine fM (tJ rfl _ _ gr 29 #[.slice (some ⟨gw,0,none⟩) ws.length cW,.int .i64 y,.int .i64 t,.int .i64 T,.slice (some ⟨gc,0,none⟩) cards.length cC] (0,0) _ rfl (jH BR5.out) Try.underlying29 rfl (by kernel_rfl)) rfl ?_;exact ⟨rfl,HO5.out.ch (Ch.box5 (Ch.refl (fun k=>k=gr) _) (.inl rfl) _ _ _ _ _) tW tW,HC5.out.box5 (.inr HGr.out.1) _ _ _ _ _⟩
  ·have d1 : decide (T ≤ (ws.length : Int)) = false := bM cr
   have HT:=aK (show T=o+s∧¬T≤(ws.length:Int) from ⟨hT,cr⟩);clear hy hz hT cr;have hM:bAp ws y t o cards c n s true=(ws,y,t,o,cards,0):=by (have h_:=HT.out;unfold bAp bNa;dsimp only;rw [if_neg (by rw [dI];omega)])
   rw [hM];clear hM;go_enter Try.func92,Try.ntmps92
   go_wp2_with (first|((with_reducible refine dK (N:=6) rfl ?_);refine dM ?hg (N:=6) ?hd (cs:= #[.slice (some ⟨gw,0,none⟩) ws.length cW,.int .i64 y,.int .i64 t,.int .i64 o,.slice (some ⟨gc,0,none⟩) cards.length cC]) (t:=29) ?hr ?_;(case hd=>rfl);(case hg=>rfl);(case hr=>first|(go_simp;done)|(go_simp;rfl));intro gp hg w1 hbox hb;have BP:=aK hbox;have HCh:=aK ((Ch.refl (fun k=>k=gw) w).below hb);have HGp:=aK (show w.heap.size≤gp by rw [hg];exact bV _);have HC0:=aK ((Ch.refl (fun _=>False) w).below hb);clear hb hbox hg)|((with_reducible refine dK (N:=10) rfl ?_);refine dM ?hg (N:=10) ?hd (cs:= #[.slice none 0 0,.int .i64 0,.int .i64 0,.int .i64 0,.slice none 0 0]) (t:=29) ?hr ?_;(case hd=>rfl);(case hg=>rfl);(case hr=>first|(go_simp;done)|(go_simp;rfl));intro gr hg w2 hbox hb;have BR:=aK hbox;have HGr:=aK (show w.heap.size≤gr∧gp<gr by have:=HCh.out.size;have:=dN BP.out;rw [hg];exact ⟨by omega,by omega⟩);replace BP:=aK (bS BP.out hb);replace HCh:=aK (HCh.out.below hb);replace HC0:=aK (HC0.out.below hb);have HO2:=aK (HO.out.ch HC0.out (fun h=>h) (fun h=>h));have HB2:=aK (HC0.out.toBelow (bV _) (fun _ h=>h.elim));clear hb hbox hg)|(go_at_call 110;refine (rI 20 A cA cs c n s _ (cG HC.out HB2.out) HCA.out HWt.out).mono ?_;rintro e w3 ⟨rfl,hb⟩;have HCh3:=aK (HCh.out.below hb);have HO3:=aK (HO2.out.ch ((Ch.refl (fun _=>False) _).below hb) (fun h=>h) (fun h=>h));have BP3:=aK (bS BP.out hb);have BR3:=aK (bS BR.out hb);clear hb HCh HO2 BP BR HC0 HB2;have c0:=(bA BP3.out 0).trans rfl;have c1:=(bA BP3.out 1).trans rfl;have c2:=(bA BP3.out 2).trans rfl;have c3:=(bA BP3.out 3).trans rfl;have c4:=(bA BP3.out 4).trans rfl;have z0:=(bA BR3.out 0).trans rfl;have z1:=(bA BR3.out 1).trans rfl;have z2:=(bA BR3.out 2).trans rfl;have z3:=(bA BR3.out 3).trans rfl;have z4:=(bA BR3.out 4).trans rfl;have y_0:=bL BR3.out 0;have y_1:=bL BR3.out 1;have y_2:=bL BR3.out 2;have y_3:=bL BR3.out 3;have y_4:=bL BR3.out 4))
   refine fM (tJ rfl _ _ gr 29 #[.slice (some ⟨gw,0,none⟩) ws.length cW,.int .i64 y,.int .i64 t,.int .i64 o,.slice (some ⟨gc,0,none⟩) cards.length cC] (0,0) _ rfl (jH BR3.out) Try.underlying29 rfl (by kernel_rfl)) rfl ?_;exact ⟨rfl,HO3.out.ch (Ch.box5 (Ch.refl (fun k=>k=gr) _) (.inl rfl) _ _ _ _ _) tW tW,HCh3.out.box5 (.inr HGr.out.1) _ _ _ _ _⟩
 | false =>
  have hy:=HY.out;have hz:=HSz.out;obtain ⟨T,hT⟩: ∃T,T=t+s:=⟨_,rfl⟩;have q1:IntKind.i64.wrap (t+s)=T:=by rw [hT];exact dD _ (by omega)
  have q2:IntKind.i64.wrap (T - s)=t:=by rw [hT,show t+s - s=t by omega];exact dD _ (by omega)
  by_cases cr:T≤y
  ·have d1 : decide (T ≤ y) = true := bD cr
   have HT:=aK (show T=t+s∧T≤y from ⟨hT,cr⟩);clear hy hz hT cr;have hM:bAp ws y t o cards c n s false=(bQi ws t c n,y,T,o,cards,t+1):=by (have h_:=HT.out;unfold bAp bNa;dsimp only;rw [if_pos (bD (by omega)),show t+s=T by omega])
   rw [hM];clear hM;go_enter Try.func92,Try.ntmps92
   go_wp2_with (first|((with_reducible refine dK (N:=6) rfl ?_);refine dM ?hg (N:=6) ?hd (cs:= #[.slice (some ⟨gw,0,none⟩) ws.length cW,.int .i64 y,.int .i64 t,.int .i64 o,.slice (some ⟨gc,0,none⟩) cards.length cC]) (t:=29) ?hr ?_;(case hd=>rfl);(case hg=>rfl);(case hr=>first|(go_simp;done)|(go_simp;rfl));intro gp hg w1 hbox hb;have BP:=aK hbox;have HCh:=aK ((Ch.refl (fun k=>k=gw) w).below hb);have HGp:=aK (show w.heap.size≤gp by rw [hg];exact bV _);have HC0:=aK ((Ch.refl (fun _=>False) w).below hb);clear hb hbox hg)|((with_reducible refine dK (N:=10) rfl ?_);refine dM ?hg (N:=10) ?hd (cs:= #[.slice none 0 0,.int .i64 0,.int .i64 0,.int .i64 0,.slice none 0 0]) (t:=29) ?hr ?_;(case hd=>rfl);(case hg=>rfl);(case hr=>first|(go_simp;done)|(go_simp;rfl));intro gr hg w2 hbox hb;have BR:=aK hbox;have HGr:=aK (show w.heap.size≤gr∧gp<gr by have:=HCh.out.size;have:=dN BP.out;rw [hg];exact ⟨by omega,by omega⟩);replace BP:=aK (bS BP.out hb);replace HCh:=aK (HCh.out.below hb);replace HC0:=aK (HC0.out.below hb);have HO2:=aK (HO.out.ch HC0.out (fun h=>h) (fun h=>h));have HB2:=aK (HC0.out.toBelow (bV _) (fun _ h=>h.elim));clear hb hbox hg)|(go_at_call 110;refine (rI 20 A cA cs c n s _ (cG HC.out HB2.out) HCA.out HWt.out).mono ?_;rintro e w3 ⟨rfl,hb⟩;have HCh3:=aK (HCh.out.below hb);have HO3:=aK (HO2.out.ch ((Ch.refl (fun _=>False) _).below hb) (fun h=>h) (fun h=>h));have BP3:=aK (bS BP.out hb);have BR3:=aK (bS BR.out hb);clear hb HCh HO2 BP BR HC0 HB2;have c0:=(bA BP3.out 0).trans rfl;have c1:=(bA BP3.out 1).trans rfl;have c2:=(bA BP3.out 2).trans rfl;have c3:=(bA BP3.out 3).trans rfl;have c4:=(bA BP3.out 4).trans rfl;have fz:=bL BP3.out 2)|((with_reducible refine fX (t:=3) (p:=58) rfl ?_);refine fN (t:=3) (p:=58) (v:=?vo_2) (w1:=(w3.setCell ⟨gp,2,none⟩ (.int .i64 T))) ?hg ?ho ?hn ?hr ?_;(case ho=>rfl);(case hg=>rfl);(case hn=>rfl);(case hr=>first|(go_simp;done)|(go_simp;rfl));intro w4 hw;have HO4:=aK (show OM b gw cW gc cC w4 ws cards by rw [hw];exact HO3.out.ch (Ch.set (Ch.refl (fun k=>k=gp) _) (.inl rfl) _) bCu bCu);have HC4:=aK (show Ch (fun k=>k=gw) w w4 by rw [hw];exact HCh3.out.set (.inr HGp.out) _);have BP4:=aK (show w4.heap[gp]? =some (.cells #[.slice (some ⟨gw,0,none⟩) ws.length cW,.int .i64 y,.int .i64 T,.int .i64 o,.slice (some ⟨gc,0,none⟩) cards.length cC] 29 (0,0)) by rw [hw];exact fF BP3.out 2 _ rfl);have BR4:=aK (show w4.heap[gr]? =some (.cells #[.slice none 0 0,.int .i64 0,.int .i64 0,.int .i64 0,.slice none 0 0] 29 (0,0)) by rw [hw];exact jG BR3.out (by have:=HGr.out;show gr≠gp;omega) _);clear hw HO3 HCh3 BP3 BR3 fz;clear c0 c1 c2 c3 c4;have c0:=(bA BP4.out 0).trans rfl;have c1:=(bA BP4.out 1).trans rfl;have c2:=(bA BP4.out 2).trans rfl;have c3:=(bA BP4.out 3).trans rfl;have c4:=(bA BP4.out 4).trans rfl)|(go_at_call 111;refine (bRn b gw cW gc cC ws y T o cards t c n _ HO4.out (by have:=HY.out;omega) (by have:=HY.out;omega) (by have:=HY.out;have:=HT.out;have:=HSz.out;omega) (by have:=HY.out;have:=HT.out;have:=HSz.out;omega)).mono ?_;rintro e w5 ⟨rfl,hO,hC⟩;have HO5:=aK hO;have HC5:=aK (HC4.out.then_ hC);have BR5:=aK (hC.blk BR4.out tW);clear hO hC HO4 HC4 BP4 BR4;clear c0 c1 c2 c3 c4;have z0:=(bA BR5.out 0).trans rfl;have z1:=(bA BR5.out 1).trans rfl;have z2:=(bA BR5.out 2).trans rfl;have z3:=(bA BR5.out 3).trans rfl;have z4:=(bA BR5.out 4).trans rfl;have y_0:=bL BR5.out 0;have y_1:=bL BR5.out 1;have y_2:=bL BR5.out 2;have y_3:=bL BR5.out 3;have y_4:=bL BR5.out 4))
   refine fM (tJ rfl _ _ gr 29 #[.slice (some ⟨gw,0,none⟩) ws.length cW,.int .i64 y,.int .i64 T,.int .i64 o,.slice (some ⟨gc,0,none⟩) cards.length cC] (0,0) _ rfl (jH BR5.out) Try.underlying29 rfl (by kernel_rfl)) rfl ?_;exact ⟨rfl,HO5.out.ch (Ch.box5 (Ch.refl (fun k=>k=gr) _) (.inl rfl) _ _ _ _ _) tW tW,HC5.out.box5 (.inr HGr.out.1) _ _ _ _ _⟩
  ·have d1 : decide (T ≤ y) = false := bM cr
   have HT:=aK (show T=t+s∧¬T≤y from ⟨hT,cr⟩);clear hy hz hT cr;have hM:bAp ws y t o cards c n s false=(ws,y,t,o,cards,0):=by (have h_:=HT.out;unfold bAp bNa;dsimp only;rw [if_neg (by rw [dI];omega)])
   rw [hM];clear hM;go_enter Try.func92,Try.ntmps92
   go_wp2_with (first|((with_reducible refine dK (N:=6) rfl ?_);refine dM ?hg (N:=6) ?hd (cs:= #[.slice (some ⟨gw,0,none⟩) ws.length cW,.int .i64 y,.int .i64 t,.int .i64 o,.slice (some ⟨gc,0,none⟩) cards.length cC]) (t:=29) ?hr ?_;(case hd=>rfl);(case hg=>rfl);(case hr=>first|(go_simp;done)|(go_simp;rfl));intro gp hg w1 hbox hb;have BP:=aK hbox;have HCh:=aK ((Ch.refl (fun k=>k=gw) w).below hb);have HGp:=aK (show w.heap.size≤gp by rw [hg];exact bV _);have HC0:=aK ((Ch.refl (fun _=>False) w).below hb);clear hb hbox hg)|((with_reducible refine dK (N:=10) rfl ?_);refine dM ?hg (N:=10) ?hd (cs:= #[.slice none 0 0,.int .i64 0,.int .i64 0,.int .i64 0,.slice none 0 0]) (t:=29) ?hr ?_;(case hd=>rfl);(case hg=>rfl);(case hr=>first|(go_simp;done)|(go_simp;rfl));intro gr hg w2 hbox hb;have BR:=aK hbox;have HGr:=aK (show w.heap.size≤gr∧gp<gr by have:=HCh.out.size;have:=dN BP.out;rw [hg];exact ⟨by omega,by omega⟩);replace BP:=aK (bS BP.out hb);replace HCh:=aK (HCh.out.below hb);replace HC0:=aK (HC0.out.below hb);have HO2:=aK (HO.out.ch HC0.out (fun h=>h) (fun h=>h));have HB2:=aK (HC0.out.toBelow (bV _) (fun _ h=>h.elim));clear hb hbox hg)|(go_at_call 110;refine (rI 20 A cA cs c n s _ (cG HC.out HB2.out) HCA.out HWt.out).mono ?_;rintro e w3 ⟨rfl,hb⟩;have HCh3:=aK (HCh.out.below hb);have HO3:=aK (HO2.out.ch ((Ch.refl (fun _=>False) _).below hb) (fun h=>h) (fun h=>h));have BP3:=aK (bS BP.out hb);have BR3:=aK (bS BR.out hb);clear hb HCh HO2 BP BR HC0 HB2;have c0:=(bA BP3.out 0).trans rfl;have c1:=(bA BP3.out 1).trans rfl;have c2:=(bA BP3.out 2).trans rfl;have c3:=(bA BP3.out 3).trans rfl;have c4:=(bA BP3.out 4).trans rfl;have z0:=(bA BR3.out 0).trans rfl;have z1:=(bA BR3.out 1).trans rfl;have z2:=(bA BR3.out 2).trans rfl;have z3:=(bA BR3.out 3).trans rfl;have z4:=(bA BR3.out 4).trans rfl;have y_0:=bL BR3.out 0;have y_1:=bL BR3.out 1;have y_2:=bL BR3.out 2;have y_3:=bL BR3.out 3;have y_4:=bL BR3.out 4))
   refine fM (tJ rfl _ _ gr 29 #[.slice (some ⟨gw,0,none⟩) ws.length cW,.int .i64 y,.int .i64 t,.int .i64 o,.slice (some ⟨gc,0,none⟩) cards.length cC] (0,0) _ rfl (jH BR3.out) Try.underlying29 rfl (by kernel_rfl)) rfl ?_;exact ⟨rfl,HO3.out.ch (Ch.box5 (Ch.refl (fun k=>k=gr) _) (.inl rfl) _ _ _ _ _) tW tW,HCh3.out.box5 (.inr HGr.out.1) _ _ _ _ _⟩
end Go.Proofs.Ytbaklikaoleplaa.K
namespace Go.Proofs.Ytbaklikaoleplaa.Pure
open Go.RowKit Go.Proofs.Ytbaklikaoleplaa.K Go.Proofs.YtbaklikaoleplaaW.PrintWords Go.Proofs.YtbaklikaoleplaaW.PrintLast Go.Proofs.YtbaklikaoleplaaW.PrintMore
set_option linter.unusedVariables false
set_option linter.unusedSimpArgs false
def bKc (a0 a1:Int):List Int×Int×Int×Int×List Bool:=
  if (0≤a0∧a0≤40)∧(14≤a1∧a1≤120) then (List.replicate (a0+a1).toNat 0,a0,0,a0,List.replicate ((a1+3)/4).toNat false) else ([],0,0,0,[])
theorem bFf (a:Int) (h0:0≤a) (h:a≤1000000):mW a=some ((a+3)/4):=by
  unfold mW;rw [dZ (n:=a+4) (by omega) (by omega),dZ (n:=a+4 - 1) (by omega) (by omega),jB (by omega),show a+4 - 1=a+3 from by omega,dZ (by omega) (by omega)]
theorem bHd (a0 a1:Int):vY a0 a1=some (bKc a0 a1):=by
 unfold vY bKc;rw [jS,jS];simp only [bC,dI]
 by_cases h1:0≤a0∧a0≤40
 ·rw [if_pos h1]
  by_cases h2:14≤a1∧a1≤120
  ·rw [if_pos h2, if_pos (show (0 ≤ a0 ∧ a0 ≤ 40) ∧ (14 ≤ a1 ∧ a1 ≤ 120) from ⟨h1, h2⟩), dZ (n := a0 + a1) (by omega) (by omega), if_pos (by omega), if_pos (by omega), bFf a1 (by omega) (by omega)]
   simp only [bC]
   rw [if_pos (by omega),if_pos (by omega)]
  ·rw [if_neg h2,if_neg (fun h=>h2 h.2)]
 ·rw [if_neg h1,if_neg (fun h=>h1 h.1)]
theorem Bnd.len {cs:Cs} {ws ws':List Int} {y t o:Int} {cards cards':List Bool} (hb:Bnd cs ws y t o cards) (hl:ws'.length=ws.length) (hc:cards'.length=cards.length):Bnd cs ws' y t o cards':=
  ⟨hb.ok,hb.y0,hb.y1,by rw [hl];exact hb.n0,by rw [hl];exact hb.n1,hb.t0,hb.t1,hb.o0,by rw [hl];exact hb.o1,by rw [hl,hc];exact hb.cd⟩
theorem bCp {cs:Cs} (h:rP cs=true) {c n:Int} (hc: -2≤c∧c<cs.length) (hn:0≤n∧n≤6):jJ (gI cs) c n≠0:=by
 by_cases z:0≤c
 ·rw [bAt n z hc.2];omega
 ·unfold jJ
  rw [if_pos (by omega),if_pos hn];omega
theorem bAo {cs:Cs} {ws:List Int} {y t o:Int} {cards:List Bool} (hb:Bnd cs ws y t o cards) {c n:Int} {v:Bool} (h0:jJ (gI cs) c n≠0) {ws1:List Int} {y1 t1 o1:Int} {cd1:List Bool} {a1:Int} (hR:bAp ws y t o cards c n (jJ (gI cs) c n) v=(ws1,y1,t1,o1,cd1,a1)):
  ws1.length=ws.length∧((a1=0∧ws1=ws∧t1=t∧o1=o)∨(1≤a1∧a1≤ws.length∧Bnd cs ws1 y t1 o1 cards)):=by
 have n0:=hb.n0;have n1:=hb.n1;have y0:=hb.y0;have y1':=hb.y1;have t0:=hb.t0;have t1':=hb.t1;have o0:=hb.o0;have o1':=hb.o1;have hz:=bHm hb.ok c n;obtain ⟨s,hs⟩: ∃s,s=jJ (gI cs) c n:=⟨_,rfl⟩;rw [←hs] at hR hz h0;have hl: ∀i,(bQi ws i c n).length=ws.length:=fun i=>mkW_len ws i c n
 unfold bAp bNa at hR
 cases v with
 | true =>
  dsimp only at hR;by_cases z:o+s≤(ws.length:Int)
  ·rw [if_pos (bD z)] at hR
   obtain ⟨rfl,rfl,rfl,rfl,rfl,rfl⟩:bQi ws o c n=ws1∧y=y1∧t=t1∧o+s=o1∧cards=cd1∧o+1=a1:=by simpa only [Prod.mk.injEq] using hR
   exact ⟨hl o,.inr ⟨by omega,by omega,hb.ok,y0,y1',by rw [hl];exact n0,by rw [hl];exact n1,t0,t1',by omega,by rw [hl];omega,by rw [hl];exact hb.cd⟩⟩
  ·rw [if_neg (by rw [dI]; exact z)] at hR
   obtain ⟨rfl,rfl,rfl,rfl,rfl,rfl⟩:ws=ws1∧y=y1∧t=t1∧o=o1∧cards=cd1∧0=a1:=by simpa only [Prod.mk.injEq] using hR
   exact ⟨rfl,.inl ⟨rfl,rfl,rfl,rfl⟩⟩
 | false =>
  dsimp only at hR;by_cases z:t+s≤y
  ·rw [if_pos (bD z)] at hR
   obtain ⟨rfl,rfl,rfl,rfl,rfl,rfl⟩:bQi ws t c n=ws1∧y=y1∧t+s=t1∧o=o1∧cards=cd1∧t+1=a1:=by simpa only [Prod.mk.injEq] using hR
   exact ⟨hl t,.inr ⟨by omega,by omega,hb.ok,y0,y1',by rw [hl];exact n0,by rw [hl];exact n1,by omega,z,o0,by rw [hl];exact o1',by rw [hl];exact hb.cd⟩⟩
  ·rw [if_neg (by rw [dI]; exact z)] at hR
   obtain ⟨rfl,rfl,rfl,rfl,rfl,rfl⟩:ws=ws1∧y=y1∧t=t1∧o=o1∧cards=cd1∧0=a1:=by simpa only [Prod.mk.injEq] using hR
   exact ⟨rfl,.inl ⟨rfl,rfl,rfl,rfl⟩⟩
theorem Bnd_new {cs:Cs} (h:rP cs=true) {y n:Int} (hy:0≤y∧y≤40) (hn:14≤n∧n≤120):Bnd cs (List.replicate (y+n).toNat 0) y 0 y (List.replicate ((n+3)/4).toNat false):=by
  have hl:((List.replicate (y+n).toNat (0:Int)).length:Int)=y+n:=by rw [fI];omega
  exact ⟨h,hy.1,hy.2,by omega,by omega,by omega,by omega,by omega,by omega,by rw [hl,fI];omega⟩
theorem bPn {y n:Int} (hy:0≤y∧y≤40) (hn:14≤n∧n≤120):vY y n=some (List.replicate (y+n).toNat 0,y,0,y,List.replicate ((n+3)/4).toNat false):=by
  rw [bHd];unfold bKc;rw [if_pos ⟨hy,hn⟩]
end Go.Proofs.Ytbaklikaoleplaa.Pure
