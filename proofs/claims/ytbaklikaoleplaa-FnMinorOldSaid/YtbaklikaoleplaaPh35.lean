import Derived.Test.YtbaklikaoleplaaPh24
import Derived.Test.YtbaklikaoleplaaPh27
import Derived.Test.YtbaklikaoleplaaPh30
import Derived.Test.YtbaklikaoleplaaPh31
import Derived.Test.YtbaklikaoleplaaPh33
import Derived.Test.YtbaklikaoleplaaPh26
import Derived.Test.YtbaklikaoleplaaPh28
import Derived.Test.YtbaklikaoleplaaPh34
import Derived.Deep.Slices
import Derived.Deep.Fields
import Derived.ChangeSame
import Derived.ProofKit
import Derived.OpenShut
import Derived.ShutString
import Derived.ChangeOld
import Derived.SizedLaws
set_option maxHeartbeats 32000000
set_option maxRecDepth 100000
namespace Go.Proofs.Ytbaklikaoleplaa.K
open Go.RowKit Go.Proofs.YtbaklikaoleplaaW.PrintWords Go.Proofs.YtbaklikaoleplaaW.PrintLast Go.Proofs.YtbaklikaoleplaaW.PrintMore
attribute [local go_sem] gD gB gY gW fR fQ gC gA
set_option linter.unusedVariables false
set_option linter.unusedSimpArgs false
open Go.Proofs.Ytbaklikaoleplaa.Pure
def rY (l0:List Int):Option Bool:=if (∀x∈l0,(Lit.int .u8 x).wf=true) then some true else none
theorem bBd (AC : Option Addr) (cC : Nat) (lC : List Int) (r : Bool) (w : World) (hr_ : Aside0 (r = true)) (hr0 : Kd.C (Kd.int .u8) w AC lC.length lC) (hc0 : lC.length ≤ cC) (h : rY lC = some r) :
  Calls Try.prog 4 #[.slice AC lC.length cC] w fun e w'=>e= .returned (.bool r)∧Below w.heap.size w w':=by
 obtain rfl:=hr_.out;unfold rY at h
 split at h
 case isFalse=>simp at h
 case isTrue hl=>
 clear h hr_;have HR0:=aK hr0;have HC0:=aK hc0;have HL:=aK hl;clear hr0 hc0 hl;by_cases c1:1048576<(lC.length:Int)
 ·have d1 : decide (1048576 < (lC.length : Int)) = true := bD c1
  go_enter Try.func4,Try.ntmps4;go_wp2;go_ret;exact ⟨rfl,by first|exact bH _ _|exact bG (bH _ _)⟩
 have d1:decide (1048576<(lC.length:Int))=false:=bM c1
 clear c1;go_enter Try.func4,Try.ntmps4
 go_wp2_with (go_at_call 20;refine bF (fun hng=>?_))
 refine hng ?_;clear hng;refine (bMa AC cC lC _ HR0.out HC0.out HL.out).mono ?_;rintro e w1 ⟨A5,c5,A0,c0,A4,c4,A7,c7,cs,ws,y,t,o,cards,rt,rfl,hd,h7,hl7,hb⟩;have HD1:=aK (hd.bound.mono (ok':=fun k=>k<w1.heap.size) (fun k hk=>hk.2));have HR1:=aK (qA (Kd.V_bound h7) (ok':=fun k=>k<w1.heap.size) (fun k hk=>hk.2));have HL7:=aK hl7;have HB1:=aK hb;clear hd hb h7 hl7 HR0 HC0 HL d1
 go_wp2_with ((with_reducible refine dK (N:=4) rfl ?_);refine bF (fun hng=>?_))
 refine hng ?_;clear hng;refine dM ?hg (N:=4) ?hd (cs:= #[.slice none 0 0,.int .i64 0,.int .i64 0,.int .i64 0,.slice none 0 0]) (t:=29) ?hr ?_
 (case hd=>rfl)
 (case hg=>rfl)
 (case hr=>first|(go_simp;done)|(go_simp;rfl))
 intro gm hg w2 hbox hb;have BM2:=aK hbox;have HD2:=aK ((HD1.out.below hb).mono (ok':=fun k=>k<gm) (fun k hk=>by rw [hg];exact hk));have HR2:=aK (qA (kY HR1.out hb) (ok':=fun k=>k<gm) (fun k hk=>by rw [hg];exact hk));have HB2:=aK (bK HB1.out hb);have HGm:=aK (show w.heap.size≤gm by rw [hg];exact bW HB1.out);clear hb hbox hg HD1 HB1 HR1;have qc0:=(bA BM2.out 0).trans rfl;have qc1:=(bA BM2.out 1).trans rfl;have qc2:=(bA BM2.out 2).trans rfl;have qc3:=(bA BM2.out 3).trans rfl;have qc4:=(bA BM2.out 4).trans rfl;have qf0:=bL BM2.out 0;have qf1:=bL BM2.out 1;have qf2:=bL BM2.out 2;have qf3:=bL BM2.out 3;have qf4:=bL BM2.out 4
 go_wp2_with ((with_reducible refine fX (t:=29) (p:=4) rfl ?_);refine bF (fun hng=>?_))
 refine hng ?_;clear hng;refine fN (t:=29) (p:=4) (v:=?vm1) (w1:=(nF w2 gm (.slice A0 ws.length c0) (.int .i64 y) (.int .i64 t) (.int .i64 o) (.slice A4 cards.length c4))) ?hg ?ho ?hn ?hr ?_
 (case ho=>rfl)
 (case hg=>rfl)
 (case hn=>rfl)
 (case hr=>first|(go_simp;done)|(go_simp;rfl))
 intro w3 hw;have hc4:Ch (fun k=>k=gm) w2 w3:=by rw [hw];exact (Ch.refl (fun k=>k=gm) _).box5 (.inl rfl) _ _ _ _ _
 have HD:=aK (HD2.out.ch hc4 (fun k hk=>by omega));have HR:=aK (qB HR2.out hc4.kept (fun k hk=>by omega));have BM:=aK (show w3.heap[gm]? =some (.cells #[.slice A0 ws.length c0,.int .i64 y,.int .i64 t,.int .i64 o,.slice A4 cards.length c4] 29 (0,0)) by rw [hw];exact jH BM2.out);have HB:=aK (HB2.out.trans (hc4.toBelow (B:=w.heap.size) (bW HB2.out) (fun k hk=>by have:=HGm.out;omega)));clear hw hc4 HD2 HB2 BM2 HR2;clear qc0 qc1 qc2 qc3 qc4;clear qf0 qf1 qf2 qf3 qf4;obtain ⟨p1,p2,p3,p4,p5,p6,p7,hpl,hp1,hp2,hp3,hp4,hp5⟩:=bLp (cs:=cs) (bSb HD.out.l5.2.2) (ws:=ws) (y:=y) (t:=t) (o:=o) (cards:=cards) HD.out.l0.2 HD.out.l4 (roots:=rt) HL7.out;have HPL:=aK hpl;have H1:=aK hp1;have H2:=aK hp2;have H3:=aK hp3;have H4:=aK hp4;have H5:=aK hp5;clear hpl hp1 hp2 hp3 hp4 hp5;have q0:=(bA BM.out 0).trans rfl;have q1:=(bA BM.out 1).trans rfl;have q2:=(bA BM.out 2).trans rfl;have q3:=(bA BM.out 3).trans rfl;have q4:=(bA BM.out 4).trans rfl
 go_wp2_with (go_at_call 11;refine bF (fun hng=>?_))
 refine hng ?_;clear hng;refine (bEb 5000000 A5 c5 cs A0 c0 ws y t o A4 c4 cards A7 c7 rt p1 p2 p3 p4 p5 p6 p7 _ HD.out.C5 HD.out.n5 HD.out.C0 HD.out.n0 HD.out.C4 HD.out.n4 (qG HR.out).2.2 (qG HR.out).2.1 H1.out).mono ?_;rintro e w4 ⟨vP0,vP4,vP5,rfl,h0_,h4_,h5_,hb⟩;clear q0 q1 q2 q3 q4;replace HD:=aK (HD.out.below hb);replace BM:=aK (bS BM.out hb);replace HB:=aK (bK HB.out hb);replace HR:=aK (kY HR.out hb);have HP0:=aK (cI (fZ (dE h0_ (hU _))) (ok':=fun k=>k<w4.heap.size) (fun k hk=>hk.2.2.1));have HP4:=aK (cI (fZ (dE h4_ (hU _))) (ok':=fun k=>k<w4.heap.size) (fun k hk=>hk.2.2.1));have HP5:=aK (cI (fZ (dE h5_ (hU _))) (ok':=fun k=>k<w4.heap.size) (fun k hk=>hk.2.2.1));obtain ⟨AP0,cP0,e0_⟩:=cL HP0.out;subst e0_;obtain ⟨AP4,cP4,e4_⟩:=cL HP4.out;subst e4_;obtain ⟨AP5,cP5,e5_⟩:=cL HP5.out;subst e5_;clear h0_ h4_ h5_ hb
 go_wp2_with ((with_reducible refine dK (N:=6) rfl ?_);refine bF (fun hng=>?_))
 refine hng ?_;clear hng;refine dM ?hg (N:=6) ?hd (cs:= #[.slice none 0 0,.int .i64 0,.int .i64 0,.int .i64 0,.slice none 0 0]) (t:=29) ?hr ?_
 (case hd=>rfl)
 (case hg=>rfl)
 (case hr=>first|(go_simp;done)|(go_simp;rfl))
 intro gP hg w5 hbox hb;have HgP:=aK (show gm<gP by rw [hg];exact dN BM.out);replace HD:=aK (HD.out.below hb);replace BM:=aK (bS BM.out hb);replace HB:=aK (bK HB.out hb);replace HR:=aK (kY HR.out hb);replace HP0:=aK (cI (bZ HP0.out hb) (ok':=fun k=>k<gP) (fun k hk=>by rw [hg];exact hk));replace HP4:=aK (cI (bZ HP4.out hb) (ok':=fun k=>k<gP) (fun k hk=>by rw [hg];exact hk));replace HP5:=aK (cI (bZ HP5.out hb) (ok':=fun k=>k<gP) (fun k hk=>by rw [hg];exact hk));have BP:=aK hbox;clear hb hbox hg;have qc0:=(bA BP.out 0).trans rfl;have qc1:=(bA BP.out 1).trans rfl;have qc2:=(bA BP.out 2).trans rfl;have qc3:=(bA BP.out 3).trans rfl;have qc4:=(bA BP.out 4).trans rfl;have qf0:=bL BP.out 0;have qf1:=bL BP.out 1;have qf2:=bL BP.out 2;have qf3:=bL BP.out 3;have qf4:=bL BP.out 4
 go_wp2_with ((with_reducible refine fX (t:=29) (p:=6) rfl ?_);refine bF (fun hng=>?_))
 refine hng ?_;clear hng;refine fN (t:=29) (p:=6) (v:=?vmP) (w1:=(nF w5 gP (.slice AP0 (p1).length cP0) (.int .i64 p2) (.int .i64 p3) (.int .i64 p4) (.slice AP4 (p5).length cP4))) ?hg ?ho ?hn ?hr ?_
 (case ho=>rfl)
 (case hg=>rfl)
 (case hn=>rfl)
 (case hr=>first|(go_simp;done)|(go_simp;rfl))
 intro w6 hw;have hc:Ch (fun k=>k=gP) w5 w6:=by rw [hw];exact (Ch.refl (fun k=>k=gP) _).box5 (.inl rfl) _ _ _ _ _
 replace HD:=aK (HD.out.ch hc (fun k hk=>by have:=HgP.out;omega));replace BM:=aK (hc.blk BM.out (by have:=HgP.out;omega));replace HB:=aK (HB.out.trans (hc.toBelow (B:=w.heap.size) (bW HB.out) (fun k hk=>by have:=HgP.out;have:=HGm.out;omega)));replace HR:=aK (qB HR.out hc.kept (fun k hk=>by have:=HgP.out;omega));replace HP0:=aK (hc.R HP0.out (fun k hk=>by have:=HgP.out;omega));replace HP4:=aK (hc.R HP4.out (fun k hk=>by have:=HgP.out;omega));replace HP5:=aK (hc.R HP5.out (fun k hk=>by have:=HgP.out;omega));replace BP:=aK (show w6.heap[gP]? =some (.cells #[.slice AP0 (p1).length cP0,.int .i64 p2,.int .i64 p3,.int .i64 p4,.slice AP4 (p5).length cP4] 29 (0,0)) by rw [hw];exact jH BP.out);clear hw hc;clear qc0 qc1 qc2 qc3 qc4;clear qf0 qf1 qf2 qf3 qf4;have q0:=(bA BM.out 0).trans rfl;have q1:=(bA BM.out 1).trans rfl;have q2:=(bA BM.out 2).trans rfl;have q3:=(bA BM.out 3).trans rfl;have q4:=(bA BM.out 4).trans rfl
 go_wp2_with (go_at_call 7;refine bF (fun hng=>?_))
 refine hng ?_;clear hng;refine (bDq 5000000 A5 c5 cs A0 c0 ws y t o A4 c4 cards A7 c7 rt p1 p2 p3 p4 p5 p6 p7 _ HD.out.C5 HD.out.n5 HD.out.C0 HD.out.n0 HD.out.C4 HD.out.n4 (qG HR.out).2.2 (qG HR.out).2.1 H2.out).mono ?_;rintro e w7 ⟨vQ0,vQ4,vQ5,rfl,h0_,h4_,h5_,hb⟩;clear q0 q1 q2 q3 q4;replace HD:=aK (HD.out.below hb);replace BM:=aK (bS BM.out hb);replace HB:=aK (bK HB.out hb);replace HR:=aK (kY HR.out hb);replace HP0:=aK (bZ HP0.out hb);replace HP4:=aK (bZ HP4.out hb);replace HP5:=aK (bZ HP5.out hb);replace BP:=aK (bS BP.out hb);have HQ0:=aK (cI (fZ (dE h0_ (hU _))) (ok':=fun k=>k<w7.heap.size) (fun k hk=>hk.2.2.1));have HQ4:=aK (cI (fZ (dE h4_ (hU _))) (ok':=fun k=>k<w7.heap.size) (fun k hk=>hk.2.2.1));have HQ5:=aK (cI (fZ (dE h5_ (hU _))) (ok':=fun k=>k<w7.heap.size) (fun k hk=>hk.2.2.1));obtain ⟨AQ0,cQ0,e0_⟩:=cL HQ0.out;subst e0_;obtain ⟨AQ4,cQ4,e4_⟩:=cL HQ4.out;subst e4_;obtain ⟨AQ5,cQ5,e5_⟩:=cL HQ5.out;subst e5_;clear h0_ h4_ h5_ hb
 go_wp2_with ((with_reducible refine dK (N:=9) rfl ?_);refine bF (fun hng=>?_))
 refine hng ?_;clear hng;refine dM ?hg (N:=9) ?hd (cs:= #[.slice none 0 0,.int .i64 0,.int .i64 0,.int .i64 0,.slice none 0 0]) (t:=29) ?hr ?_
 (case hd=>rfl)
 (case hg=>rfl)
 (case hr=>first|(go_simp;done)|(go_simp;rfl))
 intro gQ hg w8 hbox hb;have HgQ:=aK (show gm<gQ∧gP<gQ by rw [hg];exact ⟨dN BM.out,dN BP.out⟩);replace HD:=aK (HD.out.below hb);replace BM:=aK (bS BM.out hb);replace HB:=aK (bK HB.out hb);replace HR:=aK (kY HR.out hb);replace HP0:=aK (bZ HP0.out hb);replace HP4:=aK (bZ HP4.out hb);replace HP5:=aK (bZ HP5.out hb);replace BP:=aK (bS BP.out hb);replace HQ0:=aK (cI (bZ HQ0.out hb) (ok':=fun k=>k<gQ) (fun k hk=>by rw [hg];exact hk));replace HQ4:=aK (cI (bZ HQ4.out hb) (ok':=fun k=>k<gQ) (fun k hk=>by rw [hg];exact hk));replace HQ5:=aK (cI (bZ HQ5.out hb) (ok':=fun k=>k<gQ) (fun k hk=>by rw [hg];exact hk));have BQ:=aK hbox;clear hb hbox hg;have qc0:=(bA BQ.out 0).trans rfl;have qc1:=(bA BQ.out 1).trans rfl;have qc2:=(bA BQ.out 2).trans rfl;have qc3:=(bA BQ.out 3).trans rfl;have qc4:=(bA BQ.out 4).trans rfl;have qf0:=bL BQ.out 0;have qf1:=bL BQ.out 1;have qf2:=bL BQ.out 2;have qf3:=bL BQ.out 3;have qf4:=bL BQ.out 4
 go_wp2_with ((with_reducible refine fX (t:=29) (p:=9) rfl ?_);refine bF (fun hng=>?_))
 refine hng ?_;clear hng;refine fN (t:=29) (p:=9) (v:=?vmQ) (w1:=(nF w8 gQ (.slice AQ0 (p1).length cQ0) (.int .i64 p2) (.int .i64 p3) (.int .i64 p4) (.slice AQ4 (p5).length cQ4))) ?hg ?ho ?hn ?hr ?_
 (case ho=>rfl)
 (case hg=>rfl)
 (case hn=>rfl)
 (case hr=>first|(go_simp;done)|(go_simp;rfl))
 intro w9 hw;have hc:Ch (fun k=>k=gQ) w8 w9:=by rw [hw];exact (Ch.refl (fun k=>k=gQ) _).box5 (.inl rfl) _ _ _ _ _
 replace HD:=aK (HD.out.ch hc (fun k hk=>by have:=HgQ.out;omega));replace BM:=aK (hc.blk BM.out (by have:=HgQ.out;omega));replace HB:=aK (HB.out.trans (hc.toBelow (B:=w.heap.size) (bW HB.out) (fun k hk=>by have:=HgQ.out;have:=HGm.out;omega)));replace HR:=aK (qB HR.out hc.kept (fun k hk=>by have:=HgQ.out;omega));replace HP0:=aK (hc.R HP0.out (fun k hk=>by have:=HgQ.out;omega));replace HP4:=aK (hc.R HP4.out (fun k hk=>by have:=HgQ.out;omega));replace HP5:=aK (hc.R HP5.out (fun k hk=>by have:=HgQ.out;omega));replace BP:=aK (hc.blk BP.out (by have:=HgQ.out;omega));replace HQ0:=aK (hc.R HQ0.out (fun k hk=>by have:=HgQ.out;omega));replace HQ4:=aK (hc.R HQ4.out (fun k hk=>by have:=HgQ.out;omega));replace HQ5:=aK (hc.R HQ5.out (fun k hk=>by have:=HgQ.out;omega));replace BQ:=aK (show w9.heap[gQ]? =some (.cells #[.slice AQ0 (p1).length cQ0,.int .i64 p2,.int .i64 p3,.int .i64 p4,.slice AQ4 (p5).length cQ4] 29 (0,0)) by rw [hw];exact jH BQ.out);clear hw hc;clear qc0 qc1 qc2 qc3 qc4;clear qf0 qf1 qf2 qf3 qf4;replace HD:=aK (HD.out.mono (ok':=fun _=>True) (fun _ _=>trivial));replace HR:=aK (qA HR.out (ok':=fun _=>True) (fun _ _=>trivial));replace HP0:=aK (cI HP0.out (ok':=fun _=>True) (fun _ _=>trivial));replace HP4:=aK (cI HP4.out (ok':=fun _=>True) (fun _ _=>trivial));replace HP5:=aK (cI HP5.out (ok':=fun _=>True) (fun _ _=>trivial));replace HQ0:=aK (cI HQ0.out (ok':=fun _=>True) (fun _ _=>trivial));replace HQ4:=aK (cI HQ4.out (ok':=fun _=>True) (fun _ _=>trivial));replace HQ5:=aK (cI HQ5.out (ok':=fun _=>True) (fun _ _=>trivial));clear H1 H2 HgP HgQ
 cases p7 with
 |false=>
  have x0:=(bA BP.out 0).trans rfl;have x1:=(bA BP.out 1).trans rfl;have x2:=(bA BP.out 2).trans rfl;have x3:=(bA BP.out 3).trans rfl;have x4:=(bA BP.out 4).trans rfl;have z0:=(bA BQ.out 0).trans rfl;have z1:=(bA BQ.out 1).trans rfl;have z2:=(bA BQ.out 2).trans rfl;have z3:=(bA BQ.out 3).trans rfl;have z4:=(bA BQ.out 4).trans rfl
  go_wp2_with (go_at_call 21;refine bF (fun hng=>?_))
  refine hng ?_;clear hng;refine (vQ 5000000 AP0 cP0 p1 p2 p3 p4 AP4 cP4 p5 AQ0 cQ0 p1 p2 p3 p4 AQ4 cQ4 p5 true _ (cD HP0.out).2.2 (cD HP0.out).2.1 (cD HP4.out).2.2 (cD HP4.out).2.1 (cD HQ0.out).2.2 (cD HQ0.out).2.1 (cD HQ4.out).2.2 (cD HQ4.out).2.1 H3.out).mono ?_;rintro e w10 ⟨rfl,hb⟩;clear x0 x1 x2 x3 x4;clear z0 z1 z2 z3 z4;replace HD:=aK (HD.out.below hb);replace BM:=aK (bS BM.out hb);replace HB:=aK (bK HB.out hb);replace HR:=aK (kY HR.out hb);replace HP0:=aK (bZ HP0.out hb);replace HP4:=aK (bZ HP4.out hb);replace HP5:=aK (bZ HP5.out hb);replace BP:=aK (bS BP.out hb);replace HQ0:=aK (bZ HQ0.out hb);replace HQ4:=aK (bZ HQ4.out hb);replace HQ5:=aK (bZ HQ5.out hb);replace BQ:=aK (bS BQ.out hb);clear hb
  go_wp2_with (go_at_call 22;refine bF (fun hng=>?_))
  refine hng ?_;clear hng;refine (fV 5000000 AP5 cP5 p6 AQ5 cQ5 p6 true _ (cD HP5.out).2.2 (cD HP5.out).2.1 (cD HQ5.out).2.2 (cD HQ5.out).2.1 H4.out).mono ?_;rintro e w11 ⟨rfl,hb⟩;have hb:=hb.below;replace HD:=aK (HD.out.below hb);replace BM:=aK (bS BM.out hb);replace HB:=aK (bK HB.out hb);replace HR:=aK (kY HR.out hb);replace HP0:=aK (bZ HP0.out hb);replace HP4:=aK (bZ HP4.out hb);replace HP5:=aK (bZ HP5.out hb);replace BP:=aK (bS BP.out hb);replace HQ0:=aK (bZ HQ0.out hb);replace HQ4:=aK (bZ HQ4.out hb);replace HQ5:=aK (bZ HQ5.out hb);replace BQ:=aK (bS BQ.out hb);clear hb;have x0:=(bA BP.out 0).trans rfl;have x1:=(bA BP.out 1).trans rfl;have x2:=(bA BP.out 2).trans rfl;have x3:=(bA BP.out 3).trans rfl;have x4:=(bA BP.out 4).trans rfl;have z0:=(bA BQ.out 0).trans rfl;have z1:=(bA BQ.out 1).trans rfl;have z2:=(bA BQ.out 2).trans rfl;have z3:=(bA BQ.out 3).trans rfl;have z4:=(bA BQ.out 4).trans rfl
  go_wp2_with (go_at_call 21;refine bF (fun hng=>?_))
  refine hng ?_;clear hng;refine (vQ 5000000 AP0 cP0 p1 p2 p3 p4 AP4 cP4 p5 AQ0 cQ0 p1 p2 p3 p4 AQ4 cQ4 p5 true _ (cD HP0.out).2.2 (cD HP0.out).2.1 (cD HP4.out).2.2 (cD HP4.out).2.1 (cD HQ0.out).2.2 (cD HQ0.out).2.1 (cD HQ4.out).2.2 (cD HQ4.out).2.1 H3.out).mono ?_;rintro e w12 ⟨rfl,hb⟩;clear x0 x1 x2 x3 x4;clear z0 z1 z2 z3 z4;replace HD:=aK (HD.out.below hb);replace BM:=aK (bS BM.out hb);replace HB:=aK (bK HB.out hb);replace HR:=aK (kY HR.out hb);replace HP0:=aK (bZ HP0.out hb);replace HP4:=aK (bZ HP4.out hb);replace HP5:=aK (bZ HP5.out hb);replace BP:=aK (bS BP.out hb);replace HQ0:=aK (bZ HQ0.out hb);replace HQ4:=aK (bZ HQ4.out hb);replace HQ5:=aK (bZ HQ5.out hb);replace BQ:=aK (bS BQ.out hb);clear hb
  go_wp2_with (go_at_call 22;refine bF (fun hng=>?_))
  refine hng ?_;clear hng;refine (fV 5000000 AP5 cP5 p6 AQ5 cQ5 p6 true _ (cD HP5.out).2.2 (cD HP5.out).2.1 (cD HQ5.out).2.2 (cD HQ5.out).2.1 H4.out).mono ?_;rintro e w13 ⟨rfl,hb⟩;have hb:=hb.below;replace HD:=aK (HD.out.below hb);replace BM:=aK (bS BM.out hb);replace HB:=aK (bK HB.out hb);replace HR:=aK (kY HR.out hb);replace HP0:=aK (bZ HP0.out hb);replace HP4:=aK (bZ HP4.out hb);replace HP5:=aK (bZ HP5.out hb);replace BP:=aK (bS BP.out hb);replace HQ0:=aK (bZ HQ0.out hb);replace HQ4:=aK (bZ HQ4.out hb);replace HQ5:=aK (bZ HQ5.out hb);replace BQ:=aK (bS BQ.out hb);clear hb;go_wp2;go_ret;exact ⟨by simp,by first|exact HB.out|exact bG HB.out⟩
 | true =>
  have x0:=(bA BP.out 0).trans rfl;have x1:=(bA BP.out 1).trans rfl;have x2:=(bA BP.out 2).trans rfl;have x3:=(bA BP.out 3).trans rfl;have x4:=(bA BP.out 4).trans rfl;have z0:=(bA BQ.out 0).trans rfl;have z1:=(bA BQ.out 1).trans rfl;have z2:=(bA BQ.out 2).trans rfl;have z3:=(bA BQ.out 3).trans rfl;have z4:=(bA BQ.out 4).trans rfl
  go_wp2_with (go_at_call 21;refine bF (fun hng=>?_))
  refine hng ?_;clear hng;refine (vQ 5000000 AP0 cP0 p1 p2 p3 p4 AP4 cP4 p5 AQ0 cQ0 p1 p2 p3 p4 AQ4 cQ4 p5 true _ (cD HP0.out).2.2 (cD HP0.out).2.1 (cD HP4.out).2.2 (cD HP4.out).2.1 (cD HQ0.out).2.2 (cD HQ0.out).2.1 (cD HQ4.out).2.2 (cD HQ4.out).2.1 H3.out).mono ?_;rintro e w10 ⟨rfl,hb⟩;clear x0 x1 x2 x3 x4;clear z0 z1 z2 z3 z4;replace HD:=aK (HD.out.below hb);replace BM:=aK (bS BM.out hb);replace HB:=aK (bK HB.out hb);replace HR:=aK (kY HR.out hb);replace HP0:=aK (bZ HP0.out hb);replace HP4:=aK (bZ HP4.out hb);replace HP5:=aK (bZ HP5.out hb);replace BP:=aK (bS BP.out hb);replace HQ0:=aK (bZ HQ0.out hb);replace HQ4:=aK (bZ HQ4.out hb);replace HQ5:=aK (bZ HQ5.out hb);replace BQ:=aK (bS BQ.out hb);clear hb
  go_wp2_with (go_at_call 22;refine bF (fun hng=>?_))
  refine hng ?_;clear hng;refine (fV 5000000 AP5 cP5 p6 AQ5 cQ5 p6 true _ (cD HP5.out).2.2 (cD HP5.out).2.1 (cD HQ5.out).2.2 (cD HQ5.out).2.1 H4.out).mono ?_;rintro e w11 ⟨rfl,hb⟩;have hb:=hb.below;replace HD:=aK (HD.out.below hb);replace BM:=aK (bS BM.out hb);replace HB:=aK (bK HB.out hb);replace HR:=aK (kY HR.out hb);replace HP0:=aK (bZ HP0.out hb);replace HP4:=aK (bZ HP4.out hb);replace HP5:=aK (bZ HP5.out hb);replace BP:=aK (bS BP.out hb);replace HQ0:=aK (bZ HQ0.out hb);replace HQ4:=aK (bZ HQ4.out hb);replace HQ5:=aK (bZ HQ5.out hb);replace BQ:=aK (bS BQ.out hb);clear hb;clear BQ HQ0 HQ4 HQ5 H3 H4;obtain ⟨wl,tl,⟨hl1,hl2,hl3⟩,hw,hw',⟨hf1,hf2⟩,hli,hbd,hrt⟩:=H5.out (by trivial);have G0:=aK (And.intro hl1 (And.intro hl2 hl3));have G1:=aK hw;have G2:=aK hw';have G3:=aK (And.intro hf1 hf2);have G4:=aK hli;have G5:=aK hbd;have G6:=aK hrt;clear hl1 hl2 hl3 hw hw' hf1 hf2 hli hbd hrt H5;have x0:=(bA BP.out 0).trans rfl;have x1:=(bA BP.out 1).trans rfl;have x2:=(bA BP.out 2).trans rfl;have x3:=(bA BP.out 3).trans rfl;have x4:=(bA BP.out 4).trans rfl
  go_wp2_with (go_at_call 23;refine bF (fun hng=>?_))
  refine hng ?_;clear hng;refine (zB 5000000 A5 c5 cs AP0 cP0 p1 p2 p3 p4 AP4 cP4 p5 tl _ HD.out.C5 HD.out.n5 (cD HP0.out).2.2 (cD HP0.out).2.1 (cD HP4.out).2.2 (cD HP4.out).2.1 G2.out).mono ?_;rintro e w12 ⟨vT,rfl,h_,hb⟩;clear x0 x1 x2 x3 x4;replace HD:=aK (HD.out.below hb);replace BM:=aK (bS BM.out hb);replace HB:=aK (bK HB.out hb);replace HR:=aK (kY HR.out hb);replace HP0:=aK (bZ HP0.out hb);replace HP4:=aK (bZ HP4.out hb);replace HP5:=aK (bZ HP5.out hb);replace BP:=aK (bS BP.out hb);have HT:=aK (cI (dE h_ (hU _)) (ok':=fun _=>True) (fun _ _=>trivial));obtain ⟨AT,cT,e_⟩:=cL HT.out;subst e_;clear h_;clear hb;have q0:=(bA BM.out 0).trans rfl;have q1:=(bA BM.out 1).trans rfl;have q2:=(bA BM.out 2).trans rfl;have q3:=(bA BM.out 3).trans rfl;have q4:=(bA BM.out 4).trans rfl
  go_wp2_with (go_at_call 23;refine bF (fun hng=>?_))
  refine hng ?_;clear hng;refine (zB 5000000 A5 c5 cs A0 c0 ws y t o A4 c4 cards wl _ HD.out.C5 HD.out.n5 HD.out.C0 HD.out.n0 HD.out.C4 HD.out.n4 G1.out).mono ?_;rintro e w13 ⟨vX,rfl,h_,hb⟩;clear q0 q1 q2 q3 q4;replace HD:=aK (HD.out.below hb);replace BM:=aK (bS BM.out hb);replace HB:=aK (bK HB.out hb);replace HR:=aK (kY HR.out hb);replace HP0:=aK (bZ HP0.out hb);replace HP4:=aK (bZ HP4.out hb);replace HP5:=aK (bZ HP5.out hb);replace BP:=aK (bS BP.out hb);replace HT:=aK (bZ HT.out hb);have HX:=aK (cI (dE h_ (hU _)) (ok':=fun _=>True) (fun _ _=>trivial));obtain ⟨AX,cX,e_⟩:=cL HX.out;subst e_;clear h_;clear hb;clear HP0 HP4 G1 G2
  go_wp2_with ((with_reducible refine dK (N:=80) rfl ?_);refine bF (fun hng=>?_))
  refine hng ?_;clear hng;refine yI (Kd.int .i64) _ 3 ?hg (N:=80) ?hd (xs:=([]:List Int)) (inner:=[]) (ok:=fun _=>True) (okp:=fun _=>True) ?hr ?hp (fun _ hk=>hk) dT (bH _ _) (bV _) (by simp) ?_
  (case hd=>rfl)
  (case hg=>rfl)
  (case hr=>first|(go_simp;done)|(go_simp;rfl))
  (case hp=>exact (pP.none _ _))
  intro v80 w30 ho6 hb hg_ hnew_;have HO:=aK ho6;have HB1:=aK hb;clear hg_ hnew_ hb ho6;go_wp2
  go_loopw [14,15] (fun v14 v15 wr=> ∃i:Nat,v15= .int .i64 (i:Int)∧Aside0 (i≤wl.length)∧Aside0 (Kd.R (Kd.int .i64) 3 wr w13.heap.size (fun _=>True) v14 (zC y (wl.take i)))∧Aside0 (Below w13.heap.size w13 wr)) (fun _ v15 _=>wl.length - (intOf v15).toNat)
  case atStart=>exact ⟨0,rfl,⟨hU _⟩,HO,HB1⟩
  case round =>
   clear HO HB1;obtain ⟨i,rfl,HIl,HO,HB1⟩:=hrel;by_cases cx:(i:Int)<(wl.length:Int)
   ·have d0 : decide ((i : Int) < (wl.length : Int)) = true := bD cx
    have d0b:=bO (show i<wl.length by omega);have HI1:=aK (show i<wl.length by omega);clear cx;have hb:=HB1.out;replace BM:=aK (bS BM.out hb);replace HX:=aK (bZ HX.out hb);clear hb;obtain ⟨gX,c_,eX,_,_,_⟩:=pG HX.out (by have:=HI1.out;omega);injection eX with a1 a2 a3;subst a1;clear a2 a3;have hfs:=bPw y wl i HI1.out;obtain ⟨x,hx⟩: ∃x,x=rd wl (i:Int):=⟨_,rfl⟩;rw [←hx] at hfs;have HXx:=aK hx;clear hx;have HF:=aK hfs;clear hfs;have hcX:=(kO (enc:=Value.int .i64) (h1:=fun _=>rfl) 0 HX.out (i:Int) (by omega) (by have:=HI1.out;omega)).1;rw [dF] at hcX;change _=some (Value.int .i64 (rd wl (i:Int))) at hcX
    rw [←HXx.out] at hcX;have r1:=bO (show 0≤(i:Int) by omega);have r2:=bO (show (i:Int)<(wl.length:Int) by have:=HI1.out;omega);have q1:=(bA BM.out 1).trans rfl;have u3:IntKind.i64.wrap ((i:Int)+1)=(i:Int)+1:=dD _ (by have:=HI1.out;have:=G0.out;omega)
    by_cases cA:y<x
    ·have dcA : decide (y < x) = true := bD cA
     have fcA:=bO cA;go_wp2;refine sT 7 (S:=fun w'=>Aside0 (Below wr.heap.size wr w')∧w'.cell? ⟨gX,i,none⟩=some (.int .i64 x)∧w'.cell? ⟨gm,1,none⟩=some (.int .i64 y)) (ds:=[]) ⟨⟨bG (bH _ _)⟩,(by go_simp),(by go_simp)⟩ (fun hHeld=>?_);refine pS 0 87 #[true,false,false,false,false,false,false] ?_;refine pS 1 88 #[true,true,false,false,false,false,false] ?_;refine pS 2 89 #[true,true,true,false,false,false,false] ?_;refine pS 4 91 #[true,true,true,false,true,false,false] ?_;refine tS 3 90 #[true,true,true,true,true,false,false] rfl rfl (by kernel_rfl) hHeld bBg ?_;refine tS 5 92 #[true,true,true,true,true,true,false] rfl rfl (by kernel_rfl) hHeld bBg ?_;refine pS 6 93 #[true,true,true,true,true,true,true] ?_;refine gT (by kernel_rfl) ?_;have hb:=hHeld.1.out;clear hHeld hcX q1;replace HX:=aK (bZ HX.out hb);replace HO:=aK (bZ HO.out hb);replace HB1:=aK (bK HB1.out hb);clear hb;generalize wr.drew=wd at HX HO HB1 ⊢;have hcX:=(kO (enc:=Value.int .i64) (h1:=fun _=>rfl) 0 HX.out (i:Int) (by omega) (by have:=HI1.out;omega)).1;rw [dF] at hcX;change _=some (Value.int .i64 (rd wl (i:Int))) at hcX
     rw [←HXx.out] at hcX
     go_wp2_with ((with_reducible refine jK (b:= .append) (xs:= #[.tmp 94,.tmp 99]) rfl ?_);refine bF (fun hng=>?_))
     refine hng ?_;clear hng
     at_builtin
     refine sE (Kd.int .i64) (w0:=w13) w13.heap.size rfl (.tmp 94) (.tmp 99) 23 3 (.int .i64 0) 8 rfl Try.underlying23 qT rfl (by decide) (by omega) u14 (zC y (wl.take i)) x [.int .i64 x] (fun _=>True) (fun _=>False) rfl rfl ?aP (fun _ hk=>hk.elim) ?aF ?aO ?aB ?aS ?aL ?_
     (case aP=>exact rfl)
     (case aB=>exact (by repeat (first|(with_reducible first|exact HB1.out|apply bJ|apply bI|apply bG)|exact HB1.out)))
     (case aF=>exact (fun _ _=>trivial))
     (case aO=>exact (by (with_reducible repeat (first|apply Kd.R_alloc|apply dA|apply dC));exact HO.out))
     (case aS=>exact (bW (by repeat (first|(with_reducible first|exact HB1.out|apply bJ|apply bI|apply bG)|exact HB1.out))))
     (case aL=>have:=bRy y (wl.take i);have:=dB (i:=i) (l:=wl);have:=HI1.out;have:=G0.out;omega)
     intro v100 w50 ho hb hg hat;have HO2:=aK ho;have HB2:=aK hb;clear ho hb hg hat hcX;go_wp2
     go_roundw
     case rel=>exact ⟨i+1,rfl,⟨HI1.out⟩,⟨by rw [HF.out,if_pos (by omega)];exact HO2.out⟩,HB2⟩
     case measure=>have:=HI1.out;simp only [intOf];omega
    ·have dcA : decide (y < x) = false := bM cA
     have fcA:=pO cA;go_wp2;refine sT 7 (S:=fun w'=>Aside0 (Below wr.heap.size wr w')∧w'.cell? ⟨gX,i,none⟩=some (.int .i64 x)∧w'.cell? ⟨gm,1,none⟩=some (.int .i64 y)) (ds:=[]) ⟨⟨bG (bH _ _)⟩,(by go_simp),(by go_simp)⟩ (fun hHeld=>?_);refine pS 0 87 #[true,false,false,false,false,false,false] ?_;refine pS 1 88 #[true,true,false,false,false,false,false] ?_;refine pS 2 89 #[true,true,true,false,false,false,false] ?_;refine pS 4 91 #[true,true,true,false,true,false,false] ?_;refine tS 3 90 #[true,true,true,true,true,false,false] rfl rfl (by kernel_rfl) hHeld bBg ?_;refine tS 5 92 #[true,true,true,true,true,true,false] rfl rfl (by kernel_rfl) hHeld bBg ?_;refine pS 6 93 #[true,true,true,true,true,true,true] ?_;refine gT (by kernel_rfl) ?_;have hb:=hHeld.1.out;clear hHeld hcX q1;replace HX:=aK (bZ HX.out hb);replace HO:=aK (bZ HO.out hb);replace HB1:=aK (bK HB1.out hb);clear hb;generalize wr.drew=wd at HX HO HB1 ⊢;go_wp2
     go_roundw
     case rel=>exact ⟨i+1,rfl,⟨HI1.out⟩,⟨by rw [HF.out,if_neg (by omega)];exact HO.out⟩,HB1⟩
     case measure=>have:=HI1.out;simp only [intOf];omega
   ·have d0 : decide ((i : Int) < (wl.length : Int)) = false := bM cx
    have d0b:=pO (show¬i<wl.length by omega);obtain rfl:i=wl.length:=by have:=HIl.out;omega
    clear cx HIl;have HO3:=aK (show Kd.R (Kd.int .i64) 3 wr w13.heap.size (fun _=>True) u14 (zC y wl) by rw [←bRz];exact HO.out);obtain ⟨AO,cO,e_⟩:=cL HO3.out;subst e_;clear HO;have hb:=HB1.out;replace HD:=aK (HD.out.below hb);replace BM:=aK (bS BM.out hb);replace HB:=aK (bK HB.out hb);replace HR:=aK (kY HR.out hb);replace HP5:=aK (bZ HP5.out hb);replace BP:=aK (bS BP.out hb);replace HT:=aK (bZ HT.out hb);replace HX:=aK (bZ HX.out hb);clear hb;clear HB1;replace HO3:=aK (dE HO3.out (hU _))
    rename World=>wz
    go_wp2
    go_loopw [16] (fun v16 wq=> ∃i:Nat,v16= .int .i64 (i:Int)∧Aside0 (i≤rt.length)∧Aside0 (Below wz.heap.size wz wq)) (fun v16 _=>rt.length - (intOf v16).toNat)
    case atStart=>exact ⟨0,rfl,⟨hU _⟩,⟨bH _ _⟩⟩
    case round=>
     obtain ⟨i,rfl,HIl,HB1⟩:=hrel;by_cases cx:(i:Int)<(rt.length:Int)
     ·have e0 : decide ((i : Int) < (rt.length : Int)) = true := bD cx
      have e0b:=bO (show i<rt.length by omega);have HI1:=aK (show i<rt.length by omega);clear cx d0 d0b;have hb:=HB1.out;replace BM:=aK (bS BM.out hb);replace HP5:=aK (bZ HP5.out hb);replace HR:=aK (kY HR.out hb);clear hb;have hG:=G6.out i HI1.out;obtain ⟨a7,e7,hc7⟩:=dL (qG HR.out).2.2 (i:Int) (by omega) (by have:=HI1.out;omega);subst e7;rw [dF] at hc7;obtain ⟨gV,c_,eX,_,_,_⟩:=pG HP5.out (by have:=HI1.out;have:=G0.out;omega);injection eX with a1 a2 a3;subst a1;clear a2 a3;have hcV:=(kO (enc:=Value.int .i64) (h1:=fun _=>rfl) 0 HP5.out (i:Int) (by omega) (by have:=HI1.out;have:=G0.out;omega)).1;rw [dF] at hcV;change _=some (Value.int .i64 (rd p6 (i:Int))) at hcV
      obtain ⟨v,hv⟩: ∃v,v=rd rt (i:Int):=⟨_,rfl⟩;obtain ⟨u,hu⟩: ∃u,u=rd p6 (i:Int):=⟨_,rfl⟩;rw [←hv,←hu] at hG;rw [←hv] at hc7;rw [←hu] at hcV;clear hv hu;have r1:=bO (show 0≤(i:Int) by omega);have r2:=bO (show (i:Int)<(rt.length:Int) by have:=HI1.out;omega);have r3:=bO (show (i:Int)<(p6.length:Int) by have:=HI1.out;have:=G0.out;omega);have r3b:=bO (show i<p6.length by have:=HI1.out;have:=G0.out;omega);have q1:=(bA BM.out 1).trans rfl;have q3:=(bA BM.out 3).trans rfl;have u3:IntKind.i64.wrap ((i:Int)+1)=(i:Int)+1:=dD _ (by have:=HI1.out;have:=HL7.out;omega)
      have HG_:=aK hG;clear hG;by_cases cA:y<v
      ·have dcA : decide (y < v) = true := bD cA
       have fcA:=bO cA;obtain rfl:u=v:=HG_.out.1 cA;have dx1:decide (0<u)=true:=bD (show 0<u by have:=G5.out;omega)
       have fx1:=bO (show 0<u by have:=G5.out;omega);have dx2:decide (u≤y)=false:=bM (show¬u≤y by omega)
       have fx2:=pO (show¬u≤y by omega);go_wp2;refine sT 43 (S:=fun w'=>Aside0 (Below wr.heap.size wr w')∧w'.cell? (a7.add i)=some (.int .i64 u)∧w'.cell? ⟨gV,i,none⟩=some (.int .i64 u)∧w'.cell? ⟨gm,1,none⟩=some (.int .i64 y)∧w'.cell? ⟨gm,3,none⟩=some (.int .i64 o)) (ds:=[]) ⟨⟨bG (bH _ _)⟩,(by go_simp),(by go_simp),(by go_simp),(by go_simp)⟩ (fun hHeld=>?_);refine cJ 0 ?_;refine cJ 1 ?_;refine cJ 2 ?_;refine cJ 4 ?_;refine tS 3 110 (lA 43 31) rfl rfl (by kernel_rfl) hHeld qV ?_;refine tS 5 112 (lA 43 63) rfl rfl (by kernel_rfl) hHeld qV ?_;refine cJ 6 ?_;refine cJ 7 ?_;refine cJ 8 ?_;refine cJ 9 ?_;refine cJ 10 ?_;refine cJ 12 ?_;refine cJ 13 ?_;refine cJ 14 ?_;refine tS 11 118 (lA 43 32767) rfl rfl (by kernel_rfl) hHeld qV ?_;refine tS 15 122 (lA 43 65535) rfl rfl (by kernel_rfl) hHeld qV ?_;refine cJ 16 ?_;refine cJ 17 ?_;refine cJ 18 ?_;refine cJ 19 ?_;refine cJ 20 ?_;refine cJ 21 ?_;refine tS 22 129 (lA 43 8388607) rfl rfl (by kernel_rfl) hHeld qV ?_;refine cJ 23 ?_;refine cJ 24 ?_;refine cJ 25 ?_;refine cJ 26 ?_;refine cJ 27 ?_;refine cJ 29 ?_;refine tS 28 135 (lA 43 1073741823) rfl rfl (by kernel_rfl) hHeld qV ?_;refine tS 30 137 (lA 43 2147483647) rfl rfl (by kernel_rfl) hHeld qV ?_;refine cJ 31 ?_;refine cJ 32 ?_;refine cJ 33 ?_;refine fW 34 ?_;refine fW 35 ?_;refine fW 36 ?_;refine fW 37 ?_;refine fW 38 ?_;refine fW 39 ?_;refine fW 40 ?_;refine cJ 41 ?_;refine cJ 42 ?_;refine gT (by kernel_rfl) ?_;have hb:=hHeld.1.out;clear hHeld hc7 hcV q1 q3;replace HB1:=aK (bK HB1.out hb);clear hb;go_wp2
       go_roundw
       case rel=>exact ⟨i+1,rfl,⟨HI1.out⟩,HB1⟩
       case measure=>have:=HI1.out;simp only [intOf];omega
      ·have dcA : decide (y < v) = false := bM cA
       have fcA:=pO cA;by_cases cB:0<v
       ·have dcB : decide (0 < v) = true := bD cB
        have fcB:=bO cB;have dx1:decide (v≤y)=true:=bD (show v≤y by omega)
        have fx1:=bO (show v≤y by omega);have dx2:decide (u≤o)=false:=bM (show¬u≤o by have:=HG_.out.2 cB (by omega);omega)
        have fx2:=pO (show¬u≤o by have:=HG_.out.2 cB (by omega);omega);go_wp2;refine sT 43 (S:=fun w'=>Aside0 (Below wr.heap.size wr w')∧w'.cell? (a7.add i)=some (.int .i64 v)∧w'.cell? ⟨gV,i,none⟩=some (.int .i64 u)∧w'.cell? ⟨gm,1,none⟩=some (.int .i64 y)∧w'.cell? ⟨gm,3,none⟩=some (.int .i64 o)) (ds:=[]) ⟨⟨bG (bH _ _)⟩,(by go_simp),(by go_simp),(by go_simp),(by go_simp)⟩ (fun hHeld=>?_);refine cJ 0 ?_;refine cJ 1 ?_;refine cJ 2 ?_;refine cJ 4 ?_;refine tS 3 110 (lA 43 31) rfl rfl (by kernel_rfl) hHeld qV ?_;refine tS 5 112 (lA 43 63) rfl rfl (by kernel_rfl) hHeld qV ?_;refine cJ 6 ?_;refine cJ 7 ?_;refine fW 8 ?_;refine fW 9 ?_;refine fW 10 ?_;refine fW 11 ?_;refine fW 12 ?_;refine fW 13 ?_;refine fW 14 ?_;refine fW 15 ?_;refine fW 16 ?_;refine cJ 17 ?_;refine cJ 18 ?_;refine cJ 19 ?_;refine cJ 20 ?_;refine cJ 21 ?_;refine tS 22 129 (lA 43 8388607) rfl rfl (by kernel_rfl) hHeld qV ?_;refine cJ 23 ?_;refine cJ 24 ?_;refine cJ 25 ?_;refine cJ 26 ?_;refine cJ 27 ?_;refine cJ 29 ?_;refine tS 28 135 (lA 43 1073741823) rfl rfl (by kernel_rfl) hHeld qV ?_;refine tS 30 137 (lA 43 2147483647) rfl rfl (by kernel_rfl) hHeld qV ?_;refine cJ 31 ?_;refine cJ 32 ?_;refine cJ 33 ?_;refine cJ 34 ?_;refine cJ 35 ?_;refine cJ 36 ?_;refine cJ 38 ?_;refine tS 37 144 (lA 43 549755813887) rfl rfl (by kernel_rfl) hHeld qV ?_;refine tS 39 146 (lA 43 1099511627775) rfl rfl (by kernel_rfl) hHeld qV ?_;refine cJ 40 ?_;refine cJ 41 ?_;refine cJ 42 ?_;refine gT (by kernel_rfl) ?_;have hb:=hHeld.1.out;clear hHeld hc7 hcV q1 q3;replace HB1:=aK (bK HB1.out hb);clear hb;go_wp2
        go_roundw
        case rel=>exact ⟨i+1,rfl,⟨HI1.out⟩,HB1⟩
        case measure=>have:=HI1.out;simp only [intOf];omega
       ·have dcB : decide (0 < v) = false := bM cB
        have fcB:=pO cB;go_wp2;refine sT 43 (S:=fun w'=>Aside0 (Below wr.heap.size wr w')∧w'.cell? (a7.add i)=some (.int .i64 v)∧w'.cell? ⟨gV,i,none⟩=some (.int .i64 u)∧w'.cell? ⟨gm,1,none⟩=some (.int .i64 y)∧w'.cell? ⟨gm,3,none⟩=some (.int .i64 o)) (ds:=[]) ⟨⟨bG (bH _ _)⟩,(by go_simp),(by go_simp),(by go_simp),(by go_simp)⟩ (fun hHeld=>?_);refine cJ 0 ?_;refine cJ 1 ?_;refine cJ 2 ?_;refine cJ 4 ?_;refine tS 3 110 (lA 43 31) rfl rfl (by kernel_rfl) hHeld qV ?_;refine tS 5 112 (lA 43 63) rfl rfl (by kernel_rfl) hHeld qV ?_;refine cJ 6 ?_;refine cJ 7 ?_;refine fW 8 ?_;refine fW 9 ?_;refine fW 10 ?_;refine fW 11 ?_;refine fW 12 ?_;refine fW 13 ?_;refine fW 14 ?_;refine fW 15 ?_;refine fW 16 ?_;refine cJ 17 ?_;refine cJ 18 ?_;refine cJ 19 ?_;refine cJ 20 ?_;refine cJ 21 ?_;refine tS 22 129 (lA 43 8388607) rfl rfl (by kernel_rfl) hHeld qV ?_;refine cJ 23 ?_;refine cJ 24 ?_;refine fW 25 ?_;refine fW 26 ?_;refine fW 27 ?_;refine fW 28 ?_;refine fW 29 ?_;refine fW 30 ?_;refine fW 31 ?_;refine cJ 32 ?_;refine cJ 33 ?_;refine fW 34 ?_;refine fW 35 ?_;refine fW 36 ?_;refine fW 37 ?_;refine fW 38 ?_;refine fW 39 ?_;refine fW 40 ?_;refine cJ 41 ?_;refine cJ 42 ?_;refine gT (by kernel_rfl) ?_;have hb:=hHeld.1.out;clear hHeld hc7 hcV q1 q3;replace HB1:=aK (bK HB1.out hb);clear hb;go_wp2
        go_roundw
        case rel=>exact ⟨i+1,rfl,⟨HI1.out⟩,HB1⟩
        case measure=>have:=HI1.out;simp only [intOf];omega
     ·have e0 : decide ((i : Int) < (rt.length : Int)) = false := bM cx
      have e0b:=pO (show¬i<rt.length by omega);clear cx HIl;have hb:=HB1.out;replace HD:=aK (HD.out.below hb);replace BM:=aK (bS BM.out hb);replace HB:=aK (bK HB.out hb);replace HR:=aK (kY HR.out hb);replace HP5:=aK (bZ HP5.out hb);replace BP:=aK (bS BP.out hb);replace HT:=aK (bZ HT.out hb);replace HX:=aK (bZ HX.out hb);clear hb;replace HO3:=aK (bZ HO3.out HB1.out);have hle:=G3.out.1;have htk:=Kd.C_take (cD HT.out).2.2 hle;rw [G3.out.2] at htk;have HTk:=aK htk;have s1:=bO (show ((zC y wl).length:Int)≤(tl.length:Int) by omega);have s2:=bO hle;have s3:decide (((zC y wl).length:Int)≤(tl.length:Int))=true:=bD (by omega)
      have s4:=bO (show (zC y wl).length≤cT by have:=(cD HT.out).2.1;omega);clear hle htk;have t1:=(show (zC y wl).length≤tl.length∧tl.length≤cT from ⟨G3.out.1,(cD HT.out).2.1⟩);have u1:IntKind.i64.wrap (p4 - o)=p4 - o:=dD _ (by have:=G5.out;omega)
      have s5:decide (p4 - o≤t)=true:=bD (by have:=G5.out;omega)
      have s6:=bO (show p4 - o≤t by have:=G5.out;omega);have s7:decide ((tl.length:Int)≤(wl.length:Int))=true:=bD (by have:=G0.out;omega)
      have s8:=bO (show tl.length≤wl.length by have:=G0.out;omega);have q0:=(bA BM.out 0).trans rfl;have q1:=(bA BM.out 1).trans rfl;have q2:=(bA BM.out 2).trans rfl;have q3:=(bA BM.out 3).trans rfl;have q4:=(bA BM.out 4).trans rfl;have x0:=(bA BP.out 0).trans rfl;have x1:=(bA BP.out 1).trans rfl;have x2:=(bA BP.out 2).trans rfl;have x3:=(bA BP.out 3).trans rfl;have x4:=(bA BP.out 4).trans rfl
      go_wp2_with (go_at_call 22;refine bF (fun hng=>?_))
      refine hng ?_;clear hng;refine (fV 5000000 AT cT (zC y wl) AO cO (zC y wl) true _ HTk.out (by have:=t1;omega) (cD HO3.out).2.2 (cD HO3.out).2.1 G4.out).mono ?_;rintro e w14 ⟨rfl,hb⟩;have hb:=hb.below;replace HD:=aK (HD.out.below hb);replace BM:=aK (bS BM.out hb);replace HB:=aK (bK HB.out hb);replace HR:=aK (kY HR.out hb);replace HP5:=aK (bZ HP5.out hb);replace BP:=aK (bS BP.out hb);replace HT:=aK (bZ HT.out hb);replace HX:=aK (bZ HX.out hb);clear hb;clear q0 q1 q2 q3 q4 x0 x1 x2 x3 x4;have q0:=(bA BM.out 0).trans rfl;have q1:=(bA BM.out 1).trans rfl;have q2:=(bA BM.out 2).trans rfl;have q3:=(bA BM.out 3).trans rfl;have q4:=(bA BM.out 4).trans rfl;have x0:=(bA BP.out 0).trans rfl;have x1:=(bA BP.out 1).trans rfl;have x2:=(bA BP.out 2).trans rfl;have x3:=(bA BP.out 3).trans rfl;have x4:=(bA BP.out 4).trans rfl;go_wp2;go_ret;exact ⟨by simp,by first|exact HB.out|exact bG HB.out⟩
end Go.Proofs.Ytbaklikaoleplaa.K
namespace Go.Proofs.Ytbaklikaoleplaa.K
open Go.RowKit Go.Proofs.YtbaklikaoleplaaW.PrintWords Go.Proofs.YtbaklikaoleplaaW.PrintLast Go.Proofs.YtbaklikaoleplaaW.PrintMore
attribute [local go_sem] gD gB gY gW fR fQ gC gA
set_option linter.unusedVariables false
set_option linter.unusedSimpArgs false
section
open Go.ChangeShapes Go.WideShapes Go.ChangeAt Go.Deep
def bSl {H α:Type} (enc:TypeId×Value→H) (P:Program) (w:World) (d:Kd α) (G:α→Prop) (t:TypeId):Prop:=
  ∀(fuel:Nat) (cs:List Value) (x:DataW H×List MemPlace),DataW.trod enc P w 0 (fun _=>true) true fuel t cs=some x→∃a:α,d.K w a cs∧G a
variable {H α:Type} {enc:TypeId×Value→H} {P:Program} {w:World} {d:Kd α} {G:α→Prop} {t e:TypeId}
theorem bPk {k:IntKind} (ht:P.underlying t=some (.int k)):bSl enc P w (Kd.int k) (fun n=>(Lit.int k n).wf=true) t:=by
 intro fuel cs x h;obtain ⟨n,rfl,_,hw⟩:=DataW.trod_int ht h;exact ⟨n,rfl,hw⟩
def GL (G:α→Prop) (xs:List α):Prop:=xs.length≤9223372036854775807∧∀x∈xs,G x
theorem bOi {Q : Nat → α → Prop} : ∀ n : Nat, (∀ i, i < n → ∃ p, Q i p) → ∃ xs : List α, xs.length = n ∧ ∀ i p, xs[i]? = some p → Q i p
  |0,_=>⟨[],rfl,fun i p h=>by simp at h⟩
  | n + 1, h => by
    obtain ⟨xs,hl,hx⟩:=bOi n (fun i hi=>h i (by omega));obtain ⟨p,hp⟩:=h n (by omega);refine ⟨xs++[p],by simp [hl],fun i q hq=>?_⟩;by_cases hi:i<n
    · rw [jE (by omega)] at hq
      exact hx i q hq
    · have : i = n := by
        have:=(fH.1 hq).1
        simp at this;omega
      subst this;rw [jL (by omega)] at hq;simp [hl] at hq
      subst hq;exact hp
theorem bLm (ht:P.underlying t=some (.slice e)) (hs:d.sz=P.cellsOf e) (he:bSl enc P w d G e):bSl enc P w (Kd.slice e d) (GL G) t:=by
 intro fuel cs x h;rcases open_slice ht h with ⟨rfl,_⟩|⟨a,len,cap,m,n,D,Pl,rfl,hb,hl,hm,hmm,hx,hi⟩
 ·exact ⟨[],⟨none,0,rfl,bV _,Kd.C_nil _ _⟩,by simp [GL]⟩
 ·have hmc : m = cap := by simpa using hmm
  obtain ⟨xs,hlen,hxs⟩:=bOi (Q:=fun i p=> ∃c,c.length=d.sz∧d.K w p c∧(∀j u,c[j]? =some u→w.cell? (a.add (i*d.sz+j))=some u)∧G p) len (fun i hil=>by
   obtain ⟨cs',hc,ht'⟩:=hi i (by omega);obtain ⟨p,hK,hG⟩:=he n cs' _ ht';obtain ⟨_,hcl,hat⟩:=World.cells?_some hc;refine ⟨p,cs',d.K_len hK,hK,fun j u hu=>?_,hG⟩;have hj:j<P.cellsOf e:=by rw [←hcl];exact (fH.1 hu).1
   have:=hat j hj
   rw [Go.Deep.add_add] at this
   rw [hs,this,hu])
  subst hlen;refine ⟨xs,⟨some a,cap,rfl,hl,rfl,?_,fun _=>⟨a,rfl,fun j p hj=>?_⟩⟩,?_,fun x hx=>?_⟩
  ·have : maxLen = 9223372036854775807 := rfl
   omega
  ·obtain ⟨c, h1, h2, h3, _⟩ := hxs j p hj
   exact ⟨c,h1,h2,h3⟩
  ·have : maxLen = 9223372036854775807 := rfl
   omega
  ·obtain ⟨i, hi', rfl⟩ := qX hx
   obtain ⟨c,_,_,_,hG⟩:=hxs i _ (bT hi');exact hG
end
def bBz:Prop:= ∀(a0:List Int),(GL (fun n:Int=>(Lit.int .u8 n).wf=true)) a0→rY a0=some true
section
open Go.ChangeShapes Go.WideShapes Go.ChangeAt Go.Deep
end
end Go.Proofs.Ytbaklikaoleplaa.K
namespace Go.Proofs.Ytbaklikaoleplaa.Pure
open Go.RowKit Go.Proofs.Ytbaklikaoleplaa.K Go.Proofs.YtbaklikaoleplaaW.PrintWords Go.Proofs.YtbaklikaoleplaaW.PrintLast Go.Proofs.YtbaklikaoleplaaW.PrintMore
set_option linter.unusedVariables false
set_option linter.unusedSimpArgs false
theorem FnMinorOld:bBz:=by
 intro l hl;unfold rY;exact if_pos (show∀x∈l,(Lit.int .u8 x).wf=true from hl.2)
end Go.Proofs.Ytbaklikaoleplaa.Pure
