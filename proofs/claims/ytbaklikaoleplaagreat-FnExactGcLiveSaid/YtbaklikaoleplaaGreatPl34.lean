import Derived.Test.YtbaklikaoleplaaGreatPl24
import Derived.Test.YtbaklikaoleplaaGreatPl27
import Derived.Test.YtbaklikaoleplaaGreatPl28
import Derived.Test.YtbaklikaoleplaaGreatPl32
import Derived.Test.YtbaklikaoleplaaGreatPl33
import Derived.Deep.Slices
import Derived.Deep.Fields
import Derived.ChangeSame
import Derived.ProofKit
import Derived.OpenShut
import Derived.ShutString
import Derived.ChangeOld
import Derived.SizedLaws
import Derived.Test.YtbaklikaoleplaaGreatPl29
import Derived.Test.YtbaklikaoleplaaGreatPl25
import Derived.Test.YtbaklikaoleplaaGreatPl30
import Derived.Test.YtbaklikaoleplaaGreatPl31
import Derived.Test.YtbaklikaoleplaaGreatPl26
import Derived.Laws.Bits64
set_option maxHeartbeats 64000000
set_option maxRecDepth 100000
namespace Go.Proofs.YtbaklikaoleplaaGreat.K
open Go.RowKit Go.Proofs.YtbaklikaoleplaaGreatW.PrintWords Go.Proofs.YtbaklikaoleplaaGreatW.PrintLast Go.Proofs.YtbaklikaoleplaaGreatW.PrintMore
attribute [local go_sem] gV gT jT jS fY fX gU gR
set_option linter.unusedVariables false
set_option linter.unusedSimpArgs false
open Classical in
noncomputable def nU (k:Nat) (l0:List (S75)) (l1_0:List Int) (a1_1:Int) (a1_2:Int) (a1_3:Int) (l1_4:List Bool) (l2:List Int):Option (Bool):=
 if (l2.length:Int)>1048576 then some true else (kA k l0 1048576).bind fun t=>if t<0 then some true else (rZ l1_0 a1_1 a1_2 a1_3 l1_4 t).bind fun t2=>if t2<0 then some true else
 (qD k l0).bind fun cs=>(vF k l1_0 a1_1 a1_2 a1_3 l1_4).bind fun M=>(mZ k l2).bind fun R2=>if M=(l1_0,a1_1,a1_2,a1_3,l1_4)∧R2=l2∧cs.length≤1048576 then
 (qH k cs l1_0 a1_1 a1_2 a1_3 l1_4 l2).bind fun w_=>(nA k cs l1_0 a1_1 a1_2 a1_3 l1_4 l2).bind fun v_=>
 (gP k w_ w_).bind fun e0=>
 (qE k cs cs).bind fun ec=>
 (sC k l1_0 a1_1 a1_2 a1_3 l1_4 l1_0 a1_1 a1_2 a1_3 l1_4).bind fun em=>
 (gP k l2 l2).bind fun ei2=>
 (mcs k cs 1).bind fun k1=>
 (sB k l1_0 a1_1 a1_2 a1_3 l1_4 k1).bind fun km=>
 (jJ k l2 km.1).bind fun ki2=>
 (jJ k w_ 1).bind fun m0=>
 (mU k m0.2 1).bind fun q0=>
 if w_=v_∧(e0=true∧ec=true∧em=true∧ei2=true)∧0≤ki2.1∧q0=m0.1∧0≤q0 then some true else none
 else none
theorem xW (k:Nat) (A0:Option Addr) (c0:Nat) (l0:List (S75)) (A1_0:Option Addr) (c1_0:Nat) (l1_0:List Int) (a1_1:Int) (a1_2:Int) (a1_3:Int) (A1_4:Option Addr) (c1_4:Nat) (l1_4:List Bool) (A2:Option Addr) (c2:Nat) (l2:List Int) (r:Bool) (w:World) (hr_:Aside0 (r=true)) (hr0:Kd.C k75 w A0 l0.length l0) (hc0:l0.length≤c0) (hr1_0:Kd.C (Kd.int .i64) w A1_0 l1_0.length l1_0) (hc1_0:l1_0.length≤c1_0) (hr1_4:Kd.C Kd.bool w A1_4 l1_4.length l1_4) (hc1_4:l1_4.length≤c1_4) (hr2:Kd.C (Kd.int .i64) w A2 l2.length l2) (hc2:l2.length≤c2) (h:nU k l0 l1_0 a1_1 a1_2 a1_3 l1_4 l2=some r):
  Calls Tryz.prog 4 #[.slice A0 l0.length c0,.agg #[.slice A1_0 l1_0.length c1_0,.int .i64 a1_1,.int .i64 a1_2,.int .i64 a1_3,.slice A1_4 l1_4.length c1_4],.slice A2 l2.length c2] w fun e w'=>e= .returned (.bool r)∧Below w.heap.size w w':=by
 obtain rfl:=hr_.out;have HR0:=aK hr0;have HC0:=aK hc0;have HR1_0:=aK hr1_0;have HC1_0:=aK hc1_0;have HR1_4:=aK hr1_4;have HC1_4:=aK hc1_4;have HR2:=aK hr2;have HC2:=aK hc2;clear hr0 hc0 hr1_0 hc1_0 hr1_4 hc1_4 hr2 hc2 hr_;have HB0:=aK (bI (bQ w.heap.size w) (.cells #[.slice A1_0 l1_0.length c1_0,.int .i64 a1_1,.int .i64 a1_2,.int .i64 a1_3,.slice A1_4 l1_4.length c1_4] 43 (0,0)));have BM0:=aK (pX w (.cells #[.slice A1_0 l1_0.length c1_0,.int .i64 a1_1,.int .i64 a1_2,.int .i64 a1_3,.slice A1_4 l1_4.length c1_4] 43 (0,0)));unfold nU at h;by_cases g2:(l2.length:Int)>1048576
 ·have d92 : decide ((l2.length : Int) > 1048576) = true := bB g2
  go_enter Tryz.func4,Tryz.ntmps4;go_wp2;go_ret;exact ⟨rfl,HB0.out⟩
 rw [if_neg g2] at h;have d92:decide ((l2.length:Int)>1048576)=false:=bJ g2
 clear g2;replace h:=Option.bind_eq_some_iff.mp h;obtain ⟨t,h1,h⟩:=h;have H1:=aK h1;clear h1;by_cases c1:t<0
 ·have d1 : decide (t < 0) = true := bB c1
  go_enter Tryz.func4,Tryz.ntmps4
  go_wp2_with fail
  go_at_call 16;refine (tX k A0 c0 l0 1048576 t _ (bS HR0.out HB0.out) HC0.out H1.out).mono ?_;rintro e w1 ⟨rfl,hb⟩;have HB:=aK (bG HB0.out hb);have BM:=aK ((hb.block _ (cK BM0.out)).trans BM0.out);clear hb HB0 BM0;go_wp2;go_ret;exact ⟨rfl,HB.out⟩
 rw [if_neg c1] at h;have d1:decide (t<0)=false:=bJ c1
 replace h:=Option.bind_eq_some_iff.mp h;obtain ⟨t2,h2,h⟩:=h;have H2:=aK h2;clear h2;go_enter Tryz.func4,Tryz.ntmps4
 go_wp2_with fail
 go_at_call 16;refine (tX k A0 c0 l0 1048576 t _ (bS HR0.out HB0.out) HC0.out H1.out).mono ?_;rintro e w1 ⟨rfl,hb⟩;have HB:=aK (bG HB0.out hb);have BM:=aK ((hb.block _ (cK BM0.out)).trans BM0.out);clear hb HB0 BM0;have mc0:=(bK BM.out 0).trans rfl;have mc1:=(bK BM.out 1).trans rfl;have mc2:=(bK BM.out 2).trans rfl;have mc3:=(bK BM.out 3).trans rfl;have mc4:=(bK BM.out 4).trans rfl
 go_wp2_with fail
 go_at_call 17;refine (bCe A1_0 c1_0 l1_0 a1_1 a1_2 a1_3 A1_4 c1_4 l1_4 t t2 _ (bS HR1_0.out HB.out) HC1_0.out (bS HR1_4.out HB.out) HC1_4.out H2.out).mono ?_;rintro e w2 ⟨rfl,hb⟩;clear mc0 mc1 mc2 mc3 mc4;replace HB:=aK (bG HB.out hb);replace BM:=aK ((hb.block _ (cK BM.out)).trans BM.out);clear hb;by_cases c2:t2<0
 ·have d2 : decide (t2 < 0) = true := bB c2
  go_wp2;go_ret;exact ⟨rfl,HB.out⟩
 rw [if_neg c2] at h;have d2:decide (t2<0)=false:=bJ c2
 replace h:=Option.bind_eq_some_iff.mp h;obtain ⟨cs,h3,h⟩:=h;have H3:=aK h3;replace h:=Option.bind_eq_some_iff.mp h;obtain ⟨M,h4,h⟩:=h;replace h:=Option.bind_eq_some_iff.mp h;obtain ⟨R2,h42,h⟩:=h
 split at h
 case isFalse=>simp at h
 case isTrue hM=>
 obtain ⟨rfl,hri2,hcl⟩:=hM;replace hri2:=hri2.symm;subst hri2;have H42:=aK h42;have H4:=aK h4;have HCL:=aK hcl;replace h:=Option.bind_eq_some_iff.mp h;obtain ⟨r0,h5,h⟩:=h;have H5:=aK h5;replace h:=Option.bind_eq_some_iff.mp h;obtain ⟨v_,h6,h⟩:=h;replace h:=Option.bind_eq_some_iff.mp h;obtain ⟨e0,he0,h⟩:=h;replace h:=Option.bind_eq_some_iff.mp h;obtain ⟨ec,hec,h⟩:=h;replace h:=Option.bind_eq_some_iff.mp h;obtain ⟨em,hem,h⟩:=h;replace h:=Option.bind_eq_some_iff.mp h;obtain ⟨ei2,hei2,h⟩:=h;replace h:=Option.bind_eq_some_iff.mp h;obtain ⟨k1,hk1,h⟩:=h;replace h:=Option.bind_eq_some_iff.mp h;obtain ⟨⟨k2,y0,y1⟩,hkm,h⟩:=h;replace h:=Option.bind_eq_some_iff.mp h;obtain ⟨⟨ki2,zi2⟩,hki2,h⟩:=h;replace h:=Option.bind_eq_some_iff.mp h;obtain ⟨⟨m0,u0⟩,hm0,h⟩:=h;replace h:=Option.bind_eq_some_iff.mp h;obtain ⟨q0,hq0,h⟩:=h
 split at h
 case isFalse=>simp at h
 case isTrue hE=>
 obtain ⟨rfl,⟨rfl,rfl,rfl,rfl⟩,hk2,hq,h0q0⟩:=hE;dsimp only at hk2 hq h0q0 h6 he0 hec hem hei2 hk1 hkm hki2 hm0 hq0;subst hq;have H6:=aK h6;have He0:=aK he0;have Hec:=aK hec;have Hem:=aK hem;have Hei2:=aK hei2;have Hk1:=aK hk1;have Hkm:=aK hkm;have Hki2:=aK hki2;have Hm0:=aK hm0;have Hq0:=aK hq0;have dk:decide (ki2<0)=false:=bJ (by omega)
 have dq0:decide (q0<0)=false:=bJ (by omega)
 have dn:(q0 !=q0)=false:=by simp
 clear h h3 h4 h5 h6 he0 hec hem hei2 hk1 hkm hki2 hm0 hq0 hcl hk2 h0q0 c1 c2 h42;have mc0:=(bK BM.out 0).trans rfl;have mc1:=(bK BM.out 1).trans rfl;have mc2:=(bK BM.out 2).trans rfl;have mc3:=(bK BM.out 3).trans rfl;have mc4:=(bK BM.out 4).trans rfl;go_wp2;refine sT 8 (S:=fun w'=>Aside0 (Below w2.heap.size w2 w')∧w'.cell? (⟨w.heap.size,0,none⟩)=some (.slice A1_0 l1_0.length c1_0)∧w'.cell? (⟨w.heap.size,1,none⟩)=some (.int .i64 a1_1)∧w'.cell? (⟨w.heap.size,2,none⟩)=some (.int .i64 a1_2)∧w'.cell? (⟨w.heap.size,3,none⟩)=some (.int .i64 a1_3)∧w'.cell? (⟨w.heap.size,4,none⟩)=some (.slice A1_4 l1_4.length c1_4)) (ds:=[]) ⟨⟨bH (bQ _ _)⟩,(by go_simp),(by go_simp),(by go_simp),(by go_simp),(by go_simp)⟩ (fun hHeld=>?_);refine pS 0 30 #[true,false,false,false,false,false,false,false] ?_;refine pS 4 34 #[true,false,false,false,true,false,false,false] ?_;refine tS 2 32 #[true,false,true,false,true,false,false,false] rfl rfl (by kernel_rfl) hHeld pD ?_;refine oS 1 31 #[true,true,true,false,true,false,false,false] rfl rfl (fun K hK=>?_);refine gO Tryz.func19 #[.slice A0 l0.length c0] ?_;(with_reducible refine (pE k A0 c0 l0 cs _ (bS HR0.out (bG HB.out hHeld.1.out)) HC0.out H3.out).mono ?_);rintro e wa ⟨vc,rfl,hc,hba⟩;have HVC:=aK hc;obtain ⟨AVC,cVC,rfl⟩:=jX hc;refine ⟨_,rfl,?_⟩;refine hK.out _ _ ⟨⟨bG hHeld.1.out hba⟩,(yW hba hHeld.2)⟩ (fun hHeld=>?_);clear hK K;refine nS 31 ?_;refine oS 3 33 #[true,true,true,true,true,false,false,false] rfl rfl (fun K hK=>?_);refine gO Tryz.func20 #[.agg #[.slice A1_0 l1_0.length c1_0,.int .i64 a1_1,.int .i64 a1_2,.int .i64 a1_3,.slice A1_4 l1_4.length c1_4]] ?_;(with_reducible refine (qU k A1_0 c1_0 l1_0 a1_1 a1_2 a1_3 A1_4 c1_4 l1_4 l1_0 a1_1 a1_2 a1_3 l1_4 _ (bS HR1_0.out (bG HB.out hHeld.1.out)) HC1_0.out (bS HR1_4.out (bG HB.out hHeld.1.out)) HC1_4.out H4.out).mono ?_);rintro e wb ⟨vm,vn,rfl,hm_,hn_,hbb⟩;have HVM:=aK hm_;have HVN:=aK hn_;have HBB:=aK hbb;obtain ⟨AVM,cVM,rfl⟩:=cH hm_;obtain ⟨AVN,cVN,rfl⟩:=cH hn_;refine ⟨_,rfl,?_⟩;refine hK.out _ _ ⟨⟨bG hHeld.1.out hbb⟩,(yW hbb hHeld.2)⟩ (fun hHeld=>?_);clear hK K;refine nS 33 ?_;refine oS 5 35 #[true,true,true,true,true,true,false,false] rfl rfl (fun K hK=>?_);refine gO Tryz.func21 #[.slice A2 l2.length c2] ?_;(with_reducible refine (mP k A2 c2 l2 l2 _ (bS HR2.out (bG HB.out hHeld.1.out)) HC2.out H42.out).mono ?_);rintro e wi ⟨vi,rfl,hi_,hbi⟩;have HVI:=aK hi_;have HBI:=aK hbi;obtain ⟨AVI,cVI,rfl⟩:=cH hi_;refine ⟨_,rfl,?_⟩;refine hK.out _ _ ⟨⟨bG hHeld.1.out hbi⟩,(yW hbi hHeld.2)⟩ (fun hHeld=>?_);clear hK K;refine nS 35 ?_;refine oS 6 36 #[true,true,true,true,true,true,true,false] rfl rfl (fun K hK=>?_);refine gO Tryz.func18 #[.slice AVC cs.length cVC,.agg #[.slice AVM l1_0.length cVM,.int .i64 a1_1,.int .i64 a1_2,.int .i64 a1_3,.slice AVN l1_4.length cVN],.slice AVI l2.length cVI] ?_;(with_reducible refine (bBi k AVC cVC cs AVM cVM l1_0 a1_1 a1_2 a1_3 AVN cVN l1_4 AVI cVI l2 r0 _ (bS (bR (Kd.S_R HVC.out)).2.2 (bG HBB.out HBI.out)) (bR (Kd.S_R HVC.out)).2.1 (bS (bR HVM.out).2.2 HBI.out) (bR HVM.out).2.1 (bS (bR HVN.out).2.2 HBI.out) (bR HVN.out).2.1 (bS (bR HVI.out).2.2 (bQ _ _)) (bR HVI.out).2.1 H5.out).mono ?_);rintro e W8 ⟨vw0,rfl,hv0,hbc⟩;have HVw0:=aK hv0;have HWB:=aK (bN (bG HB.out hHeld.1.out));have HWc:=aK (bG hHeld.1.out hbc);refine ⟨_,rfl,?_⟩;refine hK.out _ _ ⟨⟨bG hHeld.1.out hbc⟩,(yW hbc hHeld.2)⟩ (fun hHeld=>?_);clear hK K;refine nS 36 ?_;refine pS 7 8 #[true,true,true,true,true,true,true,true] ?_;refine kX (by kernel_rfl) ?_;have HW8:=HWc;clear HWc hHeld HVC HVM HVN HBB HVI HBI;clear mc0 mc1 mc2 mc3 mc4;obtain ⟨s3,hs3⟩: ∃s,s=W8.heap.size:=⟨_,rfl⟩;replace HB:=aK (bG HB.out HW8.out);replace BM:=aK ((HW8.out.block _ (cK BM.out)).trans BM.out);have HO:=aK (show w.heap.size<s3 from by rw [hs3];exact cK BM.out)
 have HW0:=aK (show Kd.R (Kd.int .i64) 3 W8 w.heap.size (fun k_=>k_<s3) vw0 r0 from dR (fG (qT HVw0.out) (fun k_ hk_=>by rw [hs3];exact hk_.2.2.1)) (by exact HWB.out));obtain ⟨AW0,cW0,rfl⟩:=cH HW0.out;clear HWB HW8 HVw0
 go_wp2_with fail
 go_at_call 19;refine (pE k A0 c0 l0 cs _ (bS HR0.out HB.out) HC0.out H3.out).mono ?_;rintro e w6 ⟨vx,rfl,hx,hb⟩;replace HB:=aK (bG HB.out hb);replace BM:=aK ((hb.block _ (cK BM.out)).trans BM.out);replace HW0:=aK (cA HW0.out hb);obtain ⟨s4,hs4⟩: ∃s,s=w6.heap.size:=⟨_,rfl⟩;have HX0:=aK (show Kd.S yD 78 w6 w.heap.size (fun k_=>s3≤k_∧k_<s4) vx cs from Kd.S_lower (Kd.S_mono (Kd.S_bound hx) (fun k_ hk_=>⟨by rw [hs3];exact hk_.2.1,by rw [hs4];exact hk_.2.2.1⟩)) (by have:=HO.out;omega));have HOn:=aK (show w.heap.size<s3∧s3≤s4 from ⟨HO.out,by rw [hs3,hs4];exact hb.size⟩);clear HO;have HO:=HOn;clear HOn;clear hx hb hs3;obtain ⟨AX0,cX0,rfl⟩:=jX HX0.out;have mc0:=(bK BM.out 0).trans rfl;have mc1:=(bK BM.out 1).trans rfl;have mc2:=(bK BM.out 2).trans rfl;have mc3:=(bK BM.out 3).trans rfl;have mc4:=(bK BM.out 4).trans rfl
 go_wp2_with fail
 go_at_call 20;refine (qU k A1_0 c1_0 l1_0 a1_1 a1_2 a1_3 A1_4 c1_4 l1_4 l1_0 a1_1 a1_2 a1_3 l1_4 _ (bS HR1_0.out HB.out) HC1_0.out (bS HR1_4.out HB.out) HC1_4.out H4.out).mono ?_;rintro e w7 ⟨vm,vn,rfl,hm_,hn_,hb⟩;clear mc0 mc1 mc2 mc3 mc4;replace HB:=aK (bG HB.out hb);replace BM:=aK ((hb.block _ (cK BM.out)).trans BM.out);replace HW0:=aK (cA HW0.out hb);replace HX0:=aK (sS HX0.out hb);obtain ⟨s5,hs5⟩: ∃s,s=w7.heap.size:=⟨_,rfl⟩;have HX1:=aK (show Kd.R (Kd.int .i64) 3 w7 w.heap.size (fun k_=>s4≤k_∧k_<s5) vm l1_0 from dR (fG (qT hm_) (fun k_ hk_=>⟨by rw [hs4];exact hk_.2.1,by rw [hs5];exact hk_.2.2.1⟩)) (by have:=HO.out;omega));have HX2:=aK (show Kd.R Kd.bool 4 w7 w.heap.size (fun k_=>s4≤k_∧k_<s5) vn l1_4 from dR (fG (qT hn_) (fun k_ hk_=>⟨by rw [hs4];exact hk_.2.1,by rw [hs5];exact hk_.2.2.1⟩)) (by have:=HO.out;omega));have HOn:=aK (show w.heap.size<s3∧s3≤s4∧s4≤s5 from ⟨HO.out.1,HO.out.2,by rw [hs4,hs5];exact hb.size⟩);clear HO;have HO:=HOn;clear HOn;clear hm_ hn_ hb hs4;obtain ⟨AX,cX,rfl⟩:=cH HX1.out;obtain ⟨AY,cY,rfl⟩:=cH HX2.out
 go_wp2_with fail
 go_at_call 21;have BX:=aK (show (w7.alloc (.cells #[.slice AX l1_0.length cX,.int .i64 a1_1,.int .i64 a1_2,.int .i64 a1_3,.slice AY l1_4.length cY] 27 (0,0))).heap[w7.heap.size]? =some (.cells #[.slice AX l1_0.length cX,.int .i64 a1_1,.int .i64 a1_2,.int .i64 a1_3,.slice AY l1_4.length cY] 27 (0,0)) from pX w7 _);have hb:Below w7.heap.size w7 (w7.alloc (.cells #[.slice AX l1_0.length cX,.int .i64 a1_1,.int .i64 a1_2,.int .i64 a1_3,.slice AY l1_4.length cY] 27 (0,0))):=bI (bQ _ _) _
 generalize w7.alloc (.cells #[.slice AX l1_0.length cX,.int .i64 a1_1,.int .i64 a1_2,.int .i64 a1_3,.slice AY l1_4.length cY] 27 (0,0))=w7b at BX hb ⊢;replace HB:=aK (bG HB.out hb);replace BM:=aK ((hb.block _ (cK BM.out)).trans BM.out);replace HW0:=aK (cA HW0.out hb);replace HX0:=aK (sS HX0.out hb);replace HX1:=aK (cA HX1.out hb);replace HX2:=aK (cA HX2.out hb);obtain ⟨gx,hgx⟩: ∃g,g=w7.heap.size:=⟨_,rfl⟩;rw [←hgx] at BX;try rw [←hgx]
 obtain ⟨s6,hs6⟩: ∃s,s=w7b.heap.size:=⟨_,rfl⟩;have HOn:=aK (show w.heap.size<s3∧s3≤s4∧s4≤s5∧s5≤gx from ⟨HO.out.1,HO.out.2.1,HO.out.2.2,by rw [hs5,hgx];exact bV _⟩);clear HO;have HO:=HOn;clear HOn;have HOn:=aK (show w.heap.size<s3∧s3≤s4∧s4≤s5∧s5≤gx∧gx<s6 from ⟨HO.out.1,HO.out.2.1,HO.out.2.2.1,HO.out.2.2.2,by rw [hs6];exact cK BX.out⟩);clear HO;have HO:=HOn;clear HOn;clear hb hs5 hgx;refine (mP k A2 c2 l2 l2 _ (bS HR2.out HB.out) HC2.out H42.out).mono ?_;rintro e w8 ⟨vi,rfl,hi_,hb⟩;replace HB:=aK (bG HB.out hb);replace BM:=aK ((hb.block _ (cK BM.out)).trans BM.out);replace HW0:=aK (cA HW0.out hb);replace HX0:=aK (sS HX0.out hb);replace HX1:=aK (cA HX1.out hb);replace HX2:=aK (cA HX2.out hb);replace BX:=aK ((hb.block _ (cK BX.out)).trans BX.out);obtain ⟨s7,hs7⟩: ∃s,s=w8.heap.size:=⟨_,rfl⟩;have HXI:=aK (show Kd.R (Kd.int .i64) 3 w8 w.heap.size (fun k_=>s6≤k_∧k_<s7) vi l2 from dR (fG (qT hi_) (fun k_ hk_=>⟨by rw [hs6];exact hk_.2.1,by rw [hs7];exact hk_.2.2.1⟩)) (by have:=HO.out;omega));have HOn:=aK (show w.heap.size<s3∧s3≤s4∧s4≤s5∧s5≤gx∧gx<s6∧s6≤s7 from ⟨HO.out.1,HO.out.2.1,HO.out.2.2.1,HO.out.2.2.2.1,HO.out.2.2.2.2,by rw [hs6,hs7];exact hb.size⟩);clear HO;have HO:=HOn;clear HOn;clear hi_ hb hs6;obtain ⟨AI,cI,rfl⟩:=cH HXI.out;have n0:=(bK BX.out 0).trans rfl;have n1:=(bK BX.out 1).trans rfl;have n2:=(bK BX.out 2).trans rfl;have n3:=(bK BX.out 3).trans rfl;have n4:=(bK BX.out 4).trans rfl
 go_wp2_with fail
 go_at_call 22;clear n0 n1 n2 n3 n4;refine (xQ k AX0 cX0 cs AX cX l1_0 a1_1 a1_2 a1_3 AY cY l1_4 AI cI l2 r0 _ (bR (Kd.S_R HX0.out)).2.2 (bR (Kd.S_R HX0.out)).2.1 (bR HX1.out).2.2 (bR HX1.out).2.1 (bR HX2.out).2.2 (bR HX2.out).2.1 (bR HXI.out).2.2 (bR HXI.out).2.1 H6.out).mono ?_;rintro e w9 ⟨vg0,rfl,hg0,hb⟩;replace HB:=aK (bG HB.out hb);replace BM:=aK ((hb.block _ (cK BM.out)).trans BM.out);replace HW0:=aK (cA HW0.out hb);replace HX0:=aK (sS HX0.out hb);replace HX1:=aK (cA HX1.out hb);replace HX2:=aK (cA HX2.out hb);replace BX:=aK ((hb.block _ (cK BX.out)).trans BX.out);replace HXI:=aK (cA HXI.out hb);obtain ⟨s8,hs8⟩: ∃s,s=w9.heap.size:=⟨_,rfl⟩;have HG0:=aK (show Kd.R (Kd.int .i64) 3 w9 w.heap.size (fun k_=>s7≤k_∧k_<s8) vg0 r0 from dR (fG (qT hg0) (fun k_ hk_=>⟨by rw [hs7];exact hk_.2.1,by rw [hs8];exact hk_.2.2.1⟩)) (by have:=HO.out;omega));obtain ⟨AG0,cG0,rfl⟩:=cH HG0.out;have HOn:=aK (show w.heap.size<s3∧s3≤s4∧s4≤s5∧s5≤gx∧gx<s6∧s6≤s7∧s7≤s8 from ⟨HO.out.1,HO.out.2.1,HO.out.2.2.1,HO.out.2.2.2.1,HO.out.2.2.2.2.1,HO.out.2.2.2.2.2,by rw [hs7,hs8];exact hb.size⟩);clear HO;have HO:=HOn;clear HOn;clear hb hs7 hg0
 go_wp2_with fail
 go_at_call 23;refine (gB k AG0 cG0 r0 AW0 cW0 r0 true _ (bR HG0.out).2.2 (bR HG0.out).2.1 (bR HW0.out).2.2 (bR HW0.out).2.1 He0.out).mono ?_;rintro e wq ⟨rfl,hd_⟩;have hb:=hd_.below;replace HB:=aK (bG HB.out hb);replace BM:=aK ((hb.block _ (cK BM.out)).trans BM.out);replace HW0:=aK (cA HW0.out hb);replace HX0:=aK (sS HX0.out hb);replace HX1:=aK (cA HX1.out hb);replace HX2:=aK (cA HX2.out hb);replace BX:=aK ((hb.block _ (cK BX.out)).trans BX.out);replace HXI:=aK (cA HXI.out hb);replace HG0:=aK (cA HG0.out hb);clear hb hd_;clear hs8
 go_wp2_with fail
 go_at_call 19;refine (pE k A0 c0 l0 cs _ (bS HR0.out HB.out) HC0.out H3.out).mono ?_;rintro e w11 ⟨vt,rfl,ht,hb⟩;replace HB:=aK (bG HB.out hb);replace BM:=aK ((hb.block _ (cK BM.out)).trans BM.out);replace HW0:=aK (cA HW0.out hb);replace HX0:=aK (sS HX0.out hb);replace HX1:=aK (cA HX1.out hb);replace HX2:=aK (cA HX2.out hb);replace BX:=aK ((hb.block _ (cK BX.out)).trans BX.out);replace HXI:=aK (cA HXI.out hb);replace HG0:=aK (cA HG0.out hb);have HT:=aK ht;clear hb ht;obtain ⟨AT,cT,rfl⟩:=jX HT.out
 go_wp2_with fail
 go_at_call 24;refine (bAk k AX0 cX0 cs AT cT cs true _ (bR (Kd.S_R HX0.out)).2.2 (bR (Kd.S_R HX0.out)).2.1 (bR (Kd.S_R HT.out)).2.2 (bR (Kd.S_R HT.out)).2.1 Hec.out).mono ?_;rintro e w12 ⟨rfl,hb⟩;replace HB:=aK (bG HB.out hb);replace BM:=aK ((hb.block _ (cK BM.out)).trans BM.out);replace HW0:=aK (cA HW0.out hb);replace HX0:=aK (sS HX0.out hb);replace HX1:=aK (cA HX1.out hb);replace HX2:=aK (cA HX2.out hb);replace BX:=aK ((hb.block _ (cK BX.out)).trans BX.out);replace HXI:=aK (cA HXI.out hb);replace HG0:=aK (cA HG0.out hb);clear hb HT;have mc0:=(bK BM.out 0).trans rfl;have mc1:=(bK BM.out 1).trans rfl;have mc2:=(bK BM.out 2).trans rfl;have mc3:=(bK BM.out 3).trans rfl;have mc4:=(bK BM.out 4).trans rfl;have n0:=(bK BX.out 0).trans rfl;have n1:=(bK BX.out 1).trans rfl;have n2:=(bK BX.out 2).trans rfl;have n3:=(bK BX.out 3).trans rfl;have n4:=(bK BX.out 4).trans rfl;go_wp2;refine sT 5 (S:=fun w'=>Aside0 (Below w12.heap.size w12 w')∧w'.cell? (⟨w.heap.size,0,none⟩)=some (.slice A1_0 l1_0.length c1_0)∧w'.cell? (⟨w.heap.size,1,none⟩)=some (.int .i64 a1_1)∧w'.cell? (⟨w.heap.size,2,none⟩)=some (.int .i64 a1_2)∧w'.cell? (⟨w.heap.size,3,none⟩)=some (.int .i64 a1_3)∧w'.cell? (⟨w.heap.size,4,none⟩)=some (.slice A1_4 l1_4.length c1_4)∧w'.cell? (⟨gx,0,none⟩)=some (.slice AX l1_0.length cX)∧w'.cell? (⟨gx,1,none⟩)=some (.int .i64 a1_1)∧w'.cell? (⟨gx,2,none⟩)=some (.int .i64 a1_2)∧w'.cell? (⟨gx,3,none⟩)=some (.int .i64 a1_3)∧w'.cell? (⟨gx,4,none⟩)=some (.slice AY l1_4.length cY)) (ds:=[]) ⟨⟨bH (bQ _ _)⟩,(by go_simp),(by go_simp),(by go_simp),(by go_simp),(by go_simp),(by go_simp),(by go_simp),(by go_simp),(by go_simp),(by go_simp)⟩ (fun hHeld=>?_);refine tS 0 56 #[true,false,false,false,false] rfl rfl (by kernel_rfl) hHeld xE ?_;refine tS 1 57 #[true,true,false,false,false] rfl rfl (by kernel_rfl) hHeld xE ?_;refine oS 2 58 #[true,true,true,false,false] rfl rfl (fun K hK=>?_);refine gO Tryz.func20 #[.agg #[.slice A1_0 l1_0.length c1_0,.int .i64 a1_1,.int .i64 a1_2,.int .i64 a1_3,.slice A1_4 l1_4.length c1_4]] ?_;(with_reducible refine (qU k A1_0 c1_0 l1_0 a1_1 a1_2 a1_3 A1_4 c1_4 l1_4 l1_0 a1_1 a1_2 a1_3 l1_4 _ (bS HR1_0.out (bG HB.out hHeld.1.out)) HC1_0.out (bS HR1_4.out (bG HB.out hHeld.1.out)) HC1_4.out H4.out).mono ?_);rintro e wb ⟨vm,vn,rfl,hm_,hn_,hbb⟩;have HVM:=aK hm_;have HVN:=aK hn_;have HBB:=aK hbb;obtain ⟨AVM,cVM,rfl⟩:=cH hm_;obtain ⟨AVN,cVN,rfl⟩:=cH hn_;refine ⟨_,rfl,?_⟩;refine hK.out _ _ ⟨⟨bG hHeld.1.out hbb⟩,(bP hbb hHeld.2.1),(bP hbb hHeld.2.2.1),(bP hbb hHeld.2.2.2.1),(bP hbb hHeld.2.2.2.2.1),(bP hbb hHeld.2.2.2.2.2.1),(bP hbb hHeld.2.2.2.2.2.2.1),(bP hbb hHeld.2.2.2.2.2.2.2.1),(bP hbb hHeld.2.2.2.2.2.2.2.2.1),(bP hbb hHeld.2.2.2.2.2.2.2.2.2.1),(bP hbb hHeld.2.2.2.2.2.2.2.2.2.2)⟩ (fun hHeld=>?_);clear hK K;refine nS 58 ?_;refine oS 3 59 #[true,true,true,true,false] rfl rfl (fun K hK=>?_);refine gO Tryz.func25 #[.agg #[.slice AX l1_0.length cX,.int .i64 a1_1,.int .i64 a1_2,.int .i64 a1_3,.slice AY l1_4.length cY],.agg #[.slice AVM l1_0.length cVM,.int .i64 a1_1,.int .i64 a1_2,.int .i64 a1_3,.slice AVN l1_4.length cVN]] ?_;(with_reducible refine (bCf k AX cX l1_0 a1_1 a1_2 a1_3 AY cY l1_4 AVM cVM l1_0 a1_1 a1_2 a1_3 AVN cVN l1_4 true _ (bS (bR HX1.out).2.2 hHeld.1.out) (bR HX1.out).2.1 (bS (bR HX2.out).2.2 hHeld.1.out) (bR HX2.out).2.1 (bS (bR HVM.out).2.2 (bQ _ _)) (bR HVM.out).2.1 (bS (bR HVN.out).2.2 (bQ _ _)) (bR HVN.out).2.1 Hem.out).mono ?_);rintro e wc ⟨rfl,hbc⟩;refine ⟨_,rfl,?_⟩;refine hK.out _ _ ⟨⟨bG hHeld.1.out hbc⟩,(bP hbc hHeld.2.1),(bP hbc hHeld.2.2.1),(bP hbc hHeld.2.2.2.1),(bP hbc hHeld.2.2.2.2.1),(bP hbc hHeld.2.2.2.2.2.1),(bP hbc hHeld.2.2.2.2.2.2.1),(bP hbc hHeld.2.2.2.2.2.2.2.1),(bP hbc hHeld.2.2.2.2.2.2.2.2.1),(bP hbc hHeld.2.2.2.2.2.2.2.2.2.1),(bP hbc hHeld.2.2.2.2.2.2.2.2.2.2)⟩ (fun hHeld=>?_);clear hK K
 refine nS 59 ?_;refine pS 4 60 #[true,true,true,true,true] ?_;refine kX (by kernel_rfl) ?_;have hb:=hHeld.1.out;clear hHeld;replace HB:=aK (bG HB.out hb);replace BM:=aK ((hb.block _ (cK BM.out)).trans BM.out);replace HW0:=aK (cA HW0.out hb);replace HX0:=aK (sS HX0.out hb);replace HX1:=aK (cA HX1.out hb);replace HX2:=aK (cA HX2.out hb);replace BX:=aK ((hb.block _ (cK BX.out)).trans BX.out);replace HXI:=aK (cA HXI.out hb);replace HG0:=aK (cA HG0.out hb);clear hb HVM HVN HBB;clear mc0 mc1 mc2 mc3 mc4;clear n0 n1 n2 n3 n4
 go_wp2_with fail
 go_at_call 21;refine (mP k A2 c2 l2 l2 _ (bS HR2.out HB.out) HC2.out H42.out).mono ?_;rintro e w13 ⟨vt,rfl,ht,hb⟩;replace HB:=aK (bG HB.out hb);replace BM:=aK ((hb.block _ (cK BM.out)).trans BM.out);replace HW0:=aK (cA HW0.out hb);replace HX0:=aK (sS HX0.out hb);replace HX1:=aK (cA HX1.out hb);replace HX2:=aK (cA HX2.out hb);replace BX:=aK ((hb.block _ (cK BX.out)).trans BX.out);replace HXI:=aK (cA HXI.out hb);replace HG0:=aK (cA HG0.out hb);have HT:=aK ht;clear hb ht;obtain ⟨AT,cT,rfl⟩:=cH HT.out
 go_wp2_with fail
 go_at_call 23;refine (gB k AI cI l2 AT cT l2 true _ (bR HXI.out).2.2 (bR HXI.out).2.1 (bR HT.out).2.2 (bR HT.out).2.1 Hei2.out).mono ?_;rintro e w13 ⟨rfl,hd_⟩;have hb:=hd_.below;replace HB:=aK (bG HB.out hb);replace BM:=aK ((hb.block _ (cK BM.out)).trans BM.out);replace HW0:=aK (cA HW0.out hb);replace HX0:=aK (sS HX0.out hb);replace HX1:=aK (cA HX1.out hb);replace HX2:=aK (cA HX2.out hb);replace BX:=aK ((hb.block _ (cK BX.out)).trans BX.out);replace HXI:=aK (cA HXI.out hb);replace HG0:=aK (cA HG0.out hb);clear hb hd_ HT
 go_wp2_with fail
 go_at_call 26;refine (zB k (fun k_=>s3≤k_∧k_<s4) AX0 cs.length cX0 cs 1 k1 w _ HB.out HX0.out HCL.out Hk1.out).mono ?_;rintro e w14 ⟨rfl,hB_,hk⟩;replace HB:=aK hB_;replace BM:=aK (sE BM.out hk (by intro hs;have:=HO.out;omega));replace HW0:=aK (rS HW0.out hk (fun k_ hk_ hs_=>by first|(have:=HO.out;omega)|(rcases hs_ with h_|h_<;>exact h_.2 hk_.2)|exact hk_.2 hs_.2));replace HX1:=aK (rS HX1.out hk (fun k_ hk_ hs_=>by first|(have:=HO.out;omega)|(rcases hs_ with h_|h_<;>exact h_.2 hk_.2)|exact hk_.2 hs_.2));replace HX2:=aK (rS HX2.out hk (fun k_ hk_ hs_=>by first|(have:=HO.out;omega)|(rcases hs_ with h_|h_<;>exact h_.2 hk_.2)|exact hk_.2 hs_.2));replace BX:=aK (sE BX.out hk (by intro hs_;have:=HO.out;omega));replace HXI:=aK (rS HXI.out hk (fun k_ hk_ hs_=>by first|(have:=HO.out;omega)|(rcases hs_ with h_|h_<;>exact h_.2 hk_.2)|exact hk_.2 hs_.2));replace HG0:=aK (rS HG0.out hk (fun k_ hk_ hs_=>by first|(have:=HO.out;omega)|(rcases hs_ with h_|h_<;>exact h_.2 hk_.2)|exact hk_.2 hs_.2));clear hk hB_ HX0;have n0:=(bK BX.out 0).trans rfl;have n1:=(bK BX.out 1).trans rfl;have n2:=(bK BX.out 2).trans rfl;have n3:=(bK BX.out 3).trans rfl;have n4:=(bK BX.out 4).trans rfl
 go_wp2_with fail
 go_at_call 27;refine (bAz k (fun k_=>s4≤k_∧k_<s5) _ l1_0 a1_1 a1_2 a1_3 (fun k_=>s4≤k_∧k_<s5) _ l1_4 k1 k2 y0 y1 w _ HB.out HX1.out HX2.out Hkm.out).mono ?_;rintro e w15 ⟨rfl,_,_,hB_,hk⟩;clear n0 n1 n2 n3 n4;replace HB:=aK hB_;replace BM:=aK (sE BM.out hk (by intro hs;have:=HO.out;omega));replace HW0:=aK (rS HW0.out hk (fun k_ hk_ hs_=>by first|(have:=HO.out;omega)|(rcases hs_ with h_|h_<;>exact h_.2 hk_.2)|exact hk_.2 hs_.2));replace HXI:=aK (rS HXI.out hk (fun k_ hk_ hs_=>by first|(have:=HO.out;omega)|(rcases hs_ with h_|h_<;>exact h_.2 hk_.2)|exact hk_.2 hs_.2));replace HG0:=aK (rS HG0.out hk (fun k_ hk_ hs_=>by first|(have:=HO.out;omega)|(rcases hs_ with h_|h_<;>exact h_.2 hk_.2)|exact hk_.2 hs_.2));clear hk hB_ HX1 HX2 BX
 go_wp2_with fail
 go_at_call 28;refine (pF k (fun k_=>s6≤k_∧k_<s7) _ l2 k2 ki2 zi2 w _ HB.out HXI.out Hki2.out).mono ?_;rintro e w15 ⟨rfl,_,hB_,hk⟩;replace HB:=aK hB_;replace BM:=aK (sE BM.out hk (by intro hs;have:=HO.out;omega));replace HW0:=aK (rS HW0.out hk (fun k_ hk_ hs_=>by first|(have:=HO.out;omega)|(rcases hs_ with h_|h_<;>exact h_.2 hk_.2)|exact hk_.2 hs_.2));replace HG0:=aK (rS HG0.out hk (fun k_ hk_ hs_=>by first|(have:=HO.out;omega)|(rcases hs_ with h_|h_<;>exact h_.2 hk_.2)|exact hk_.2 hs_.2));clear hk hB_ HXI
 go_wp2_with fail
 go_at_call 23;refine (gB k AG0 cG0 r0 AW0 cW0 r0 true _ (bR HG0.out).2.2 (bR HG0.out).2.1 (bR HW0.out).2.2 (bR HW0.out).2.1 He0.out).mono ?_;rintro e wq ⟨rfl,hd_⟩;have hb:=hd_.below;replace HB:=aK (bG HB.out hb);replace BM:=aK ((hb.block _ (cK BM.out)).trans BM.out);replace HW0:=aK (cA HW0.out hb);replace HG0:=aK (cA HG0.out hb);clear hb hd_
 go_wp2_with fail
 go_at_call 28;refine (pF k (fun k_=>s7≤k_∧k_<s8) _ r0 1 q0 u0 w _ HB.out HG0.out Hm0.out).mono ?_;rintro e w16 ⟨rfl,hg_,hB_,hk⟩;have HGn:=aK (show Kd.R (Kd.int .i64) 3 w16 w.heap.size (fun k_=>s7≤k_∧k_<s8) (.slice AG0 r0.length cG0) u0 from qN (qM hg_) HG0.out.1);replace HB:=aK hB_;replace BM:=aK (sE BM.out hk (by intro hs;have:=HO.out;omega));replace HW0:=aK (rS HW0.out hk (fun k_ hk_ hs_=>by first|(have:=HO.out;omega)|(rcases hs_ with h_|h_<;>exact h_.2 hk_.2)|exact hk_.2 hs_.2));replace HG0:=HGn;clear hk hB_ HGn hg_;have HL0:=aK (bR HG0.out).1;rw [HL0.out] at HG0
 go_wp2_with fail
 go_at_call 29;try rw [HL0.out]
 refine (tY k AG0 cG0 u0 1 q0 _ (bR HG0.out).2.2 (bR HG0.out).2.1 Hq0.out).mono ?_;rintro e w17 ⟨rfl,hd_⟩;have hb:=hd_.below;replace HB:=aK (bG HB.out hb);replace BM:=aK ((hb.block _ (cK BM.out)).trans BM.out);replace HW0:=aK (cA HW0.out hb);replace HG0:=aK (cA HG0.out hb);clear hb hd_;have mc0:=(bK BM.out 0).trans rfl;have mc1:=(bK BM.out 1).trans rfl;have mc2:=(bK BM.out 2).trans rfl;have mc3:=(bK BM.out 3).trans rfl;have mc4:=(bK BM.out 4).trans rfl;go_wp2;refine sT 8 (S:=fun w'=>Aside0 (Below w17.heap.size w17 w')∧w'.cell? (⟨w.heap.size,0,none⟩)=some (.slice A1_0 l1_0.length c1_0)∧w'.cell? (⟨w.heap.size,1,none⟩)=some (.int .i64 a1_1)∧w'.cell? (⟨w.heap.size,2,none⟩)=some (.int .i64 a1_2)∧w'.cell? (⟨w.heap.size,3,none⟩)=some (.int .i64 a1_3)∧w'.cell? (⟨w.heap.size,4,none⟩)=some (.slice A1_4 l1_4.length c1_4)) (ds:=[]) ⟨⟨bH (bQ _ _)⟩,(by go_simp),(by go_simp),(by go_simp),(by go_simp),(by go_simp)⟩ (fun hHeld=>?_);refine pS 0 94 #[true,false,false,false,false,false,false,false] ?_;refine pS 4 98 #[true,false,false,false,true,false,false,false] ?_;refine tS 2 96 #[true,false,true,false,true,false,false,false] rfl rfl (by kernel_rfl) hHeld pD ?_;refine oS 1 95 #[true,true,true,false,true,false,false,false] rfl rfl (fun K hK=>?_);refine gO Tryz.func19 #[.slice A0 l0.length c0] ?_;(with_reducible refine (pE k A0 c0 l0 cs _ (bS HR0.out (bG HB.out hHeld.1.out)) HC0.out H3.out).mono ?_);rintro e wa ⟨vc,rfl,hc,hba⟩;have HVC:=aK hc;obtain ⟨AVC,cVC,rfl⟩:=jX hc;refine ⟨_,rfl,?_⟩;refine hK.out _ _ ⟨⟨bG hHeld.1.out hba⟩,(yW hba hHeld.2)⟩ (fun hHeld=>?_);clear hK K;refine nS 95 ?_;refine oS 3 97 #[true,true,true,true,true,false,false,false] rfl rfl (fun K hK=>?_);refine gO Tryz.func20 #[.agg #[.slice A1_0 l1_0.length c1_0,.int .i64 a1_1,.int .i64 a1_2,.int .i64 a1_3,.slice A1_4 l1_4.length c1_4]] ?_;(with_reducible refine (qU k A1_0 c1_0 l1_0 a1_1 a1_2 a1_3 A1_4 c1_4 l1_4 l1_0 a1_1 a1_2 a1_3 l1_4 _ (bS HR1_0.out (bG HB.out hHeld.1.out)) HC1_0.out (bS HR1_4.out (bG HB.out hHeld.1.out)) HC1_4.out H4.out).mono ?_);rintro e wb ⟨vm,vn,rfl,hm_,hn_,hbb⟩;have HVM:=aK hm_;have HVN:=aK hn_;have HBB:=aK hbb;obtain ⟨AVM,cVM,rfl⟩:=cH hm_;obtain ⟨AVN,cVN,rfl⟩:=cH hn_;refine ⟨_,rfl,?_⟩;refine hK.out _ _ ⟨⟨bG hHeld.1.out hbb⟩,(yW hbb hHeld.2)⟩ (fun hHeld=>?_);clear hK K;refine nS 97 ?_;refine oS 5 99 #[true,true,true,true,true,true,false,false] rfl rfl (fun K hK=>?_);refine gO Tryz.func21 #[.slice A2 l2.length c2] ?_;(with_reducible refine (mP k A2 c2 l2 l2 _ (bS HR2.out (bG HB.out hHeld.1.out)) HC2.out H42.out).mono ?_);rintro e wi ⟨vi,rfl,hi_,hbi⟩;have HVI:=aK hi_;have HBI:=aK hbi;obtain ⟨AVI,cVI,rfl⟩:=cH hi_;refine ⟨_,rfl,?_⟩;refine hK.out _ _ ⟨⟨bG hHeld.1.out hbi⟩,(yW hbi hHeld.2)⟩ (fun hHeld=>?_);clear hK K;refine nS 99 ?_;refine oS 6 100 #[true,true,true,true,true,true,true,false] rfl rfl (fun K hK=>?_);refine gO Tryz.func22 #[.slice AVC cs.length cVC,.agg #[.slice AVM l1_0.length cVM,.int .i64 a1_1,.int .i64 a1_2,.int .i64 a1_3,.slice AVN l1_4.length cVN],.slice AVI l2.length cVI] ?_;(with_reducible refine (xQ k AVC cVC cs AVM cVM l1_0 a1_1 a1_2 a1_3 AVN cVN l1_4 AVI cVI l2 r0 _ (bS (bR (Kd.S_R HVC.out)).2.2 (bG HBB.out HBI.out)) (bR (Kd.S_R HVC.out)).2.1 (bS (bR HVM.out).2.2 HBI.out) (bR HVM.out).2.1 (bS (bR HVN.out).2.2 HBI.out) (bR HVN.out).2.1 (bS (bR HVI.out).2.2 (bQ _ _)) (bR HVI.out).2.1 H6.out).mono ?_);rintro e W8 ⟨vw0,rfl,hv0,hbc⟩;have HVw0:=aK hv0;have HWB:=aK (bN (bG HB.out hHeld.1.out));have HWc:=aK (bG hHeld.1.out hbc);refine ⟨_,rfl,?_⟩;refine hK.out _ _ ⟨⟨bG hHeld.1.out hbc⟩,(yW hbc hHeld.2)⟩ (fun hHeld=>?_);clear hK K;refine nS 100 ?_;refine pS 7 16 #[true,true,true,true,true,true,true,true] ?_;refine kX (by kernel_rfl) ?_;have HW8:=HWc;clear HWc hHeld HVC HVM HVN HBB HVI HBI;clear mc0 mc1 mc2 mc3 mc4
 replace HB:=aK (bG HB.out HW8.out);replace BM:=aK ((HW8.out.block _ (cK BM.out)).trans BM.out);replace HW0:=aK (cA HW0.out HW8.out);replace HG0:=aK (cA HG0.out HW8.out);have HH0:=HVw0;obtain ⟨AH0,cH0,rfl⟩:=cH HH0.out
 go_wp2_with fail
 go_at_call 23;try rw [←HL0.out]
 refine (gB k AH0 cH0 r0 AW0 cW0 r0 true _ (bR HH0.out).2.2 (bR HH0.out).2.1 (bR HW0.out).2.2 (bR HW0.out).2.1 He0.out).mono ?_;rintro e wq ⟨rfl,hd_⟩;have hb:=hd_.below;replace HB:=aK (bG HB.out hb);replace BM:=aK ((hb.block _ (cK BM.out)).trans BM.out);replace HW0:=aK (cA HW0.out hb);replace HG0:=aK (cA HG0.out hb);replace HH0:=aK (cA HH0.out hb);clear hb hd_
 go_wp2_with fail
 go_at_call 29;try rw [HL0.out]
 refine (tY k AG0 cG0 u0 1 q0 _ (bR HG0.out).2.2 (bR HG0.out).2.1 Hq0.out).mono ?_;rintro e w17 ⟨rfl,hd_⟩;have hb:=hd_.below;replace HB:=aK (bG HB.out hb);replace BM:=aK ((hb.block _ (cK BM.out)).trans BM.out);replace HW0:=aK (cA HW0.out hb);replace HG0:=aK (cA HG0.out hb);replace HH0:=aK (cA HH0.out hb);clear hb hd_;go_wp2;go_ret;exact ⟨rfl,HB.out⟩
section
open Go.ChangeShapes Go.WideShapes Go.ChangeAt Go.Deep
def bFo {H α:Type} (enc:TypeId×Value→H) (P:Program) (w:World) (d:Kd α) (G:α→Prop) (t:TypeId):Prop:=
  ∀(fuel:Nat) (cs:List Value) (x:DataW H×List MemPlace),DataW.trod enc P w 0 (fun _=>true) true fuel t cs=some x→∃a:α,d.K w a cs∧G a
variable {H α:Type} {enc:TypeId×Value→H} {P:Program} {w:World} {d:Kd α} {G:α→Prop} {t e:TypeId}
theorem sP {k:IntKind} (ht:P.underlying t=some (.int k)):bFo enc P w (Kd.int k) (fun n=>(Lit.int k n).wf=true) t:=by
 intro fuel cs x h;obtain ⟨n,rfl,_,hw⟩:=DataW.trod_int ht h;exact ⟨n,rfl,hw⟩
theorem bIm (ht:P.underlying t=some .bool):bFo enc P w Kd.bool (fun _=>True) t:=by
 intro fuel cs x h;obtain ⟨b,rfl,_⟩:=DataW.trod_bool ht h;exact ⟨b,rfl,gG⟩
def GL (G:α→Prop) (xs:List α):Prop:=xs.length≤9223372036854775807∧∀x∈xs,G x
theorem bJo {Q : Nat → α → Prop} : ∀ n : Nat, (∀ i, i < n → ∃ p, Q i p) → ∃ xs : List α, xs.length = n ∧ ∀ i p, xs[i]? = some p → Q i p
  |0,_=>⟨[],rfl,fun i p h=>by simp at h⟩
  | n + 1, h => by
    obtain ⟨xs,hl,hx⟩:=bJo n (fun i hi=>h i (by omega));obtain ⟨p,hp⟩:=h n (by omega);refine ⟨xs++[p],by simp [hl],fun i q hq=>?_⟩;by_cases hi:i<n
    · rw [nB (by omega)] at hq
      exact hx i q hq
    · have : i = n := by
        have:=(dZ.1 hq).1
        simp at this;omega
      subst this;rw [qA (by omega)] at hq;simp [hl] at hq
      subst hq;exact hp
theorem sX (ht:P.underlying t=some (.slice e)) (hs:d.sz=P.cellsOf e) (he:bFo enc P w d G e):bFo enc P w (Kd.slice e d) (GL G) t:=by
 intro fuel cs x h;rcases open_slice ht h with ⟨rfl,_⟩|⟨a,len,cap,m,n,D,Pl,rfl,hb,hl,hm,hmm,hx,hi⟩
 ·exact ⟨[],⟨none,0,rfl,bV _,Kd.C_nil _ _⟩,by simp [GL]⟩
 ·have hmc : m = cap := by simpa using hmm
  obtain ⟨xs,hlen,hxs⟩:=bJo (Q:=fun i p=> ∃c,c.length=d.sz∧d.K w p c∧(∀j u,c[j]? =some u→w.cell? (a.add (i*d.sz+j))=some u)∧G p) len (fun i hil=>by
   obtain ⟨cs',hc,ht'⟩:=hi i (by omega);obtain ⟨p,hK,hG⟩:=he n cs' _ ht';obtain ⟨_,hcl,hat⟩:=World.cells?_some hc;refine ⟨p,cs',d.K_len hK,hK,fun j u hu=>?_,hG⟩;have hj:j<P.cellsOf e:=by rw [←hcl];exact (dZ.1 hu).1
   have:=hat j hj
   rw [Go.Deep.add_add] at this
   rw [hs,this,hu])
  subst hlen;refine ⟨xs,⟨some a,cap,rfl,hl,rfl,?_,fun _=>⟨a,rfl,fun j p hj=>?_⟩⟩,?_,fun x hx=>?_⟩
  ·have : maxLen = 9223372036854775807 := rfl
   omega
  ·obtain ⟨c, h1, h2, h3, _⟩ := hxs j p hj
   exact ⟨c,h1,h2,h3⟩
  ·have : maxLen = 9223372036854775807 := rfl
   omega
  ·obtain ⟨i, hi', rfl⟩ := pC hx
   obtain ⟨c,_,_,_,hG⟩:=hxs i _ (bO hi');exact hG
end
section
open Go.ChangeShapes Go.WideShapes Go.ChangeAt Go.Deep
def G75 (x:S75):Prop:=(fun n:Int=>(Lit.int .i64 n).wf=true) x.f0∧(GL (fun n:Int=>(Lit.int .i64 n).wf=true)) x.f1
theorem opens75 {H:Type} {enc:TypeId×Value→H} {w:World}:bFo enc Tryz.prog w k75 G75 75:=by
  intro fuel cs x h;obtain ⟨xs,n,rfl,hx,hl,hxs,hg⟩:=DataW.trod_struct Tryz.underlying75 h;have hl2:cs.length=2:=hl.trans (by kernel_rfl)
  clear hx hl h
  match cs,hl2,hg with
  | [c0, c1], _, hg =>
    have g0:=hg 0 _ rfl;obtain ⟨y0,e0⟩: ∃y,xs[0]? =some y:=⟨xs[0]'(by rw [hxs];decide),bO _⟩;obtain ⟨a0,K0,G0_⟩:=(sP Tryz.underlying3) n _ _ (g0.trans e0);have g1:=hg 1 _ rfl;obtain ⟨y1,e1⟩: ∃y,xs[1]? =some y:=⟨xs[1]'(by rw [hxs];decide),bO _⟩;obtain ⟨a1,K1,G1_⟩:=(sX Tryz.underlying24 (by kernel_rfl) (sP Tryz.underlying3)) n _ _ (g1.trans e1);exact ⟨⟨a0,a1⟩,⟨[c0],[c1],rfl,K0,K1⟩,⟨G0_,G1_⟩⟩
def G43 (x:S43):Prop:=(GL (fun n:Int=>(Lit.int .i64 n).wf=true)) x.f0∧(fun n:Int=>(Lit.int .i64 n).wf=true) x.f1∧(fun n:Int=>(Lit.int .i64 n).wf=true) x.f2∧(fun n:Int=>(Lit.int .i64 n).wf=true) x.f3∧(GL (fun _:Bool=>True)) x.f4
theorem opens43 {H:Type} {enc:TypeId×Value→H} {w:World}:bFo enc Tryz.prog w k43 G43 43:=by
  intro fuel cs x h;obtain ⟨xs,n,rfl,hx,hl,hxs,hg⟩:=DataW.trod_struct Tryz.underlying43 h;have hl2:cs.length=5:=hl.trans (by kernel_rfl)
  clear hx hl h
  match cs,hl2,hg with
  | [c0, c1, c2, c3, c4], _, hg =>
    have g0:=hg 0 _ rfl;obtain ⟨y0,e0⟩: ∃y,xs[0]? =some y:=⟨xs[0]'(by rw [hxs];decide),bO _⟩;obtain ⟨a0,K0,G0_⟩:=(sX Tryz.underlying24 (by kernel_rfl) (sP Tryz.underlying3)) n _ _ (g0.trans e0);have g1:=hg 1 _ rfl;obtain ⟨y1,e1⟩: ∃y,xs[1]? =some y:=⟨xs[1]'(by rw [hxs];decide),bO _⟩;obtain ⟨a1,K1,G1_⟩:=(sP Tryz.underlying3) n _ _ (g1.trans e1);have g2:=hg 2 _ rfl;obtain ⟨y2,e2⟩: ∃y,xs[2]? =some y:=⟨xs[2]'(by rw [hxs];decide),bO _⟩;obtain ⟨a2,K2,G2_⟩:=(sP Tryz.underlying3) n _ _ (g2.trans e2);have g3:=hg 3 _ rfl;obtain ⟨y3,e3⟩: ∃y,xs[3]? =some y:=⟨xs[3]'(by rw [hxs];decide),bO _⟩;obtain ⟨a3,K3,G3_⟩:=(sP Tryz.underlying3) n _ _ (g3.trans e3);have g4:=hg 4 _ rfl;obtain ⟨y4,e4⟩: ∃y,xs[4]? =some y:=⟨xs[4]'(by rw [hxs];decide),bO _⟩;obtain ⟨a4,K4,G4_⟩:=(sX Tryz.underlying25 (by kernel_rfl) (bIm Tryz.underlying4)) n _ _ (g4.trans e4);exact ⟨⟨a0,a1,a2,a3,a4⟩,⟨[c0],[c1,c2,c3,c4],rfl,K0,⟨[c1],[c2,c3,c4],rfl,K1,⟨[c2],[c3,c4],rfl,K2,⟨[c3],[c4],rfl,K3,K4⟩⟩⟩⟩,⟨G0_,G1_,G2_,G3_,G4_⟩⟩
end
def yC:Prop:= ∀(a0:List (S75)) (a1:S43) (a2:List Int),(GL G75) a0→G43 a1→(GL (fun n:Int=>(Lit.int .i64 n).wf=true)) a2→∃k,nU k a0 a1.f0 a1.f1 a1.f2 a1.f3 a1.f4 a2=some true
end Go.Proofs.YtbaklikaoleplaaGreat.K
namespace Go.Proofs.YtbaklikaoleplaaGreat.Pure
open Go.RowKit Go.Proofs.YtbaklikaoleplaaGreat.K Go.Proofs.YtbaklikaoleplaaGreatW.PrintWords Go.Proofs.YtbaklikaoleplaaGreatW.PrintLast Go.Proofs.YtbaklikaoleplaaGreatW.PrintMore
set_option linter.unusedVariables false
set_option linter.unusedSimpArgs false
theorem bFk (xs ys:List Int) (hl:xs.length=ys.length) (hb:xs.length≤140737488355328) (d:Nat): ∀(k:Nat) (i:Nat),i≤xs.length→xs.length - i=d→d<k→
  gY k xs ys i=some (decide (xs.drop i=ys.drop i)):=by
 induction d with
 |zero=>
  intro k i hi hd hk;obtain ⟨k,rfl⟩: ∃m,k=m+1:=⟨k - 1,by omega⟩;have:i=xs.length:=by omega
  subst this;simp only [gY]
  rw [if_neg (by omega)];simp [hl]
 | succ d ih =>
  intro k i hi hd hk;obtain ⟨k,rfl⟩: ∃m,k=m+1:=⟨k - 1,by omega⟩;simp only [gY]
  rw [if_pos (by omega),if_pos (by omega),if_pos (by omega),jA (n:=xs.length) (by omega) (by omega) (by omega),rY,rY,yF xs i 0 (by omega),yF ys i 0 (by omega)];by_cases h:xs.getD i 0=ys.getD i 0
  ·rw [if_pos h]
   have:=ih k (i+1) (by omega) (by omega) (by omega)
   rw [show ((i:Int)+1)=((i+1:Nat):Int) from by omega,this];simp only [List.cons.injEq,h,true_and]
  ·rw [if_neg h]
   simp only [List.cons.injEq,h,false_and,decide_false]
theorem bCi (xs ys:List Int) (hb:xs.length≤140737488355328):Ev (fun k=>gP k xs ys) (decide (xs=ys)):=by
 by_cases hl:xs.length=ys.length
 ·refine Ev.of (k := xs.length + 1) (yB xs ys) ?_
  simp only [gP]
  rw [if_pos (by omega)];have:=bFk xs ys hl hb xs.length (xs.length+1) 0 (by omega) (by omega) (by omega)
  simpa using this
 ·refine Ev.of (k := 0) (yB xs ys) ?_
  simp only [gP]
  rw [if_neg (by omega)];have:xs≠ys:=fun h=>hl (by rw [h])
  simp [this]
abbrev Cs:=List S78
def zW (cs:Cs) (c:Int):Int:=(bX cs c).f0
def pM (cs:Cs) (c:Int):List Int:=(bX cs c).f1
def yZ (n t:Int):Bool:=decide (t=1∨t=3∨t=4∨(8≤t∧t<8+n))
def xR (cs : Cs) (i : Int) : Bool :=
  (pM cs i).all (yZ cs.length)&&
    (if i=0 then decide (zW cs 0= -1∧pM cs 0=[]) else if i=1 then decide (zW cs 1=0∧pM cs 1=[1]) else decide ((0≤zW cs i∧zW cs i<i)∧(pM cs i).length≤2))
def sD (cs:Cs):Bool:=decide (2≤cs.length∧cs.length≤5)&&(List.range cs.length).all (fun i:Nat=>xR cs i)
theorem yH {cs:Cs} (h:sD cs=true):2≤cs.length∧cs.length≤5:=by
  simp only [sD,dS,dJ] at h;exact h.1
theorem bGe {cs:Cs} (h:sD cs=true) {i:Int} (h0:0≤i) (h1:i<cs.length):xR cs i=true:=by
 simp only [sD,dS,dJ,nH,List.mem_range] at h;have:=h.2 i.toNat (by omega)
 rwa [tR h0] at this
theorem bEg {cs:Cs} (h:sD cs=true) {i:Int} (h0:0<i) (h1:i<cs.length):0≤zW cs i∧zW cs i<i:=by
 have:=bGe h (i:=i) (by omega) h1
 simp only [xR,dS] at this;have h2:=this.2;rw [if_neg (by omega)] at h2;by_cases h3:i=1
 ·subst h3
  simp only [qL,dJ] at h2;omega
 ·rw [if_neg h3, dJ] at h2
  exact h2.1
def upN (cs:Cs):Nat→Int→Int→Bool
  |0,a,b=>decide (a=b)
  |n+1,a,b=>decide (a=b)||(decide (0<a)&&upN cs n (zW cs a) b)
theorem bLk {cs:Cs} (h:sD cs=true): ∀(n:Nat) (a b:Int),0≤a→a<cs.length→a.toNat≤n→upN cs (n+1) a b=upN cs n a b
 |0,a,b,h0,h1,hn=>by
  have:a=0:=by omega
  subst this;simp [upN]
 | n + 1, a, b, h0, h1, hn => by
  have e1:upN cs (n+1+1) a b=(decide (a=b)||(decide (0<a)&&upN cs (n+1) (zW cs a) b)):=rfl
  have e2:upN cs (n+1) a b=(decide (a=b)||(decide (0<a)&&upN cs n (zW cs a) b)):=rfl
  rw [e1,e2];by_cases hp:0<a
  ·have hs := bEg h hp h1
   rw [bLk h n (zW cs a) b (by omega) (by omega) (by omega)]
  ·simp [hp]
theorem cls_ind {cs:Cs} (h:sD cs=true) {P:Int→Prop} (h00:P 0) (hs: ∀a:Int,0<a→a<cs.length→P (zW cs a)→P a): ∀a:Int,0≤a→a<cs.length→P a:=by
  suffices H: ∀(n:Nat) (a:Int),a.toNat≤n→0≤a→a<cs.length→P a from fun a h0 h1=>H a.toNat a (bV _) h0 h1
  intro n
  induction n with
  | zero => intro a hn h0 h1; have : a = 0 := by omega
            subst this;exact h00
  | succ n ih =>
    intro a hn h0 h1;by_cases hp:0<a
    · have := bEg h hp h1
      exact hs a hp h1 (ih _ (by omega) (by omega) (by omega))
    · have : a = 0 := by omega
      subst this;exact h00
theorem kZ (a b c:Int):fC a b c=some (decide (b≤a∧a≤c)):=by
 unfold fC;by_cases h:a≥b
 ·rw [if_pos h];simp [show b≤a from h]
 ·rw [if_neg h];simp [show¬b≤a from h]
theorem bHt (fs:List Int) (P:Int→Bool) (i:Nat) (h:i<fs.length):(fs.drop i).all P=(P (fs.getD i 0)&&(fs.drop (i+1)).all P):=by
  rw [yF fs i 0 h,List.all_cons]
theorem bDc (cs:Cs) (t:Int) (hl:cs.length≤1000):rV cs t=some (yZ cs.length t):=by
 unfold rV yZ;by_cases c1:t=1
 ·rw [if_pos c1];simp [c1]
 rw [if_neg c1];by_cases c2:t=3
 ·rw [if_pos c2];simp [c2]
 rw [if_neg c2];by_cases c3:t=4
 ·rw [if_pos c3];simp [c3]
 rw [if_neg c3,dX (n:=8+(cs.length:Int)) (by omega) (by omega),dX (by omega) (by omega),kZ];simp only [bD,fE]
 rw [vJ];simp only [dJ];omega
def bGg (cs:Cs) (i su:Int) (fs:List Int):Bool:=
  if i=0 then decide (su= -1∧fs=[]) else if i=1 then decide (su=0∧fs=[1]) else decide ((0≤su∧su<i)∧fs.length≤2)
theorem len_nil (fs:List Int):((fs.length:Int)==0)=decide (fs=[]):=by cases fs<;>simp;omega
theorem bDd (cs:Cs) (c su:Int) (fs:List Int) (hl:cs.length≤1000) (hf:fs.length≤140737488355328) (hc:0≤c∧c<1000) (d:Nat): ∀(k i:Nat),i≤fs.length→fs.length - i=d→d<k→
  jZ k cs c i su fs=some ((fs.drop i).all (yZ cs.length)&&bGg cs c su fs):=by
 induction d with
 | zero =>
  intro k i hi hd hk;obtain ⟨k,rfl⟩: ∃m,k=m+1:=⟨k - 1,by omega⟩;have:i=fs.length:=by omega
  subst this;simp only [jZ]
  rw [if_neg (by omega),List.drop_length];simp only [List.all_nil,jD]
  unfold bGg;by_cases c0:c=0
  ·rw [if_pos c0, if_pos c0]
   by_cases s0:su= -1
   ·rw [if_pos s0,len_nil];simp [s0]
   ·rw [if_neg s0];simp [s0]
  rw [if_neg c0,if_neg c0];by_cases c1:c=1
  ·rw [if_pos c1, if_pos c1]
   by_cases s0:su=0
   ·rw [if_pos s0]
    by_cases l1:(fs.length:Int)=1
    ·rw [if_pos l1, if_pos (by omega)]
     obtain ⟨x,rfl⟩:=List.length_eq_one_iff.1 (show fs.length=1 by omega);by_cases e:x=1
     ·simp [rd,s0,e]
     ·simp [rd,s0,e]
    ·rw [if_neg l1]
     have:fs≠[1]:=fun e=>l1 (by rw [e];rfl)
     simp [this]
   ·rw [if_neg s0];simp [s0]
  rw [if_neg c1,if_neg c1,dX (by omega) (by omega),kZ];simp only [bD,dJ]
  by_cases z:0≤su∧su≤c - 1
  ·rw [if_pos z]
   congr 1
   rw [vJ];simp only [dJ];omega
  ·rw [if_neg z]
   congr 1
   rw [vJ];simp only [dJ,nI,false_iff];omega
 | succ d ih =>
  intro k i hi hd hk;obtain ⟨k,rfl⟩: ∃m,k=m+1:=⟨k - 1,by omega⟩;simp only [jZ]
  rw [if_pos (by omega),if_pos (by omega),bDc cs _ hl,rY,bHt fs _ i (by omega)];simp only [bD]
  cases hq:yZ cs.length (fs.getD i 0) with
  |false=>simp
  |true=>
   simp only [qL,jD]
   rw [jA (n:=fs.length) (by omega) (by omega) (by omega),show ((i:Int)+1)=((i+1:Nat):Int) from by omega];exact ih k (i+1) (by omega) (by omega) (by omega)
def bFa (cs:Cs):Prop:= ∀i:Int,(pM cs i).length≤1048576
theorem bDe {cs:Cs} (hl:cs.length≤1000) (hf:bFa cs) {i:Int} (h0:0≤i) (h1:i<cs.length) (k:Nat) (hk:1048577≤k):rW k cs i=some (xR cs i):=by
 unfold rW;rw [if_pos h0,if_pos h1];have:=hf i
 have e:=bDd cs i (zW cs i) (pM cs i) hl (by omega) ⟨h0,by omega⟩ (pM cs i).length k 0 (by omega) (by omega) (by omega)
 have e2:jZ k cs i 0 (zW cs i) (pM cs i)=some (xR cs i):=by
  rw [show ((0:Nat):Int)=0 from rfl] at e;rw [e,nM];unfold xR bGg;by_cases c0:i=0
  ·subst c0;rfl
  by_cases c1:i=1
  ·subst c1;rfl
  rw [if_neg c0,if_neg c1,if_neg c0,if_neg c1]
 exact e2
theorem zJ (n i:Nat) (P:Nat→Bool) (h:i<n):((List.range n).drop i).all P=(P i&&((List.range n).drop (i+1)).all P):=by
  rw [fO (by simpa using h),List.all_cons];simp
theorem bBj {cs:Cs} (hl:cs.length≤1000) (hf:bFa cs) (d:Nat): ∀(k i:Nat),i≤cs.length→cs.length - i=d→d+1048577≤k→
  jP k cs i=some (((List.range cs.length).drop i).all (fun j:Nat=>xR cs j)):=by
 induction d with
 |zero=>
  intro k i hi hd hk;obtain ⟨k,rfl⟩: ∃m,k=m+1:=⟨k - 1,by omega⟩;have:i=cs.length:=by omega
  subst this;simp only [jP]
  rw [if_neg (by omega),List.drop_of_length_le (by simp)];rfl
 | succ d ih =>
  intro k i hi hd hk;obtain ⟨k,rfl⟩: ∃m,k=m+1:=⟨k - 1,by omega⟩;simp only [jP]
  rw [if_pos (by omega),bDe hl hf (by omega) (by omega) k (by omega),zJ _ _ _ (by omega)];simp only [bD]
  cases hq:xR cs i with
  |false=>simp
  |true=>
   simp only [qL,jD]
   rw [jA (n:=cs.length) (by omega) (by omega) (by omega),show ((i:Int)+1)=((i+1:Nat):Int) from by omega];exact ih k (i+1) (by omega) (by omega) (by omega)
theorem xJ {cs:Cs} (hf:bFa cs) (k:Nat) (hk:2000000≤k):pI k cs=some (sD cs):=by
 unfold pI sD;rw [kZ];simp only [bD,dJ]
 by_cases hl:(2:Int)≤cs.length∧(cs.length:Int)≤5
 ·rw [if_pos hl, show decide (2 ≤ cs.length ∧ cs.length ≤ 5) = true from bB (by omega)]
  have:=bBj (cs:=cs) (by omega) hf cs.length k 0 (by omega) (by omega) (by omega)
  rw [show ((0:Nat):Int)=0 from rfl] at this;rw [this,nM,jD]
 ·rw [if_neg hl,show decide (2≤cs.length∧cs.length≤5)=false from bJ (by omega),Bool.false_and]
theorem bBr (cs:Cs) (t:Int) (hl:cs.length≤1000):pJ cs.length t=some (yZ cs.length t):=by
 unfold pJ bJs yZ;rw [if_pos (by omega)]
 congr 1
 rw [vJ];simp only [dS,dJ];omega
def bMk (cs:Cs) (i:Int):Bool:=(decide (i≤1)||decide (0≤zW cs i∧zW cs i<i))&&(decide ((pM cs i).length≤2)&&(pM cs i).all (yZ cs.length))
theorem bBs (cs:Cs) (hl:cs.length≤1000) (i:Nat) (hi:i<1000) (fs:List Int) (hf:fs.length≤2) (R:Bool) (K:Nat) (hR: ∀k,K≤k→jQ k cs cs cs.length ((i+1:Nat):Int)=some R) (d:Nat): ∀(k j:Nat),j≤fs.length→fs.length - j=d→K+d+1≤k→
  kI k cs cs cs.length i fs fs.length j=some ((fs.drop j).all (yZ cs.length)&&R):=by
 induction d with
 |zero=>
  intro k j hj hd hk;obtain ⟨k,rfl⟩: ∃m,k=m+1:=⟨k - 1,by omega⟩;have:j=fs.length:=by omega
  subst this;simp only [kI]
  rw [if_neg (by omega),List.drop_length,jA (n:=1000) (by omega) (by omega) (by omega),show ((i:Int)+1)=((i+1:Nat):Int) from by omega,hR k (by omega)];simp
 | succ d ih =>
  intro k j hj hd hk;obtain ⟨k,rfl⟩: ∃m,k=m+1:=⟨k - 1,by omega⟩;simp only [kI]
  rw [if_pos (by omega),if_pos (by omega),if_pos (by omega),rY,bBr cs _ hl,bHt fs _ j (by omega)];simp only [bD]
  cases hq:yZ cs.length (fs.getD j 0) with
  |false=>simp
  |true=>
   simp only [qL,jD]
   rw [jA (n:=fs.length) (by omega) (by omega) (by omega),show ((j:Int)+1)=((j+1:Nat):Int) from by omega];exact ih k (j+1) (by omega) (by omega) (by omega)
theorem bBt (cs:Cs) (hl:cs.length≤5) (d:Nat): ∀(i:Nat),i≤cs.length→cs.length - i=d→∀k,10*d+10≤k→
  jQ k cs cs cs.length i=some (((List.range cs.length).drop i).all (fun j:Nat=>bMk cs j)):=by
 induction d with
 |zero=>
  intro i hi hd k hk;obtain ⟨k,rfl⟩: ∃m,k=m+1:=⟨k - 1,by omega⟩;have:i=cs.length:=by omega
  subst this;simp only [jQ]
  rw [if_neg (by omega),List.drop_of_length_le (by simp)];rfl
 | succ d ih =>
  intro i hi hd k hk;obtain ⟨k,rfl⟩: ∃m,k=m+1:=⟨k - 1,by omega⟩;obtain ⟨k,rfl⟩: ∃m,k=m+1:=⟨k - 1,by omega⟩;rw [zJ _ _ _ (by omega)]
  have hj:hO (k+1) cs cs cs.length i false (zW cs i) (pM cs i)=some (decide ((pM cs i).length≤2)&&((pM cs i).all (yZ cs.length)&&((List.range cs.length).drop (i+1)).all (fun j:Nat=>bMk cs j))):=by
   simp only [hO]
   rw [if_neg (by simp)];by_cases h2:((pM cs i).length:Int)>2
   ·rw [if_pos h2,bJ (by omega)];rfl
   ·rw [if_neg h2, bB (show (pM cs i).length ≤ 2 by omega), jD]
    have:=bBs cs (by omega) i (by omega) (pM cs i) (by omega) _ (10*d+10) (fun k hk=>ih (i+1) (by omega) (by omega) k hk) (pM cs i).length k 0 (by omega) (by omega) (by omega)
    rw [show ((0:Nat):Int)=0 from rfl,nM] at this;exact this
  have hjt:hO (k+1) cs cs cs.length i true (zW cs i) (pM cs i)=some false:=by simp [hO]
  simp only [jQ]
  rw [if_pos (by omega),if_pos (by omega),if_pos (by omega)];rw [show (bX cs (i:Int)).f0=zW cs i from rfl,show (bX cs (i:Int)).f1=pM cs i from rfl];have hQ:bMk cs i=((decide ((i:Int)≤1)||decide (0≤zW cs i∧zW cs i<i))&&(decide ((pM cs i).length≤2)&&(pM cs i).all (yZ cs.length))):=rfl
  rw [hQ];generalize ((List.range cs.length).drop (i+1)).all (fun j:Nat=>bMk cs j)=T at*;by_cases h1:(i:Int)>1
  ·rw [if_pos h1]
   by_cases hs:zW cs i<0
   ·rw [if_pos hs,hjt,bJ (show¬(i:Int)≤1 by omega),bJ (show¬(0≤zW cs i∧zW cs i<i) by omega)];rfl
   ·rw [if_neg hs]
    by_cases hs2:zW cs i≥i
    ·rw [bB hs2,hjt,bJ (show¬(i:Int)≤1 by omega),bJ (show¬(0≤zW cs i∧zW cs i<i) by omega)];rfl
    ·rw [bJ hs2, hj, bB (show (0 ≤ zW cs i ∧ zW cs i < i) by omega)]
     simp [Bool.and_assoc]
  ·rw [if_neg h1, hj, bB (show (i : Int) ≤ 1 by omega)]
   simp [Bool.and_assoc]
theorem nV (cs:Cs) (k:Nat) (hk:1000≤k):qW k cs=some (sD cs):=by
 obtain ⟨k,rfl⟩: ∃m,k=m+1:=⟨k - 1,by omega⟩;obtain ⟨k,rfl⟩: ∃m,k=m+1:=⟨k - 1,by omega⟩;obtain ⟨k,rfl⟩: ∃m,k=m+1:=⟨k - 1,by omega⟩;unfold qW;by_cases h2:(cs.length:Int)<2
 ·rw [if_pos h2]
  simp only [hU,qL]
  unfold sD;rw [bJ (by omega),Bool.false_and]
 rw [if_neg h2];by_cases h5:(cs.length:Int)>5
 ·rw [bB h5]
  simp only [hU,qL]
  unfold sD;rw [bJ (by omega),Bool.false_and]
 rw [bJ h5]
 have no: ∀i:Int,0≤i→i<cs.length→xR cs i=false→sD cs=false:=by
  intro i h0 h1 hc
  cases hq:sD cs with
  |false=>rfl
  |true=>rw [bGe hq h0 h1] at hc;cases hc
 simp only [hU,nI,if_false]
 rw [if_pos (by omega)];rw [show (bX cs 0).f0=zW cs 0 from rfl,show (bX cs 0).f1=pM cs 0 from rfl];by_cases r0:zW cs 0= -1
 case neg=>
  rw [if_neg r0];simp only [kJ,qL]
  rw [no 0 (by omega) (by omega) (by unfold xR;simp [r0])]
 rw [if_pos r0];by_cases f0:pM cs 0=[]
 case neg=>
  have:(((pM cs 0).length:Int) !=0)=true:=by
   cases hq:pM cs 0 with
   |nil=>exact absurd hq f0
   |cons x t=>simp;omega
  rw [this];simp only [kJ,qL]
  rw [no 0 (by omega) (by omega) (by unfold xR;simp [f0])]
 rw [show (((pM cs 0).length:Int) !=0)=false by rw [f0];rfl];simp only [kJ,nI,if_false]
 rw [if_pos (by omega)];rw [show (bX cs 1).f0=zW cs 1 from rfl,show (bX cs 1).f1=pM cs 1 from rfl];have n1: ¬(zW cs 1=0∧pM cs 1=[1])→sD cs=false:=fun z=>no 1 (by omega) (by omega) (by unfold xR;rw [if_neg (by omega),if_pos rfl,bJ z,Bool.and_false])
 by_cases r1:zW cs 1=0
 case neg=>
  rw [if_neg r1];simp only [hP,qL]
  rw [n1 (fun z=>r1 z.1)]
 rw [if_pos r1];by_cases l1:((pM cs 1).length:Int)=1
 case neg=>
  rw [if_neg l1];simp only [hP,qL]
  rw [n1 (fun z=>l1 (by rw [z.2];rfl))]
 rw [if_pos l1,if_pos (by omega)];obtain ⟨x,hx⟩:=List.length_eq_one_iff.1 (show (pM cs 1).length=1 by omega);by_cases e1:x=1
 case neg=>
  rw [show (rd (pM cs 1) 0 !=1)=true by rw [hx];simp [rd,e1]];simp only [hP,qL]
  rw [n1 (fun z=>e1 (by rw [hx] at z;simpa using z.2))]
 rw [show (rd (pM cs 1) 0 !=1)=false by rw [hx];simp [rd,e1]];simp only [hP,nI,if_false]
 have:=bBt cs (by omega) cs.length 0 (by omega) (by omega) k (by omega)
 rw [show ((0:Nat):Int)=0 from rfl,nM] at this;rw [this]
 congr 1
 unfold sD;rw [bB (show 2≤cs.length∧cs.length≤5 by omega),jD,vJ];simp only [nH,List.mem_range]
 refine forall_congr' fun i=>forall_congr' fun hi=>?_
 unfold bMk xR;simp only [dS,nZ,dJ]
 by_cases i0:(i:Int)=0
 ·rw [i0,if_pos rfl,dJ,r0,f0];simp
 by_cases i1:(i:Int)=1
 ·rw [i1,if_neg (by omega),if_pos rfl,dJ,r1,hx,e1];simp
 rw [if_neg i0,if_neg i1,dJ]
 constructor
 ·rintro ⟨h1 | h1, h3, h4⟩
  ·omega
  ·exact ⟨h4,h1,h3⟩
 ·rintro ⟨h4, h1, h3⟩
  exact ⟨Or.inr h1,h3,h4⟩
theorem zS (cs:Cs): ∀(k:Nat) (a:Int),jE k cs a=fA k cs a
  |0,a=>by rw [jE,fA]
  |k+1,a=>by rw [jE,fA,zS cs k]
theorem bMj {cs:Cs} (h:sD cs=true) {i:Int} (h0:0≤i) (h1:i<cs.length):(pM cs i).length≤2:=by
 have h2:=bGe h h0 h1;unfold xR at h2;simp only [dS] at h2;have h3:=h2.2;by_cases c0:i=0
 ·rw [if_pos c0, dJ] at h3
  rw [c0,h3.2];simp
 rw [if_neg c0] at h3;by_cases c1:i=1
 ·rw [if_pos c1, dJ] at h3
  rw [c1,h3.2];simp
 rw [if_neg c1,dJ] at h3;exact h3.2
theorem bEl {cs:Cs} (h:sD cs=true): ∀a:Int,0≤a→a<cs.length→∃fs,fs.length≤2*a.toNat∧∀k,a.toNat+1≤k→fA k cs a=some fs:=by
 refine cls_ind h ⟨[],by simp,fun k hk=>?_⟩ ?_
 ·obtain ⟨k, rfl⟩ : ∃ m, k = m + 1 := ⟨k - 1, by omega⟩
  rw [fA,if_pos rfl]
 ·intro a ha hl ⟨fs, hfs, hk⟩
  have hs:=bEg h ha hl;have h2:=bMj h (by omega) hl;refine ⟨fs++pM cs a,by rw [cG];omega,fun k hk2=>?_⟩;obtain ⟨k,rfl⟩: ∃m,k=m+1:=⟨k - 1,by omega⟩;have e:=hk k (by omega);rw [fA,if_neg (by omega),if_pos (by omega),if_pos hl];show ((fA k cs (zW cs a)).bind fun t=>if t.length+(pM cs a).length<17592186044416 then some (t++pM cs a) else none)=_
  rw [e,bD,if_pos (by have:=yH h;omega)]
def bGk (cs:Cs) (a:Int):List Int:=(fA 10 cs a).getD []
theorem bEn {cs:Cs} (h:sD cs=true) {a:Int} (h0:0≤a) (h1:a<cs.length):(bGk cs a).length≤8∧∀k,10≤k→fA k cs a=some (bGk cs a):=by
 have hl:=yH h;obtain ⟨fs,hf,hk⟩:=bEl h a h0 h1;have e:bGk cs a=fs:=by unfold bGk;rw [hk 10 (by omega)];rfl
 rw [e];exact ⟨by omega,fun k hk2=>hk k (by omega)⟩
def gH (cs:Cs):List (List Int):=(List.range cs.length).map (fun i:Nat=>bGk cs i)
theorem yI (cs:Cs):(gH cs).length=cs.length:=by unfold gH;simp
theorem bDm (cs:Cs) {c:Int} (h0:0≤c) (h1:c<cs.length):bEp (gH cs) c=bGk cs c:=by
 have h2:c.toNat<cs.length:=by omega
 unfold bEp gH;rw [bM,kM,tQ h2];show bGk cs ((c.toNat:Nat):Int)=_
 rw [tR h0]
theorem bJb {cs:Cs} (h:sD cs=true):bCl (gH cs):=by
 intro c h0 h1;rw [yI] at h1;rw [bDm cs h0 h1];have:=(bEn h h0 h1).1
 omega
theorem bHu {cs:Cs} (h:sD cs=true):(gH cs).all (fun r=>decide (r.length≤4294967296))=true:=by
 rw [nH];intro r hr;obtain ⟨i,hi,rfl⟩:=pC hr;have h2:=bJb h (i:Int) (by omega) (by omega);unfold bEp at h2;rw [dK,bM,bO hi] at h2;exact bB h2
theorem bGi {cs:Cs} (h:sD cs=true) (d:Nat): ∀(k i:Nat),i+d=cs.length→d+11≤k→gZ k cs ((List.range i).map (fun j:Nat=>bGk cs j)) cs.length i=some (gH cs):=by
 have hl:=yH h
 induction d with
 |zero=>
  intro k i hi hk;obtain ⟨k,rfl⟩: ∃m,k=m+1:=⟨k - 1,by omega⟩;rw [gZ,if_neg (by omega)];unfold gH;rw [show i=cs.length by omega]
 |succ d ih=>
  intro k i hi hk;obtain ⟨k,rfl⟩: ∃m,k=m+1:=⟨k - 1,by omega⟩;rw [gZ,if_pos (by omega),(bEn h (a:=(i:Int)) (by omega) (by omega)).2 k (by omega)];simp only [bD]
  rw [if_pos (by simp;omega),jA (n:=1000) (by omega) (by omega) (by omega)];have:=ih k (i+1) (by omega) (by omega)
  rw [List.range_succ,List.map_append] at this;exact this
theorem bBv {cs:Cs} (h:sD cs=true) (k:Nat) (hk:20≤k):qV k cs=some (gH cs):=by
 have hl:=yH h;have:=bGi h cs.length k 0 (by omega) (by omega)
 unfold qV;exact this
theorem bFy {cs:Cs} {c:Int} (n:Int) (h0:0≤c) (h1:c<cs.length):mN (gH cs) c n=1+(bGk cs c).length:=by
  unfold mN;rw [if_neg (by omega),yI,if_pos ⟨h0,h1⟩,bDm cs h0 h1]
theorem bBc {cs:Cs} (h:sD cs=true) {ws:List Int} (hw:ws.length≤1048576) {i e:Int} (h0:0≤i) (he:e≤ws.length) (k:Nat) (hk:20≤k):
  kN k cs ws i e=some (if i<e then jK ws (gH cs) e i else 0):=by
 have hl:=yH h;unfold kN;by_cases c0:i<e
 case neg=>rw [if_pos (by omega),if_neg c0]
 case pos=>
 rw [if_neg (by omega),if_pos h0,if_pos (by omega),kZ,if_pos c0,dX (n:=(cs.length:Int) - 1) (by omega) (by omega)];simp only [bD,dJ]
 obtain ⟨c,hc⟩: ∃c,c=rd ws i:=⟨_,rfl⟩;unfold jK;rw [←hc];by_cases c1:0≤c∧c≤(cs.length:Int) - 1
 ·have c1' : c < (cs.length : Int) := by omega
  obtain ⟨f1,f2⟩:=bEn h c1.1 c1';rw [if_pos c1,zS,f2 k (by omega),if_neg (by omega),bFy 0 c1.1 c1'];simp only [bD]
  rw [dX (n:=1+((bGk cs c).length:Int)) (by omega) (by omega),dX (n:=i+(1+((bGk cs c).length:Int))) (by omega) (by omega)];by_cases c2:i+(1+((bGk cs c).length:Int))>e
  ·rw [if_pos c2,if_neg (by omega)]
  ·rw [if_neg c2,if_pos (by omega)]
 rw [if_neg c1];obtain ⟨k,rfl⟩: ∃m,k=m+2:=⟨k - 2,by omega⟩;have w1:wrap64 (i+1)=i+1:=dX (by omega) (by omega)
 have key: ∀b:Bool,(b=true↔(c= -1∨c= -2))→kQ (k+2) ws i e 0 b=some (if c<0 then (if i+1<e then (if mN (gH cs) c (rd ws (i+1))≤e - i then mN (gH cs) c (rd ws (i+1)) else 0) else 0) else (if mN (gH cs) c 0≤e - i then mN (gH cs) c 0 else 0)):=by
  intro b hb;rw [kQ];by_cases c2:c= -1∨c= -2
  ·rw [if_pos (hb.mpr c2), w1, if_pos (show c < 0 by omega)]
   by_cases c3:i+1≥e
   ·rw [if_pos c3,mE,if_pos rfl,if_neg (show¬i+1<e by omega)]
   rw [if_neg c3,if_pos (show 0≤i+1 by omega),if_pos (show i+1<(ws.length:Int) by omega),kZ,if_pos (show i+1<e by omega)];simp only [bD]
   obtain ⟨n,hn⟩: ∃n,n=rd ws (i+1):=⟨_,rfl⟩;rw [←hn];have m1:mN (gH cs) c n=if 0≤n∧n≤6 then 2+n else 0:=by unfold mN;rw [if_pos c2]
   rw [m1,mE];by_cases c4:0≤n∧n≤6
   ·rw [bB c4, if_neg (by simp), w1, if_pos (show 0 ≤ i + 1 by omega), if_pos (show i + 1 < (ws.length : Int) by omega), if_pos c4, ← hn, dX (n := 2 + n) (by omega) (by omega), dX (n := i + (2 + n)) (by omega) (by omega)]
    by_cases c5:i+(2+n)>e
    ·rw [if_pos c5,if_neg (by omega)]
    ·rw [if_neg c5,if_pos (by omega)]
   ·rw [bJ c4,if_pos (by simp),if_neg c4,if_pos (by omega)]
  ·rw [if_neg (fun hh => c2 (hb.mp hh)), dX (n := i + 0) (by omega) (by omega), if_neg (by omega)]
   have m0: ∀n,mN (gH cs) c n=0:=fun n=>by unfold mN;rw [if_neg c2,yI,if_neg (by omega)]
   rw [m0,m0];by_cases c3:c<0
   ·rw [if_pos c3]
    by_cases c4:i+1<e
    ·rw [if_pos c4,if_pos (by omega)]
    ·rw [if_neg c4]
   ·rw [if_neg c3,if_pos (by omega)]
 by_cases c2:c= -1
 ·rw [if_pos c2,key true (by simp [c2])]
 ·rw [if_neg c2,key _ (by simp [c2])]
theorem bAu {xs:List Int} {i:Nat} (h:i<xs.length):rd xs (i:Int)=xs[i]:=by
  rw [rY,bM,bO h];rfl
structure Bnd (cs:Cs) (ws:List Int) (y t o:Int) (cards:List Bool):Prop where
 ok:sD cs=true
 y0:0≤y
 y1:y≤40
 n0:14≤(ws.length:Int) - y
 n1:(ws.length:Int) - y≤120
 t0:0≤t
 t1:t≤y
 o0:y≤o
 o1:o≤ws.length
 cd:(cards.length:Int)=((ws.length:Int) - y+3)/4
structure Wlk (cs:Cs) (ws:List Int) (W:List Int):Prop where
 mem: ∀x∈W,∃e:Int,e≤ws.length∧0≤x∧x<e∧0<jK ws (gH cs) e x∧jK ws (gH cs) e x≤e - x
 srt:W.Pairwise (· < ·)
 len:W.length≤200
def jO (W:List Int) (n:Nat):List Bool:=(List.range n).map (fun j:Nat=>decide ((j:Int)∈W))
theorem bCm (W:List Int) (n:Nat):(jO W n).length=n:=by simp [jO]
theorem bIg (W:List Int) (n:Nat) {j:Int} (h0:0≤j) (h1:j<n):fW false (jO W n) j=decide (j∈W):=by
 unfold fW jO;rw [bM,kM,tQ (by omega)];show decide (((j.toNat:Nat):Int)∈W)=_
 rw [tR h0]
theorem bKi (W:List Int) (n:Nat) (hW: ∀x∈W,0≤x∧x<(n:Int)) (hl:W.length≤1048576) (d:Nat): ∀(k i:Nat) (S:List Bool),i+d=W.length→d<k→S.length=n→(∀j:Nat,j<n→S.getD j false=decide ((j:Int)∈W.take i))→
  gK k W S i=some (jO W n):=by
 induction d with
 |zero=>
  intro k i S hi hk hS hj;obtain ⟨k,rfl⟩: ∃m,k=m+1:=⟨k - 1,by omega⟩;rw [gK,if_neg (by omega)]
  congr 1
  refine List.ext_getElem (by rw [hS,bCm]) (fun j h1 h2=>?_);have:=hj j (by omega)
  rw [bM,bO h1,show i=W.length by omega,tH] at this;have e2:(jO W n)[j]=decide ((j:Int)∈W):=by simp [jO]
  rw [e2];exact this
 | succ d ih =>
  intro k i S hi hk hS hj;obtain ⟨k,rfl⟩: ∃m,k=m+1:=⟨k - 1,by omega⟩;have hlt:i<W.length:=by omega
  have hx:=hW W[i] (pN hlt);rw [gK,if_pos (by omega),if_pos (by omega),bAu hlt,if_pos hx.1,if_pos (by rw [hS];exact hx.2),jA (n:=1048577) (by omega) (by omega) (by omega)]
  have:=ih k (i+1) (S.set W[i].toNat true) (by omega) (by omega) (by rw [fI,hS]) (fun j hj2=>by
   have h3:=hj j hj2;rw [kK hlt];rw [bM] at h3 ⊢;rw [List.getElem?_set];by_cases q:W[i].toNat=j
   ·rw [if_pos q, if_pos (by omega)]
    have:(j:Int)∈W.take i++[W[i]]:=by rw [rR,pZ];right;omega
    rw [bB this];rfl
   ·rw [if_neg q, h3]
    have:(j:Int)∈W.take i++[W[i]]↔(j:Int)∈W.take i:=by
     rw [rR,pZ]
     constructor
     ·rintro (z | z)
      ·exact z
      ·omega
     ·exact Or.inl
    simp only [this])
  rw [show ((i+1:Nat):Int)=(i:Int)+1 by omega] at this;exact this
theorem bFe {W:List Int} {n:Nat} (hW: ∀x∈W,0≤x∧x<(n:Int)) (hl:W.length≤1000) (hn:n≤1048576) (k:Nat) (hk:1001≤k):kE k n W=some (jO W n):=by
 unfold kE;rw [if_pos (by omega),if_pos (by omega),dK];have:=bKi W n hW (by omega) W.length k 0 (List.replicate n false) (by omega) (by omega) (by simp) (fun j hj=>by simp [bM,hj])
 exact this
def bBp (cs:Cs) (c k:Int):Bool:=if c= -1 then false else if c= -2 then true else (rd (bGk cs c) k !=1)
theorem zH {cs : Cs} {ws : List Int} {y t o : Int} {cards : List Bool} (hb : Bnd cs ws y t o cards) {W : List Int} (hw : Wlk cs ws W) (m : Mm) (hm : m = ⟨ws, y, t, o, cards, gH cs, W.map (· + 1)⟩) {x : Int} (hx : x ∈ W) :
    ∃ c hd cnt : Int, c = rd ws x ∧ 0 ≤ x ∧ (hd = 1 ∨ hd = 2) ∧ 0 ≤ cnt ∧ cnt ≤ 8 ∧ x + hd + cnt ≤ ws.length ∧ mI m (x + 1) = some cnt ∧ jY m (x + 1) = some (x + hd) ∧ jH c = some hd ∧
      (∀k,20≤k→kN k cs ws x ws.length=some (hd+cnt))∧(∀k,0≤k→k<cnt→mH m (x+1) k=some (bBp cs c k))∧(c= -1∨c= -2∨(0≤c∧c<cs.length∧hd=1∧cnt=(bGk cs c).length)):=by
  obtain ⟨e,he,h0,h1,h2,h3⟩:=hw.mem x hx;have n0:=hb.n0;have n1:=hb.n1;have y0:=hb.y0;have y1:=hb.y1;have hl:=yH hb.ok
  have hc:kY m (x+1)=some (rd ws x):=by
    unfold kY;rw [hm];show (if 1≤x+1∧x+1≤(ws.length:Int)∧ws.length≤281474976710656 then some (rd ws (x+1 - 1)) else none)=_
    rw [if_pos (by omega),show x+1 - 1=x by omega]
  obtain ⟨c,hcc⟩: ∃c,c=rd ws x:=⟨_,rfl⟩;rw [←hcc] at hc
  have hsz: ∀k,20≤k→kN k cs ws x ws.length=some (jK ws (gH cs) ws.length x):=fun k hk=>by
    rw [bBc hb.ok (by omega) h0 (Int.le_refl _) k hk,if_pos (by omega)]
  by_cases c0:c<0
  · have hs : jK ws (gH cs) e x = 2 + rd ws (x + 1) ∧ (c = -1 ∨ c = -2) ∧ x + 1 < e ∧ 0 ≤ rd ws (x + 1) ∧ rd ws (x + 1) ≤ 6 := by
      unfold jK at h2 ⊢;rw [←hcc] at h2 ⊢;rw [if_pos c0] at h2 ⊢;by_cases c1:x+1<e
      · rw [if_pos c1] at h2 ⊢
        by_cases c2:c= -1∨c= -2
        · by_cases c3 : 0 ≤ rd ws (x + 1) ∧ rd ws (x + 1) ≤ 6
          · have m1 : mN (gH cs) c (rd ws (x + 1)) = 2 + rd ws (x + 1) := by unfold mN; rw [if_pos c2, if_pos c3]
            rw [m1] at h2 ⊢
            split at h2
            · rename_i z;rw [if_pos z];exact ⟨rfl,c2,c1,c3.1,c3.2⟩
            · omega
          · have m1 : mN (gH cs) c (rd ws (x + 1)) = 0 := by unfold mN; rw [if_pos c2, if_neg c3]
            rw [m1] at h2
            split at h2<;>omega
        · have m1 : mN (gH cs) c (rd ws (x + 1)) = 0 := by unfold mN; rw [if_neg c2, if_neg (by omega)]
          rw [m1] at h2
          split at h2<;>omega
      · rw [if_neg c1] at h2;omega
    obtain ⟨s1,s2,s3,s4,s5⟩:=hs;refine ⟨c,2,rd ws (x+1),hcc,h0,Or.inr rfl,s4,by omega,by omega,?_,?_,?_,?_,?_,?_⟩
    · unfold mI
      rw [hc,bD,if_pos c0,hm];show (if x+1<(ws.length:Int) then some (rd ws (x+1)) else none)=_
      rw [if_pos (by omega)]
    · unfold jY
      rw [hc,bD,if_pos c0,show x+1+1=x+2 by omega]
    · unfold jH;rw [if_pos c0]
    · intro k hk
      rw [hsz k hk];unfold jK;rw [←hcc,if_pos c0,if_pos (by omega)];have m1:mN (gH cs) c (rd ws (x+1))=2+rd ws (x+1):=by unfold mN;rw [if_pos s2,if_pos ⟨s4,s5⟩]
      rw [m1,if_pos (by omega)]
    · intro k _ _
      unfold mH bBp;rw [hc,bD];rcases s2 with z|z
      · rw [if_pos z,if_pos z]
      · rw [if_neg (by omega),if_pos z,if_neg (by omega),if_pos z]
    · rcases s2 with z | z
      · exact Or.inl z
      · exact Or.inr (Or.inl z)
  · have c1 : c < cs.length ∧ jK ws (gH cs) e x = 1 + (bGk cs c).length := by
      unfold jK at h2 ⊢;rw [←hcc] at h2 ⊢;rw [if_neg c0] at h2 ⊢;by_cases z:c<(cs.length:Int)
      · rw [bFy 0 (by omega) z] at h2 ⊢
        split at h2
        · rename_i q;rw [if_pos q];exact ⟨z,rfl⟩
        · omega
      · have m1 : mN (gH cs) c 0 = 0 := by unfold mN; rw [if_neg (by omega), yI, if_neg (by omega)]
        rw [m1] at h2
        split at h2<;>omega
    have hf:=bEn hb.ok (a:=c) (by omega) c1.1;refine ⟨c,1,(bGk cs c).length,hcc,h0,Or.inl rfl,by omega,by omega,by omega,?_,?_,?_,?_,?_,Or.inr (Or.inr ⟨by omega,c1.1,rfl,rfl⟩)⟩
    · unfold mI
      rw [hc,bD,if_neg c0,hm];show (if c<((gH cs).length:Int)∧(gH cs).length≤281474976710656 then some (((bEp (gH cs) c).length:Nat):Int) else none)=_
      rw [yI,if_pos ⟨c1.1,by omega⟩,bDm cs (by omega) c1.1]
    · unfold jY
      rw [hc,bD,if_neg c0]
    · unfold jH;rw [if_neg c0]
    · intro k hk
      rw [hsz k hk];unfold jK;rw [←hcc,if_neg c0,bFy 0 (by omega) c1.1,if_pos (by omega)]
    · intro k k0 k1
      unfold mH bBp;have q1: ¬c= -1:=by omega
      have q2: ¬c= -2:=by omega
      rw [hc,bD];simp only [if_neg q1,if_neg q2]
      rw [hm];show (if 0≤c∧c<((gH cs).length:Int)∧0≤k∧k<((bEp (gH cs) c).length:Int) then some (rd (bEp (gH cs) c) k !=1) else none)=_
      rw [yI,bDm cs (by omega) c1.1,if_pos ⟨by omega,c1.1,k0,k1⟩]
def tW (cs:Cs) (c hd s:Int):List Bool:=(List.range s.toNat).map (fun j:Nat=>decide (hd≤j)&&bBp cs c (j - hd))
theorem bLr (cs:Cs) (c hd s:Int) {j:Int} (h0:hd≤j) (h00:0≤j) (h1:j<s):fW false (tW cs c hd s) j=bBp cs c (j - hd):=by
 unfold fW tW;rw [bM,kM,tQ (by omega)];show (decide (hd≤((j.toNat:Nat):Int))&&bBp cs c (((j.toNat:Nat):Int) - hd))=_
 rw [tR h00,bB h0,jD]
theorem bJj {cs:Cs} (h:sD cs=true) {c hd:Int} {s:Nat} (hs:s≤100) (hh:hd=1∨hd=2) (hc:c= -1∨c= -2∨(0≤c∧c<cs.length∧hd=1∧(s:Int)=1+(bGk cs c).length)) (d:Nat): ∀(k j:Nat) (R:List Bool),j+d=s→hd≤(j:Int)→d+30≤k→R.length=s→(∀i:Nat,i<s→R.getD i false=(decide (hd≤(i:Int)∧i<j)&&bBp cs c ((i:Int) - hd)))→
  fH k cs R c j=some (tW cs c hd s):=by
 induction d with
 |zero=>
  intro k j R hj hj2 hk hR hi;obtain ⟨k,rfl⟩: ∃m,k=m+1:=⟨k - 1,by omega⟩;rw [fH,if_neg (by omega)]
  congr 1
  refine List.ext_getElem (by rw [hR];simp [tW]) (fun i h1 h2=>?_);have e1:=hi i (by omega);rw [bM,bO h1] at e1;have e2:(tW cs c hd s)[i]=(decide (hd≤(i:Int))&&bBp cs c ((i:Int) - hd)):=by simp [tW]
  rw [e2];have e3:(hd≤(i:Int)∧i<j)↔hd≤(i:Int):=⟨fun z=>z.1,fun z=>⟨z,by omega⟩⟩
  simp only [e3] at e1;exact e1
 | succ d ih =>
  intro k j R hj hj2 hk hR hi;obtain ⟨k,rfl⟩: ∃m,k=m+1:=⟨k - 1,by omega⟩
  have step: ∀b,b=bBp cs c ((j:Int) - hd)→fH k cs (R.set ((j:Int)).toNat b) c (wrap64 ((j:Int)+1))=some (tW cs c hd s):=fun b hbb=>by
   rw [jA (n:=1000) (by omega) (by omega) (by omega),dK]
   have:=ih k (j+1) (R.set j b) (by omega) (by omega) (by omega) (by rw [fI,hR]) (fun i hi2=>by
    have h3:=hi i hi2;rw [bM] at h3 ⊢;rw [List.getElem?_set];by_cases q:j=i
    ·rw [if_pos q, if_pos (by omega)]
     subst q;rw [bB (show hd≤(j:Int)∧j<j+1 from ⟨hj2,by omega⟩),jD,hbb];rfl
    ·rw [if_neg q, h3]
     have:(hd≤(i:Int)∧i<j+1)↔(hd≤(i:Int)∧i<j):=by omega
     simp only [this])
   rw [show ((j+1:Nat):Int)=(j:Int)+1 by omega] at this;exact this
  rw [fH,if_pos (by omega)];rcases hc with z|z|z
  ·rw [if_neg (by omega), if_neg (by omega), if_pos (by omega)]
   exact step _ (by unfold bBp;rw [if_pos z])
  ·rw [if_pos z, if_pos (by omega)]
   exact step _ (by unfold bBp;rw [if_neg (by omega),if_pos z])
  ·obtain ⟨z0, z1, z2, z3⟩ := z
   rw [if_neg (by omega),if_pos (by omega),zS,(bEn h z0 z1).2 k (by omega)];simp only [bD]
   rw [dX (n:=(j:Int) - 1) (by omega) (by omega),if_pos (by omega),if_pos (by omega),if_pos (by omega)];exact step _ (by unfold bBp;rw [if_neg (by omega),if_neg (by omega),z2])
def pw (ws:List Int) (F:List (List Int)) (e:Int):Nat→Int→List Int×Bool
  |0,_=>([],true)
  |n+1,i=>if i<e then (if jK ws F e i=0 then ([],false) else (i::(pw ws F e n (i+jK ws F e i)).1,(pw ws F e n (i+jK ws F e i)).2)) else ([],true)
theorem zK (ws:List Int) (F:List (List Int)) (e:Int): ∀(n:Nat) (i:Int) (acc:List Int) (q:Nat),(e - i).toNat≤n→n<q→bAo ws F e q i acc=some ((pw ws F e n i).2,acc++(pw ws F e n i).1.map (· +1))
 |0,i,acc,q,h,hq=>by
  obtain ⟨q,rfl⟩: ∃m,q=m+1:=⟨q - 1,by omega⟩;rw [bAo,if_neg (by omega),pw];simp
 | n + 1, i, acc, q, h, hq => by
  obtain ⟨q,rfl⟩: ∃m,q=m+1:=⟨q - 1,by omega⟩;rw [bAo,pw];by_cases c:i<e
  ·rw [if_pos c, if_pos c]
   by_cases c2:jK ws F e i=0
   ·rw [if_pos c2,if_pos c2];simp
   ·rw [if_neg c2, if_neg c2]
    have:=zN ws F e i
    rw [zK ws F e n _ _ q (by omega) (by omega)];simp
  ·rw [if_neg c,if_neg c];simp
theorem yP (ws:List Int) (F:List (List Int)) (e:Int): ∀(n:Nat) (i:Int),(pw ws F e n i).1.length≤n
 |0,i=>by simp [pw]
 | n + 1, i => by
  rw [pw]
  split
  ·split
   ·simp
   ·have := yP ws F e n (i + jK ws F e i)
    simp only [dP];omega
  ·simp
theorem zL (ws:List Int) (F:List (List Int)) (e:Int): ∀(n:Nat) (i:Int),∀x∈(pw ws F e n i).1,i≤x∧x<e∧0<jK ws F e x∧jK ws F e x≤e - x
 |0,i=>by simp [pw]
 | n + 1, i => by
  rw [pw];intro x hx
  split at hx
  case isTrue c=>
   split at hx
   case isTrue c2=>simp at hx
   case isFalse c2=>
    have hl:=zN ws F e i;simp only [List.mem_cons] at hx;rcases hx with rfl|hx
    ·omega
    ·have := zL ws F e n _ x hx
     omega
  case isFalse c=>simp at hx
theorem xZ (ws:List Int) (F:List (List Int)) (e:Int): ∀(n:Nat) (i:Int),(pw ws F e n i).1.Pairwise (· < ·)
 |0,i=>by simp [pw]
 | n + 1, i => by
  rw [pw]
  split
  case isTrue c=>
   split
   case isTrue c2=>simp
   case isFalse c2=>
    have hl:=zN ws F e i;refine List.Pairwise.cons (fun x hx=>?_) (xZ ws F e n _);have:=zL ws F e n _ x hx
    omega
  case isFalse c=>simp
theorem bBm {cs:Cs} (h:sD cs=true) {ws:List Int} (hw:ws.length≤1048576) {e:Int} (he:e≤ws.length): ∀(n:Nat) (i:Int) (acc:List Int) (k:Nat),0≤i→(e - i).toNat≤n→n+21≤k→acc.length+n<17592186044416→
  jG k cs ws i e acc=some (acc++(pw ws (gH cs) e n i).1,(pw ws (gH cs) e n i).2)
 |0,i,acc,k,h0,hn,hk,ha=>by
  obtain ⟨k,rfl⟩: ∃m,k=m+1:=⟨k - 1,by omega⟩;rw [jG,if_neg (by omega),pw];simp
 | n + 1, i, acc, k, h0, hn, hk, ha => by
  obtain ⟨k,rfl⟩: ∃m,k=m+1:=⟨k - 1,by omega⟩;rw [jG,pw];by_cases c:i<e
  ·rw [if_pos c, if_pos c, bBc h hw h0 he k (by omega), if_pos c]
   simp only [bD]
   by_cases c2:jK ws (gH cs) e i=0
   ·rw [if_pos c2,if_pos c2];simp
   ·rw [if_neg c2, if_neg c2, if_pos (by omega)]
    have hl:=zN ws (gH cs) e i;rw [dX (by omega) (by omega),bBm h hw he n _ _ k (by omega) (by omega) (by omega) (by rw [cG,gD];omega)];simp
  ·rw [if_neg c,if_neg c];simp
theorem bBz {xs:List Int} (h:xs.Pairwise (· < ·)) {i j:Nat} (hi:i<j) (hj:j<xs.length):xs[i]'(by omega)<xs[j]:=List.pairwise_iff_getElem.mp h i j (by omega) hj hi
theorem bCu (a b:Int):nG a b=some (decide (a<b)):=by
  unfold nG nO;rw [bD,show (a !=a)=false from by simp,if_neg (by simp)]
theorem bKl {xs:List Int} (hs:xs.Pairwise (· < ·)) (hl:xs.length≤1048576) (v:Int) (d:Nat): ∀(lo hi k:Nat),hi - lo≤d→lo≤hi→hi≤xs.length→d+2≤k→(∀i (h:i<xs.length),i<lo→xs[i]<v)→(∀i (h:i<xs.length),hi≤i→v≤xs[i])→
  ∃p:Nat,p≤xs.length∧cQ k xs v xs.length lo hi=some ((p:Int),decide (v∈xs))∧(∀i (h:i<xs.length),i<p→xs[i]<v)∧(∀i (h:i<xs.length),p≤i→v≤xs[i]):=by
 induction d with
 | zero =>
  intro lo hi k hd hlh hhi hk h1 h2;obtain ⟨k,rfl⟩: ∃m,k=m+1:=⟨k - 1,by omega⟩;obtain rfl:lo=hi:=by omega
  refine ⟨lo,hhi,?_,h1,h2⟩;rw [cQ,if_neg (by omega)];by_cases c:lo<xs.length
  ·rw [if_pos (by omega), if_pos (by omega), if_pos (by omega), bAu c]
   by_cases c2:xs[lo]=v
   ·rw [if_pos c2,bB (by rw [←c2];exact pN c)]
   ·have hv := h2 lo c (bV _)
    rw [if_neg c2];simp only [pQ,bD]
    have nm: ¬v∈xs:=fun hm=>by
     obtain ⟨j,hj,e⟩:=pC hm;rcases Nat.lt_trichotomy j lo with q|q|q
     ·have:=h1 j hj q;omega
     ·subst q;exact c2 e
     ·have:=bBz hs q hj;omega
    rw [bJ nm];simp
  ·rw [if_neg (by omega)]
   have nm: ¬v∈xs:=fun hm=>by
    obtain ⟨j,hj,e⟩:=pC hm;have:=h1 j hj (by omega);omega
   rw [bJ nm]
 | succ d ih =>
  intro lo hi k hd hlh hhi hk h1 h2;by_cases c:lo=hi
  ·subst c
   exact ih lo lo k (by omega) (by omega) hhi (by omega) h1 h2
  obtain ⟨k,rfl⟩: ∃m,k=m+1:=⟨k - 1,by omega⟩;obtain ⟨m,hm⟩: ∃m,m=(lo+hi)/2:=⟨_,rfl⟩;have hm2:m<xs.length:=by omega
  have hm3:lo≤m:=by omega
  have hm4:m<hi:=by omega
  have e1:wrap64 ((lo:Int)+hi)=((lo+hi:Nat):Int):=by rw [dX (by omega) (by omega)];omega
  have e2:IntKind.u64.wrap ((lo+hi:Nat):Int)=((lo+hi:Nat):Int):=by rw [IntKind.wrap_u64];omega
  have e3:wrap64 (((lo+hi:Nat):Int)/2)=(m:Int):=by
   have e4:((lo+hi:Nat):Int)/2=(m:Int):=by rw [hm];exact (Int.natCast_ediv (lo+hi) 2).symm
   rw [e4];exact dX (by omega) (by omega)
  clear hm;rw [cQ,if_pos (by omega),e1,e2,e3,if_pos (by omega),if_pos (by omega),bAu hm2];by_cases c2:xs[m]<v
  ·have hc : nG xs[m] v = some true := by rw [bCu, bB c2]
   rw [hc];simp only [bD,qL]
   rw [jA (n:=1048577) (by omega) (by omega) (by omega)]
   have:=ih (m+1) hi k (by omega) (by omega) hhi (by omega) (fun i h hi'=>by
    rcases tF i m with q|q
    ·have:=bBz hs q hm2;omega
    ·obtain rfl : i = m := by omega
     exact c2) h2
   rw [show ((m+1:Nat):Int)=(m:Int)+1 by omega] at this;exact this
  ·have hc : nG xs[m] v = some false := by rw [bCu, bJ c2]
   rw [hc];simp only [bD]
   rw [if_neg (by simp)]
   exact ih lo m k (by omega) (by omega) (by omega) (by omega) h1 (fun i h hi'=>by
    rcases Nat.eq_or_lt_of_le hi' with q|q
    ·subst q;omega
    ·have:=bBz hs q h;omega)
theorem bKm {xs:List Int} (hs:xs.Pairwise (· < ·)) (hl:xs.length≤1048576) (v:Int): ∃p:Nat,p≤xs.length∧(∀k,xs.length+2≤k→fD k xs v=some ((p:Int),decide (v∈xs)))∧(∀i (h:i<xs.length),i<p→xs[i]<v)∧(∀i (h:i<xs.length),p≤i→v≤xs[i]):=by
 obtain ⟨p,hp,he,h1,h2⟩:=bKl hs hl v xs.length 0 xs.length (xs.length+2) (by omega) (by omega) (by omega) (by omega) (fun i h hi=>by omega) (fun i h hi=>by omega);refine ⟨p,hp,fun k hk=>?_,h1,h2⟩;have:=bAc (g:=fun k=>fD k xs v) (fun k=>rX xs v k) hk (r:=((p:Int),decide (v∈xs))) (by unfold fD;exact he)
 exact this
theorem bLx (W:List Int) (v:Int):v∈W.map (· +1)↔v - 1∈W:=by
 rw [List.mem_map]
 constructor
 ·rintro ⟨a,ha,rfl⟩;rw [show a+1 - 1=a by omega];exact ha
 ·intro h;exact ⟨v - 1,h,by omega⟩
theorem bHd {W:List Int} (h:W.Pairwise (· < ·)):(W.map (· +1)).Pairwise (· < ·):=by
  rw [List.pairwise_map];exact h.imp (fun hab=>by omega)
theorem bIr {cs:Cs} {ws W:List Int} (hw:Wlk cs ws W) (m:Mm) (hm:m.begins=W.map (· +1)) (v:Int): ∀q,300≤q→nR q m v=some (decide (v - 1∈W)):=by
 intro q hq;have hl:=hw.len;obtain ⟨p,_,h,_,_⟩:=bKm (bHd hw.srt) (by rw [gN];omega) v;unfold nR;rw [hm,h q (by rw [gN];omega),bD];simp only [bLx]
theorem qG {cs:Cs} {ws W:List Int} (hw:Wlk cs ws W) {x:Int} (hx:x∈W):0≤x∧x<ws.length:=by
  obtain ⟨e,h1,h2,h3,_⟩:=hw.mem x hx;omega
theorem bJq {cs:Cs} {ws W:List Int} (hw:Wlk cs ws W) (hn:ws.length≤1048576) (v:Int):nE (jO W ws.length) v=some (decide (v=0)||decide (v - 1∈W)):=by
 unfold nE;by_cases c0:v=0
 ·rw [if_pos c0,bB c0];rfl
 rw [if_neg c0,kZ,bCm,bJ c0,Bool.false_or];simp only [bD,dJ]
 by_cases c1:1≤v∧v≤(ws.length:Int)
 ·rw [if_pos c1,dX (n:=v - 1) (by omega) (by omega),if_pos (by omega),if_pos (by omega),bIg W ws.length (by omega) (by omega)]
 ·rw [if_neg c1,bJ (fun hv=>c1 (by have:=qG hw hv;omega))]
theorem word_eq {cs:Cs} {ws:List Int} {y t o:Int} {cards:List Bool} (hb:Bnd cs ws y t o cards) {W:List Int} (hw:Wlk cs ws W) (m:Mm) (hm:m=⟨ws,y,t,o,cards,gH cs,W.map (· +1)⟩)
  {x hd cnt c:Int} (h0:0≤x) (hhd:hd=1∨hd=2) (hcn:0≤cnt) (hsz:x+hd+cnt≤ws.length) (hfi:jY m (x+1)=some (x+hd)) (hle: ∀k,0≤k→k<cnt→mH m (x+1) k=some (bBp cs c k))
  (R:List Bool) (hR:R=tW cs c hd (hd+cnt)) {k:Int} (k0:0≤k) (k1:k<cnt):
  ∃b,(∀q,300≤q→xT q m (x+1) k=some b)∧∀κ:Nat,dC (κ+2) (jO W ws.length) x R (hd+k) ws y t o cards=if b=true then dC κ (jO W ws.length) x R (hd+k+1) ws y t o cards else some false:=by
 have n0:=hb.n0;have n1:=hb.n1;have y0:=hb.y0;have y1:=hb.y1;have cd:=hb.cd;have hRl:(R.length:Int)=hd+cnt:=by rw [hR];unfold tW;rw [gN,kL];omega
 have hRk:fW false R (hd+k)=bBp cs c k:=by rw [hR,bLr cs c hd (hd+cnt) (by omega) (by omega) (by omega),show hd+k - hd=k by omega]
 obtain ⟨v,hv⟩: ∃v,v=rd ws (x+(hd+k)):=⟨_,rfl⟩;have hmw:m.words=ws:=by rw [hm]
 have hA: ∀q,xT q m (x+1) k=if bBp cs c k=true then (if v=0 then some true else (nR q m v).bind fun h=>if h=true then yV m (x+1) v (x+(hd+k)) else some false) else nX v:=fun q=>by
  unfold xT;rw [hfi,bD,hmw,if_pos (by omega),hle k k0 k1,bD,show x+hd+k=x+(hd+k) by omega,←hv]
 have w1:wrap64 (x+(hd+k))=x+(hd+k):=dX (by omega) (by omega)
 have w2:wrap64 (hd+k+1)=hd+k+1:=dX (by omega) (by omega)
 have hB: ∀κ:Nat,dC (κ+2) (jO W ws.length) x R (hd+k) ws y t o cards=if bBp cs c k=true then fF (κ+1) (jO W ws.length) x R (hd+k) v (!(decide (v=0)||decide (v - 1∈W))) ws y t o cards else fF (κ+1) (jO W ws.length) x R (hd+k) v (!(decide (-128≤v∧v≤127))) ws y t o cards:=fun κ=>by
  rw [dC,if_pos (by omega),w1,if_pos (by omega),if_pos (by omega),if_pos (by omega),hRk,←hv,bJq hw (by omega)];simp only [bD]
  by_cases c0:bBp cs c k=true
  ·rw [if_pos c0, if_pos c0]
   cases (decide (v=0)||decide (v - 1∈W))<;>rfl
  ·rw [if_neg c0, if_neg c0]
   unfold rA;rw [kZ];rfl
 have hJ: ∀(κ:Nat) (bad:Bool),fF (κ+1) (jO W ws.length) x R (hd+k) v bad ws y t o cards=if bad=true then some false else (if bBp cs c k=true then (if x≥y then (if 1≤v∧v≤y then (if fW false cards ((x+(hd+k) - y)/4)=true then dC κ (jO W ws.length) x R (hd+k+1) ws y t o cards else some false) else dC κ (jO W ws.length) x R (hd+k+1) ws y t o cards) else dC κ (jO W ws.length) x R (hd+k+1) ws y t o cards) else dC κ (jO W ws.length) x R (hd+k+1) ws y t o cards):=fun κ bad=>by
  rw [fF,w2,w1]
  cases bad with
  |true=>rw [if_pos rfl,if_pos rfl]
  | false =>
   simp only [nI,if_false]
   rw [if_pos (show 0≤hd+k by omega),if_pos (show hd+k<(R.length:Int) by omega),hRk];by_cases c0:bBp cs c k=true
   ·rw [if_pos c0, if_pos c0]
    by_cases c1:x≥y
    ·rw [if_pos c1, if_pos c1, kZ]
     simp only [bD,dJ]
     by_cases c2:1≤v∧v≤y
     ·rw [if_pos c2,if_pos c2,dX (n:=x+(hd+k) - y) (by omega) (by omega),qB (by omega),dX (n:=(x+(hd+k) - y)/4) (by omega) (by omega),if_pos (by omega),if_pos (by omega)]
     ·rw [if_neg c2,if_neg c2]
    ·rw [if_neg c1,if_neg c1]
   ·rw [if_neg c0,if_neg c0]
 by_cases c0:bBp cs c k=true
 case neg=>
  refine ⟨decide (-128≤v∧v≤127),fun q hq=>?_,fun κ=>?_⟩
  ·rw [hA, if_neg c0]
   unfold nX;by_cases z:v≥ -128
   ·rw [if_pos z];simp [show -128≤v from z]
   ·rw [if_neg z];simp [show¬ -128≤v from z]
  ·rw [hB, if_neg c0, hJ, if_neg c0]
   cases decide (-128≤v∧v≤127)<;>rfl
 case pos=>
 by_cases c1:v=0
 ·refine ⟨true, fun q hq => by rw [hA, if_pos c0, if_pos c1], fun κ => ?_⟩
  rw [hB,if_pos c0,hJ,bB c1,if_pos c0];rw [if_neg (by simp),if_pos rfl];by_cases c2:x≥y
  ·rw [if_pos c2,if_neg (by omega)]
  ·rw [if_neg c2]
 have hq0:=bIr hw m (by rw [hm]) v;by_cases c2:v - 1∈W
 case neg=>
  refine ⟨false,fun q hq=>by rw [hA,if_pos c0,if_neg c1,hq0 q hq,bJ c2];rfl,fun κ=>?_⟩;rw [hB,if_pos c0,hJ,bJ c1,bJ c2];rfl
 case pos=>
 have hvr:=qG hw c2
 have hA2: ∀q,300≤q→xT q m (x+1) k=yV m (x+1) v (x+(hd+k)):=fun q hq=>by
  rw [hA,if_pos c0,if_neg c1,hq0 q hq,bB c2];rfl
 have hB2: ∀κ:Nat,dC (κ+2) (jO W ws.length) x R (hd+k) ws y t o cards=(if x≥y then (if 1≤v∧v≤y then (if fW false cards ((x+(hd+k) - y)/4)=true then dC κ (jO W ws.length) x R (hd+k+1) ws y t o cards else some false) else dC κ (jO W ws.length) x R (hd+k+1) ws y t o cards) else dC κ (jO W ws.length) x R (hd+k+1) ws y t o cards):=fun κ=>by
  rw [hB,if_pos c0,hJ,bB c2,if_pos c0];rw [if_neg (by simp)]
 have hC:yV m (x+1) v (x+(hd+k))=if x≥y then (if 1≤v∧v≤y then some (fW false cards ((x+(hd+k) - y)/4)) else some true) else some true:=by
  unfold yV;rw [hm];show (if x+1>y then (if v>y then some true else (if 0≤wrap64 (Int.tdiv (wrap64 (x+(hd+k) - y)) 4)∧wrap64 (Int.tdiv (wrap64 (x+(hd+k) - y)) 4)<(cards.length:Int) then some (fW false cards (wrap64 (Int.tdiv (wrap64 (x+(hd+k) - y)) 4))) else none)) else some true)=_
  by_cases z1:x≥y
  ·rw [if_pos (show x + 1 > y by omega), if_pos z1]
   by_cases z2:v>y
   ·rw [if_pos z2,if_neg (by omega)]
   ·rw [if_neg z2,if_pos (show 1≤v∧v≤y by omega),dX (n:=x+(hd+k) - y) (by omega) (by omega),qB (by omega),dX (n:=(x+(hd+k) - y)/4) (by omega) (by omega),if_pos (by omega)]
  ·rw [if_neg (show¬x+1>y by omega),if_neg z1]
 by_cases z1:x≥y
 ·by_cases z2 : 1 ≤ v ∧ v ≤ y
  ·refine ⟨fW false cards ((x+(hd+k) - y)/4),fun q hq=>by rw [hA2 q hq,hC,if_pos z1,if_pos z2],fun κ=>by rw [hB2,if_pos z1,if_pos z2]⟩
  ·exact ⟨true,fun q hq=>by rw [hA2 q hq,hC,if_pos z1,if_neg z2],fun κ=>by rw [hB2,if_pos z1,if_neg z2,if_pos rfl]⟩
 ·exact ⟨true,fun q hq=>by rw [hA2 q hq,hC,if_neg z1],fun κ=>by rw [hB2,if_neg z1,if_pos rfl]⟩
theorem bLo {cs:Cs} {ws:List Int} {y t o:Int} {cards:List Bool} (hb:Bnd cs ws y t o cards) {W:List Int} (hw:Wlk cs ws W) (m:Mm) (hm:m=⟨ws,y,t,o,cards,gH cs,W.map (· +1)⟩) {x:Int} (hx:x∈W):
  ∃b,(∀q,300≤q→rO q m (x+1)=some b)∧∀k,200≤k→rD k cs ws y t o cards (jO W ws.length) x=some b:=by
 obtain ⟨c,hd,cnt,hc,h0,hhd,hcn,hcn8,hsz,hco,hfi,hhe,hl21,hle,hcc⟩:=zH hb hw m hm hx;have n0:=hb.n0;have n1:=hb.n1;have y0:=hb.y0;have y1:=hb.y1
 have key: ∀d:Nat,∀k:Int,0≤k→k+d=cnt→∃b,(∀q,300≤q→∀j:Nat,d+1≤j→wordsOk.l q m (x+1) cnt j k=some b)∧∀κ:Nat,2*d+1≤κ→dC κ (jO W ws.length) x (tW cs c hd (hd+cnt)) (hd+k) ws y t o cards=some b:=by
  intro d
  induction d with
  | zero =>
   intro k k0 kd;refine ⟨true,fun q hq j hj=>?_,fun κ hκ=>?_⟩
   ·obtain ⟨j, rfl⟩ : ∃ i, j = i + 1 := ⟨j - 1, by omega⟩
    rw [wordsOk.l,if_neg (by omega)]
   ·obtain ⟨κ, rfl⟩ : ∃ i, κ = i + 1 := ⟨κ - 1, by omega⟩
    have hRl:((tW cs c hd (hd+cnt)).length:Int)=hd+cnt:=by unfold tW;rw [gN,kL];omega
    rw [dC,if_neg (by omega)]
  | succ d ih =>
   intro k k0 kd;obtain ⟨b,hb1,hb2⟩:=word_eq hb hw m hm h0 hhd hcn hsz hfi hle _ rfl k0 (show k<cnt by omega);obtain ⟨b',h1,h2⟩:=ih (k+1) (by omega) (by omega)
   cases b with
   | true =>
    refine ⟨b',fun q hq j hj=>?_,fun κ hκ=>?_⟩
    ·obtain ⟨j, rfl⟩ : ∃ i, j = i + 1 := ⟨j - 1, by omega⟩
     rw [wordsOk.l,if_pos (by omega),hb1 q hq,bD,if_pos rfl];exact h1 q hq j (by omega)
    ·obtain ⟨κ, rfl⟩ : ∃ i, κ = i + 2 := ⟨κ - 2, by omega⟩
     rw [hb2 κ,if_pos rfl,show hd+k+1=hd+(k+1) by omega];exact h2 κ (by omega)
   | false =>
    refine ⟨false,fun q hq j hj=>?_,fun κ hκ=>?_⟩
    ·obtain ⟨j, rfl⟩ : ∃ i, j = i + 1 := ⟨j - 1, by omega⟩
     rw [wordsOk.l,if_pos (by omega),hb1 q hq,bD,if_neg (by simp)]
    ·obtain ⟨κ, rfl⟩ : ∃ i, κ = i + 2 := ⟨κ - 2, by omega⟩
     rw [hb2 κ,if_neg (by simp)]
 obtain ⟨b,h1,h2⟩:=key cnt.toNat 0 (by omega) (by omega);refine ⟨b,fun q hq=>?_,fun k hk=>?_⟩
 ·unfold rO
  rw [hco,bD,if_pos (by omega)];exact h1 q hq _ (by omega)
 ·unfold rD kO
  rw [hl21 k (by omega)];simp only [bD]
  rw [if_pos (by omega),if_pos (by omega),if_pos h0,if_pos (by omega),←hc,hhe];simp only [bD]
  have hr:=bJj (cs:=cs) hb.ok (c:=c) (hd:=hd) (s:=(hd+cnt).toNat) (by omega) hhd (by rcases hcc with z|z|z;exact Or.inl z;exact Or.inr (Or.inl z);exact Or.inr (Or.inr ⟨z.1,z.2.1,z.2.2.1,by omega⟩)) cnt.toNat k hd.toNat (List.replicate (hd+cnt).toNat false) (by omega) (by omega) (by omega) (by simp) (fun i hi=>by
   rw [bJ (show¬(hd≤(i:Int)∧i<hd.toNat) by omega)]
   simp [bM,hi])
  rw [show ((hd.toNat:Nat):Int)=hd by omega] at hr;rw [hr];simp only [bD]
  rw [if_pos (by omega),if_pos (by omega)];have:=h2 k (by omega)
  rw [show hd+0=hd by omega,show ((hd+cnt).toNat:Int)=hd+cnt by omega] at*;exact this
end Go.Proofs.YtbaklikaoleplaaGreat.Pure
