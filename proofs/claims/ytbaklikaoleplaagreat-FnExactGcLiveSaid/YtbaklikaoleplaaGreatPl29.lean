import Derived.Test.YtbaklikaoleplaaGreatPl24
import Derived.Test.YtbaklikaoleplaaGreatPl28
import Derived.BigRegion
set_option maxHeartbeats 8000000
set_option maxRecDepth 100000
namespace Go.Proofs.YtbaklikaoleplaaGreat.K
open Go.RowKit Go.Proofs.YtbaklikaoleplaaGreatW.PrintWords Go.Proofs.YtbaklikaoleplaaGreatW.PrintLast Go.Proofs.YtbaklikaoleplaaGreatW.PrintMore
attribute [local go_sem] gV gT jT jS fY fX gU gR
set_option linter.unusedVariables false
set_option linter.unusedSimpArgs false
mutual
def hU:Nat→List (S78)→Bool→Option (Bool)
 |0,_,_=>none
 |k+1,x0,x15=>if x15=true then (some false) else (if 0<(x0.length:Int) then (if ((bX x0 0).f0)=(-1) then (kJ k x0 ((((bX x0 0).f1).length:Int) !=0)) else (kJ k x0 true)) else (none))
def kJ:Nat→List (S78)→Bool→Option (Bool)
 |0,_,_=>none
 |k+1,x0,x28=>if x28=true then (some false) else (if 1<(x0.length:Int) then (if ((bX x0 1).f0)=0 then (if (((bX x0 1).f1).length:Int)=1 then (if 0<(((bX x0 1).f1).length:Int) then (hP k x0 ((rd ((bX x0 1).f1) 0) !=1)) else (none)) else (hP k x0 true)) else (hP k x0 true)) else (none))
def hP:Nat→List (S78)→Bool→Option (Bool)
 |0,_,_=>none
 |k+1,x0,x47=>if x47=true then (some false) else (jQ k x0 x0 (x0.length:Int) 0)
def jQ:Nat→List (S78)→List (S78)→Int→Int→Option (Bool)
 |0,_,_,_,_=>none
 |k+1,x0,x48,x49,x50=>if x50<x49 then (if 0≤x50 then (if x50<(x48.length:Int) then (if x50>1 then (if ((bX x48 x50).f0)<0 then (hO k x0 x48 x49 x50 true ((bX x48 x50).f0) ((bX x48 x50).f1)) else (hO k x0 x48 x49 x50 (decide (((bX x48 x50).f0)≥x50)) ((bX x48 x50).f0) ((bX x48 x50).f1))) else (hO k x0 x48 x49 x50 false ((bX x48 x50).f0) ((bX x48 x50).f1))) else (none)) else (none)) else (some true)
def hO:Nat→List (S78)→List (S78)→Int→Int→Bool→Int→List Int→Option (Bool)
 |0,_,_,_,_,_,_,_=>none
 |k+1,x0,x48,x49,x50,x67,x303000,x303001=>if x67=true then (some false) else (if (x303001.length:Int)>2 then (some false) else (kI k x0 x48 x49 x50 x303001 (x303001.length:Int) 0))
def kI:Nat→List (S78)→List (S78)→Int→Int→List Int→Int→Int→Option (Bool)
 |0,_,_,_,_,_,_,_=>none
 |k+1,x0,x48,x49,x50,x73,x74,x75=>if x75<x74 then (if 0≤x75 then (if x75<(x73.length:Int) then ((pJ (x0.length:Int) (rd x73 x75)).bind fun t304=>(if t304=true then (kI k x0 x48 x49 x50 x73 x74 (wrap64 (x75+1))) else (some false))) else (none)) else (none)) else (jQ k x0 x48 x49 (wrap64 (x50+1)))
end
def qW (k:Nat) (l0:List (S78)):Option (Bool):=if (l0.length:Int)<2 then (hU k l0 true) else (hU k l0 (decide ((l0.length:Int)>5)))
theorem qS (k : Nat) (A0 : Option Addr) (c0 : Nat) (l0 : List (S78)) (r : Bool) (w : World) (hr0 : Kd.C yD w A0 l0.length l0) (hc0 : l0.length ≤ c0) (h : qW k l0 = some r) :
  Calls Tryz.prog 90 #[.slice A0 l0.length c0] w fun e w'=>e= .returned (.bool r)∧Below w.heap.size w w':=by
 have hu78:=Tryz.underlying78;have HR0:=aK hr0;have HC0:=aK hc0;clear hr0 hc0;have HB:=aK (bQ w.heap.size w);have H:(if (l0.length:Int)<2 then (hU k l0 true) else (hU k l0 (decide ((l0.length:Int)>5))))=some r:=h
 clear h;have HC2:=aK H;clear H;go_enter Tryz.func90,Tryz.ntmps90
 go_upto_region 1 with (fail)
 go_cut [15] (fun v15 wc=> ∃(kq:Nat) (x15_1:Bool),v15= .bool x15_1∧Aside0 (hU kq l0 x15_1=some r)∧Aside0 (kq≤k)∧Aside0 (Below w.heap.size w wc))
 case first=>
  have H:=HC2.out;clear HC2;by_cases c3:(l0.length:Int)<2
  ·rw [if_pos c3] at H
   have c3b0:decide ((l0.length:Int)<2)=true:=bB c3
   have c3b1:decide (l0.length<2)=true:=bB (by omega)
   clear c3
   (first|rw [c3b0]|(simp only [mC,qF];rw [c3b0])|skip)
   have H':=aK H;clear H;go_wp2;go_meet
   case rel=>exact ⟨_,(true),kG,H',⟨by first|omega|exact bV _⟩,⟨by repeat (first|(with_reducible first|exact HB.out|apply bI|apply bF|apply bH)|exact HB.out)⟩⟩
  ·rw [if_neg c3] at H
   have c3b0:decide ((l0.length:Int)<2)=false:=bJ c3
   have c3b1:decide (l0.length<2)=false:=bJ (by omega)
   clear c3
   (first|rw [c3b0]|(simp only [mC,qF];rw [c3b0])|skip)
   have H':=aK H;clear H;go_wp2;go_meet
   case rel=>exact ⟨_,(decide ((l0.length:Int)>5)),kG,H',⟨by first|omega|exact bV _⟩,⟨by repeat (first|(with_reducible first|exact HB.out|apply bI|apply bF|apply bH)|exact HB.out)⟩⟩
 case rest =>
  clear HC2;(try clear p2);(try clear c3);(try clear c3b0);(try clear c3b1);obtain ⟨kq,x15_1,rfl,HA,HJ1,HB⟩:=hcut
  cases kq with
  |zero=>exact absurd HA.out (by simp [hU])
  | succ kj1 =>
   have H:=HA.out;clear HA;simp only [hU] at H;by_cases c4:x15_1=true
   ·subst c4
    rw [if_pos rfl] at H;obtain rfl:=bC H;go_wp2;go_ret;exact ⟨sL,jR⟩
   ·replace c4 := Bool.eq_false_iff.mpr c4
    subst c4;rw [if_neg (show¬(false=true) by decide)] at H;have HC5:=aK H;clear H
    go_upto_region 3 with (fail)
    go_cut [28] (fun v28 wc=> ∃(kq:Nat) (x28_4:Bool),v28= .bool x28_4∧Aside0 (kJ kq l0 x28_4=some r)∧Aside0 (kq≤kj1)∧Aside0 (Below w.heap.size w wc))
    case first=>
     have H:=HC5.out;clear HC5;by_cases c6:0<(l0.length:Int)
     ·rw [if_pos c6] at H
      have c6b0:decide (0<(l0.length:Int))=true:=bB c6
      have c6b1:decide (0<l0.length)=true:=bB (by omega)
      clear c6
      (first|rw [c6b0]|(simp only [mC,qF];rw [c6b0])|skip)
      by_cases c7:((bX l0 0).f0)=(-1)
      ·rw [if_pos c7] at H
       have c7b0:(((bX l0 0).f0)==(-1))=true:=beq_iff_eq.mpr c7
       have c7b1:(((bX l0 0).f0) !=(-1))=false:=bne_eq_false_iff_eq.mpr c7
       clear c7;have H':=aK H;clear H;have p296:0≤(0:Int):=(by omega)
       have q296:0<(l0.length:Int):=bA fU
       obtain ⟨ad296,A296_1,c296_1,e296,hx296_0,hx296_1,hl296_1,hi296_1⟩:=sF HR0.out 0 p296 q296
       cases e296
       have qi296:(0<l0.length)=True:=bL (by omega)
       (try rw [show ((0:Int)).toNat=0 from rfl] at hx296_0)
       (try rw [show 0*2=0 from rfl] at hx296_0)
       (try rw [Addr.add_zero'] at hx296_0)
       (try rw [show ((0:Int)).toNat=0 from rfl] at hx296_1)
       (try rw [show 0*2=0 from rfl] at hx296_1)
       (try rw [Addr.add_zero'] at hx296_1)
       replace hx296_0:=(HB.out.cell (bE w _ hx296_0)).trans hx296_0;replace hx296_1:=(HB.out.cell (bE w _ hx296_1)).trans hx296_1;have HR296_1:=aK hi296_1;have HC296_1:=aK hl296_1;clear hi296_1 hl296_1;replace p296:=bL p296;replace q296:=bL q296;have p297:0≤(0:Int):=(by omega)
       have q297:0<(l0.length:Int):=bA fU
       obtain ⟨ad297,A297_1,c297_1,e297,hx297_0,hx297_1,hl297_1,hi297_1⟩:=sF HR0.out 0 p297 q297;obtain rfl:ad296=ad297:=(by injection e297);have qi297:(0<l0.length)=True:=bL (by omega)
       (try rw [show ((0:Int)).toNat=0 from rfl] at hx297_0)
       (try rw [show 0*2=0 from rfl] at hx297_0)
       (try rw [Addr.add_zero'] at hx297_0)
       (try rw [show ((0:Int)).toNat=0 from rfl] at hx297_1)
       (try rw [show 0*2=0 from rfl] at hx297_1)
       (try rw [Addr.add_zero'] at hx297_1)
       replace hx297_0:=(HB.out.cell (bE w _ hx297_0)).trans hx297_0;replace hx297_1:=(HB.out.cell (bE w _ hx297_1)).trans hx297_1;have HR297_1:=aK hi297_1;have HC297_1:=aK hl297_1;clear hi297_1 hl297_1;replace p297:=bL p297;replace q297:=bL q297;have ea_:=bC (hx296_1.symm.trans hx297_1);injection ea_ with ea_ en_ ec_;subst ea_;subst ec_;clear en_;go_wp2;go_meet
       case rel=>exact ⟨_,(((((bX l0 0).f1).length:Int) !=0)),kG,H',⟨by have:=HJ1.out;first|omega|exact bV _⟩,⟨by repeat (first|(with_reducible first|exact HB.out|apply bI|apply bF|apply bH)|exact HB.out)⟩⟩
      ·rw [if_neg c7] at H
       have c7b0:(((bX l0 0).f0)==(-1))=false:=tP.mpr c7
       have c7b1:(((bX l0 0).f0) !=(-1))=true:=bne_iff_ne.mpr c7
       have H':=aK H;clear H;have p296:0≤(0:Int):=(by omega)
       have q296:0<(l0.length:Int):=bA fU
       obtain ⟨ad296,A296_1,c296_1,e296,hx296_0,hx296_1,hl296_1,hi296_1⟩:=sF HR0.out 0 p296 q296
       cases e296
       have qi296:(0<l0.length)=True:=bL (by omega)
       (try rw [show ((0:Int)).toNat=0 from rfl] at hx296_0)
       (try rw [show 0*2=0 from rfl] at hx296_0)
       (try rw [Addr.add_zero'] at hx296_0)
       (try rw [show ((0:Int)).toNat=0 from rfl] at hx296_1)
       (try rw [show 0*2=0 from rfl] at hx296_1)
       (try rw [Addr.add_zero'] at hx296_1)
       replace hx296_0:=(HB.out.cell (bE w _ hx296_0)).trans hx296_0;replace hx296_1:=(HB.out.cell (bE w _ hx296_1)).trans hx296_1;have HR296_1:=aK hi296_1;have HC296_1:=aK hl296_1;clear hi296_1 hl296_1;replace p296:=bL p296;replace q296:=bL q296;go_wp2;go_meet
       case rel=>exact ⟨_,(true),kG,H',⟨by have:=HJ1.out;first|omega|exact bV _⟩,⟨by repeat (first|(with_reducible first|exact HB.out|apply bI|apply bF|apply bH)|exact HB.out)⟩⟩
     ·rw [if_neg c6] at H
      exact absurd H (by simp)
    case rest =>
     clear HC5;(try clear c2);(try clear p2);(try clear q2);(try clear hx2);(try clear qi2);(try clear c3);(try clear c3b0);(try clear c3b1);(try clear c4);(try clear c6);(try clear c6b0);(try clear c6b1);(try clear c7);(try clear c7b0);(try clear c7b1);(try clear hx296_0);(try clear hx296_1);(try clear hx297_0);(try clear hx297_1);(try clear p2);(try clear p296);(try clear p297);(try clear q296);(try clear q297);obtain ⟨kq,x28_4,rfl,HA,HJ4,HB⟩:=hcut
     cases kq with
     |zero=>exact absurd HA.out (by simp [kJ])
     | succ kj4 =>
      have H:=HA.out;clear HA;simp only [kJ] at H;by_cases c8:x28_4=true
      ·subst c8
       rw [if_pos rfl] at H;obtain rfl:=bC H;go_wp2;go_ret;exact ⟨sL,jR⟩
      ·replace c8 := Bool.eq_false_iff.mpr c8
       subst c8;rw [if_neg (show¬(false=true) by decide)] at H;by_cases c9:1<(l0.length:Int)
       ·rw [if_pos c9] at H
        have c9b0:decide (1<(l0.length:Int))=true:=bB c9
        have c9b1:decide (1<l0.length)=true:=bB (by omega)
        clear c9;have HC10:=aK H;clear H;have p298:0≤(1:Int):=(by omega)
        have q298:1<(l0.length:Int):=bA fU
        obtain ⟨ad298,A298_1,c298_1,e298,hx298_0,hx298_1,hl298_1,hi298_1⟩:=sF HR0.out 1 p298 q298
        cases e298
        (try simp only [show (1:Int).toNat=1 from rfl,Nat.reduceMul,Nat.reduceEqDiff,Go.Addr.add,↓reduceIte] at hx298_0)
        (try simp only [show (1:Int).toNat=1 from rfl,Nat.reduceMul,Nat.reduceEqDiff,Go.Addr.add,↓reduceIte] at hx298_1)
        have qi298:(1<l0.length)=True:=bL (by omega)
        (try rw [show ((1:Int)).toNat=1 from rfl] at hx298_0)
        (try rw [show 1*2=2 from rfl] at hx298_0)
        (try rw [show ((1:Int)).toNat=1 from rfl] at hx298_1)
        (try rw [show 1*2=2 from rfl] at hx298_1)
        replace hx298_0:=(HB.out.cell (bE w _ hx298_0)).trans hx298_0;replace hx298_1:=(HB.out.cell (bE w _ hx298_1)).trans hx298_1;have HR298_1:=aK hi298_1;have HC298_1:=aK hl298_1;clear hi298_1 hl298_1;replace p298:=bL p298;replace q298:=bL q298
        go_upto_region 6 with (first|((with_reducible refine dG (N:=3) rfl ?_);(try (refine yS (by rfl) ?_;dsimp only));refine dN ?hg (N:=3) ?hd (cs:= #[.int .i64 0,.slice none 0 0]) (t:=78) ?hr ?_;(case hd=>rfl);(case hg=>rfl);(case hr=>first|(go_simp;done)|(go_simp;rfl));intro gb299 hg w11 hbox hb;have BK299:=aK (hbox);have GW299:=aK ((by rw [hg];exact (bN jR):w.heap.size≤gb299));have GE299:=aK ((by rw [hg];exact (bN jR):w.heap.size≤gb299));replace HB:=aK (bG jR hb);clear hb hbox hg;obtain ⟨hcz12_0,hcz12_1,hfz12_0,hfz12_1⟩:=rL BK299))
        (try simp only [Act.put,fL,jB,jC])
        go_cut [47] (fun v47 wc=> ∃(kq:Nat) (x47_9:Bool),v47= .bool x47_9∧Aside0 (hP kq l0 x47_9=some r)∧Aside0 (kq≤kj4)∧Aside0 (wc.heap[gb299]? =some (.cells #[.int .i64 ((bX l0 1).f0),(.slice A298_1 ((bX l0 1).f1).length c298_1)] 78 (0,0)))∧Aside0 (Below w.heap.size w wc))
        case first=>
         have H:=HC10.out;clear HC10;by_cases c13:((bX l0 1).f0)=0
         ·rw [if_pos c13] at H
          have c13b0:(((bX l0 1).f0)==0)=true:=beq_iff_eq.mpr c13
          have c13b1:(((bX l0 1).f0) !=0)=false:=bne_eq_false_iff_eq.mpr c13
          clear c13
          (first|rw [c13b0]|(simp only [mC,qF];rw [c13b0])|skip)
          by_cases c14:(((bX l0 1).f1).length:Int)=1
          ·rw [if_pos c14] at H
           have c14b0:((((bX l0 1).f1).length:Int)==1)=true:=beq_iff_eq.mpr c14
           have c14b1:((((bX l0 1).f1).length:Int) !=1)=false:=bne_eq_false_iff_eq.mpr c14
           clear c14;by_cases c15:0<(((bX l0 1).f1).length:Int)
           ·rw [if_pos c15] at H
            have c15b0:decide (0<(((bX l0 1).f1).length:Int))=true:=bB c15
            have c15b1:decide (0<((bX l0 1).f1).length)=true:=bB (by omega)
            clear c15;have H':=aK H;clear H;obtain ⟨hcz16_0,hcz16_1,hfz16_0,hfz16_1⟩:=rL BK299;have p300:0≤(0:Int):=(by omega)
            have q300:0<(((bX l0 1).f1).length:Int):=bA fU
            obtain ⟨ad300,e300,hx300_0⟩:=dA HR298_1.out 0 p300 q300
            cases e300
            have qi300:(0<((bX l0 1).f1).length)=True:=bL (by omega)
            (try rw [show ((0:Int)).toNat=0 from rfl] at hx300_0)
            (try rw [Addr.add_zero'] at hx300_0)
            have hn300_0:ad300.block≠gb299:=mW (rM (by have:=bE _ _ hx300_0;first|rwa [vH] at this|exact this) GW299.out)
            have hn300_1:ad300.block≠gb299:=mW (rM (by have:=bE _ _ hx300_0;first|rwa [vH] at this|exact this) GW299.out)
            replace hx300_0:=(HB.out.cell (bE w _ hx300_0)).trans hx300_0;replace hx300_0:=(bHq (p:=⟨gb299,0,none⟩) (by first|(rw [vH];exact hn300_0)|(show (Addr.add _ _).block≠_;rw [vH];exact hn300_0)|exact hn300_0) (.int .i64 ((bX l0 1).f0))).trans hx300_0;replace hx300_0:=(bHq (p:=⟨gb299,1,none⟩) (by first|(rw [vH];exact hn300_1)|(show (Addr.add _ _).block≠_;rw [vH];exact hn300_1)|exact hn300_1) (.slice (some ad300) ((bX l0 1).f1).length c298_1)).trans hx300_0;clear hn300_0;clear hn300_1;replace p300:=bL p300;replace q300:=bL q300;go_wp2;go_meet
            case rel=>exact ⟨_,(((rd ((bX l0 1).f1) 0) !=1)),kG,H',⟨by have:=HJ1.out;have:=HJ4.out;first|omega|exact bV _⟩,⟨by (with_reducible repeat (first|refine bU ?_ _|refine bW ?_|refine bT ?_ _));refine gC (cs:= #[.int .i64 ((bX l0 1).f0),.slice none 0 0]) ?_ 1 _ rfl;(with_reducible repeat (first|refine bU ?_ _|refine bW ?_|refine bT ?_ _));refine gC (cs:= #[.int .i64 0,.slice none 0 0]) ?_ 0 _ rfl;(with_reducible repeat (first|refine bU ?_ _|refine bW ?_|refine bT ?_ _));exact BK299.out⟩,⟨by repeat (first|(with_reducible first|exact HB.out|apply bI|apply bF|apply bH|refine bY ?_ GE299.out)|exact HB.out)⟩⟩
           ·rw [if_neg c15] at H
            exact absurd H (by simp)
          ·rw [if_neg c14] at H
           have c14b0:((((bX l0 1).f1).length:Int)==1)=false:=tP.mpr c14
           have c14b1:((((bX l0 1).f1).length:Int) !=1)=true:=bne_iff_ne.mpr c14
           have H':=aK H;clear H;obtain ⟨hcz17_0,hcz17_1,hfz17_0,hfz17_1⟩:=rL BK299;go_wp2;go_meet
           case rel=>exact ⟨_,(true),kG,H',⟨by have:=HJ1.out;have:=HJ4.out;first|omega|exact bV _⟩,⟨by (with_reducible repeat (first|refine bU ?_ _|refine bW ?_|refine bT ?_ _));refine gC (cs:= #[.int .i64 ((bX l0 1).f0),.slice none 0 0]) ?_ 1 _ rfl;(with_reducible repeat (first|refine bU ?_ _|refine bW ?_|refine bT ?_ _));refine gC (cs:= #[.int .i64 0,.slice none 0 0]) ?_ 0 _ rfl;(with_reducible repeat (first|refine bU ?_ _|refine bW ?_|refine bT ?_ _));exact BK299.out⟩,⟨by repeat (first|(with_reducible first|exact HB.out|apply bI|apply bF|apply bH|refine bY ?_ GE299.out)|exact HB.out)⟩⟩
         ·rw [if_neg c13] at H
          have c13b0:(((bX l0 1).f0)==0)=false:=tP.mpr c13
          have c13b1:(((bX l0 1).f0) !=0)=true:=bne_iff_ne.mpr c13
          (first|rw [c13b0]|(simp only [mC,qF];rw [c13b0])|skip)
          have H':=aK H;clear H;obtain ⟨hcz18_0,hcz18_1,hfz18_0,hfz18_1⟩:=rL BK299;go_wp2;go_meet
          case rel=>exact ⟨_,(true),kG,H',⟨by have:=HJ1.out;have:=HJ4.out;first|omega|exact bV _⟩,⟨by (with_reducible repeat (first|refine bU ?_ _|refine bW ?_|refine bT ?_ _));refine gC (cs:= #[.int .i64 ((bX l0 1).f0),.slice none 0 0]) ?_ 1 _ rfl;(with_reducible repeat (first|refine bU ?_ _|refine bW ?_|refine bT ?_ _));refine gC (cs:= #[.int .i64 0,.slice none 0 0]) ?_ 0 _ rfl;(with_reducible repeat (first|refine bU ?_ _|refine bW ?_|refine bT ?_ _));exact BK299.out⟩,⟨by repeat (first|(with_reducible first|exact HB.out|apply bI|apply bF|apply bH|refine bY ?_ GE299.out)|exact HB.out)⟩⟩
        case rest =>
         clear HC10;(try clear c1);(try clear c2);(try clear p2);(try clear q2);(try clear hx2);(try clear qi2);(try clear c3);(try clear c3b0);(try clear c3b1);(try clear p3);(try clear q3);(try clear hx3);(try clear qi3);(try clear c4);(try clear c6);(try clear c6b0);(try clear c6b1);(try clear c7);(try clear c7b0);(try clear c7b1);(try clear c8);(try clear c9);(try clear c9b0);(try clear c9b1);(try clear c13);(try clear c13b0);(try clear c13b1);(try clear c14);(try clear c14b0);(try clear c14b1);(try clear c15);(try clear c15b0);(try clear c15b1);(try clear hcz12_0);(try clear hcz12_1);(try clear hcz16_0);(try clear hcz16_1);(try clear hcz17_0);(try clear hcz17_1);(try clear hcz18_0);(try clear hcz18_1);(try clear hfz12_0);(try clear hfz12_1);(try clear hfz16_0);(try clear hfz16_1);(try clear hfz17_0);(try clear hfz17_1);(try clear hfz18_0);(try clear hfz18_1);(try clear hx296_0);(try clear hx296_1);(try clear hx297_0);(try clear hx297_1);(try clear hx298_0);(try clear hx298_1);(try clear hx300_0);(try clear p2);(try clear p296);(try clear p297);(try clear p298);(try clear p300);(try clear q2);(try clear q296);(try clear q297);(try clear q298);(try clear q300);obtain ⟨kq,x47_9,rfl,HA,HJ9,BK299,HB⟩:=hcut
         cases kq with
         |zero=>exact absurd HA.out (by simp [hP])
         | succ kj9 =>
          have H:=HA.out;clear HA;simp only [hP] at H;by_cases c19:x47_9=true
          ·subst c19
           rw [if_pos rfl] at H;obtain rfl:=bC H;go_wp2;go_ret;exact ⟨sL,bLe⟩
          ·replace c19 := Bool.eq_false_iff.mpr c19
           subst c19;rw [if_neg (show¬(false=true) by decide)] at H;have H':=aK H;clear H;go_wp2
           go_loopg [50] kj9 (fun kq v50 w'=> ∃(x50_4:Int),v50= .int .i64 x50_4∧Aside0 (jQ kq l0 l0 (l0.length:Int) x50_4=some r)∧Aside0 (kq≤kj9)∧Aside0 (w'.heap[gb299]? =some (.cells #[.int .i64 ((bX l0 1).f0),(.slice A298_1 ((bX l0 1).f1).length c298_1)] 78 (0,0)))∧Aside0 (Below w.heap.size w w'))
           case atStart=>exact ⟨(0),kG,H',⟨bV _⟩,⟨by (with_reducible repeat (first|refine bU ?_ _|refine bW ?_|refine bT ?_ _));exact BK299.out⟩,⟨by repeat (first|(with_reducible first|exact HB.out|apply bI|apply bF|apply bH|refine bY ?_ GE299.out)|exact HB.out)⟩⟩
           case round =>
            clear H';(try clear c1);(try clear c2);(try clear p2);(try clear q2);(try clear hx2);(try clear qi2);(try clear c3);(try clear c3b0);(try clear c3b1);(try clear p3);(try clear q3);(try clear hx3);(try clear qi3);(try clear c4);(try clear c6);(try clear c6b0);(try clear c6b1);(try clear c7);(try clear c7b0);(try clear c7b1);(try clear c8);(try clear c9);(try clear c9b0);(try clear c9b1);(try clear c13);(try clear c13b0);(try clear c13b1);(try clear c14);(try clear c14b0);(try clear c14b1);(try clear c15);(try clear c15b0);(try clear c15b1);(try clear c19);(try clear hcz12_0);(try clear hcz12_1);(try clear hcz16_0);(try clear hcz16_1);(try clear hcz17_0);(try clear hcz17_1);(try clear hcz18_0);(try clear hcz18_1);(try clear hfz12_0);(try clear hfz12_1);(try clear hfz16_0);(try clear hfz16_1);(try clear hfz17_0);(try clear hfz17_1);(try clear hfz18_0);(try clear hfz18_1);(try clear hx296_0);(try clear hx296_1);(try clear hx297_0);(try clear hx297_1);(try clear hx298_0);(try clear hx298_1);(try clear hx300_0);(try clear p2);(try clear p296);(try clear p297);(try clear p298);(try clear p3);(try clear p300);(try clear q2);(try clear q296);(try clear q297);(try clear q298);(try clear q3);(try clear q300);obtain ⟨x50_4,rfl,HA,HK4,BK299,HB⟩:=hrel
            cases gk with
            |zero=>exact absurd HA.out (by simp [jQ])
            | succ k4 =>
             have H:=HA.out;clear HA;simp only [jQ] at H;by_cases c20:x50_4<(l0.length:Int)
             ·rw [if_pos c20] at H
              have c20b0:decide (x50_4<(l0.length:Int))=true:=bB c20
              clear c20;by_cases c21:0≤x50_4
              ·rw [if_pos c21] at H
               have c21b0:decide (0≤x50_4)=true:=bB c21
               clear c21;by_cases c22:x50_4<(l0.length:Int)
               ·rw [if_pos c22] at H
                have c22b0:decide (x50_4<(l0.length:Int))=true:=bB c22
                clear c22;have HC23:=aK H;clear H;have p301:0≤(x50_4:Int):=bA fU
                have q301:x50_4<(l0.length:Int):=bA fU
                obtain ⟨ad301,A301_1,c301_1,e301,hx301_0,hx301_1,hl301_1,hi301_1⟩:=sF HR0.out x50_4 p301 q301;obtain rfl:ad298=ad301:=(by injection e301);replace hx301_0:=(HB.out.cell (bE w _ hx301_0)).trans hx301_0;replace hx301_1:=(HB.out.cell (bE w _ hx301_1)).trans hx301_1;have HR301_1:=aK hi301_1;have HC301_1:=aK hl301_1;clear hi301_1 hl301_1;replace p301:=bL p301;replace q301:=bL q301
                go_upto_region 11 with (first|((with_reducible refine dG (N:=5) rfl ?_);(try (refine yS (by rfl) ?_;dsimp only));refine dN ?hg (N:=5) ?hd (cs:= #[.int .i64 0,.slice none 0 0]) (t:=78) ?hr ?_;(case hd=>rfl);(case hg=>rfl);(case hr=>first|(go_simp;done)|(go_simp;rfl));intro gb302 hg w24 hbox hb;have BK302:=aK (hbox);have GW302:=aK ((by rw [hg];exact (bN bLe):w.heap.size≤gb302));have GE302:=aK ((by rw [hg];exact (bN bLe):w.heap.size≤gb302));have NB299_302:=aK ((by rw [hg];exact mW (cK (g:=gb299) (o:= .cells #[.int .i64 ((bX l0 1).f0),.slice A298_1 ((bX l0 1).f1).length c298_1] 78 (0,0)) (by (with_reducible repeat (first|refine bU ?_ _|refine bW ?_|refine bT ?_ _));exact BK299.out)):gb299≠gb302));have NB302_299:=aK ((by rw [hg];exact nJ (cK (g:=gb299) (o:= .cells #[.int .i64 ((bX l0 1).f0),.slice A298_1 ((bX l0 1).f1).length c298_1] 78 (0,0)) (by (with_reducible repeat (first|refine bU ?_ _|refine bW ?_|refine bT ?_ _));exact BK299.out)):gb302≠gb299));replace BK299:=aK (cJ (g:=gb299) (o:= .cells #[.int .i64 ((bX l0 1).f0),.slice A298_1 ((bX l0 1).f1).length c298_1] 78 (0,0)) (by (with_reducible repeat (first|refine bU ?_ _|refine bW ?_|refine bT ?_ _));exact BK299.out) hb);replace HB:=aK (bG bLe hb);clear hb hbox hg;have hnb25:=NB302_299.out;have hnc25:=NB299_302.out;obtain ⟨hcz26_0,hcz26_1,hfz26_0,hfz26_1⟩:=rL BK302))
                (try simp only [Act.put,fL,jB,jC])
                go_cut [67] (fun v67 wc=> ∃(kq:Nat) (x67_22:Bool),v67= .bool x67_22∧Aside0 (hO kq l0 l0 (l0.length:Int) x50_4 x67_22 ((bX l0 x50_4).f0) ((bX l0 x50_4).f1)=some r)∧Aside0 (kq≤k4)∧Aside0 (wc.heap[gb299]? =some (.cells #[.int .i64 ((bX l0 1).f0),(.slice A298_1 ((bX l0 1).f1).length c298_1)] 78 (0,0)))∧Aside0 (wc.heap[gb302]? =some (.cells #[.int .i64 ((bX l0 x50_4).f0),(.slice A301_1 ((bX l0 x50_4).f1).length c301_1)] 78 (0,0)))∧Aside0 (Below w.heap.size w wc))
                case first=>
                 have H:=HC23.out;clear HC23;by_cases c27:x50_4>1
                 ·rw [if_pos c27] at H
                  have c27b0:decide (1<x50_4)=true:=bB c27
                  clear c27
                  (first|rw [c27b0]|(simp only [mC,qF];rw [c27b0])|skip)
                  by_cases c28:((bX l0 x50_4).f0)<0
                  ·rw [if_pos c28] at H
                   have c28b0:decide (((bX l0 x50_4).f0)<0)=true:=bB c28
                   clear c28;have H':=aK H;clear H;have hnb29:=NB302_299.out;have hnc29:=NB299_302.out;obtain ⟨hcz30_0,hcz30_1,hfz30_0,hfz30_1⟩:=rL BK302;go_wp2;go_meet
                   case rel=>exact ⟨_,(true),kG,H',⟨by have:=HJ1.out;have:=HJ4.out;have:=HJ9.out;have:=HK4.out;first|omega|exact bV _⟩,⟨by (with_reducible repeat (first|refine bU ?_ _|refine bW ?_|refine bT ?_ _));refine mQ ?_ NB299_302.out _;(with_reducible repeat (first|refine bU ?_ _|refine bW ?_|refine bT ?_ _));refine mQ ?_ NB299_302.out _;(with_reducible repeat (first|refine bU ?_ _|refine bW ?_|refine bT ?_ _));exact BK299.out⟩,⟨by (with_reducible repeat (first|refine bU ?_ _|refine bW ?_|refine bT ?_ _));refine gC (cs:= #[.int .i64 ((bX l0 x50_4).f0),.slice none 0 0]) ?_ 1 _ rfl;(with_reducible repeat (first|refine bU ?_ _|refine bW ?_|refine bT ?_ _));refine gC (cs:= #[.int .i64 0,.slice none 0 0]) ?_ 0 _ rfl;(with_reducible repeat (first|refine bU ?_ _|refine bW ?_|refine bT ?_ _));exact BK302.out⟩,⟨by repeat (first|(with_reducible first|exact HB.out|apply bI|apply bF|apply bH|refine bY ?_ GE299.out|refine bY ?_ GE302.out)|exact HB.out)⟩⟩
                  ·rw [if_neg c28] at H
                   have c28b0:decide (((bX l0 x50_4).f0)<0)=false:=bJ c28
                   clear c28;have H':=aK H;clear H;have hnb31:=NB302_299.out;have hnc31:=NB299_302.out;obtain ⟨hcz32_0,hcz32_1,hfz32_0,hfz32_1⟩:=rL BK302;go_wp2;go_meet
                   case rel=>exact ⟨_,(decide (((bX l0 x50_4).f0)≥x50_4)),kG,H',⟨by have:=HJ1.out;have:=HJ4.out;have:=HJ9.out;have:=HK4.out;first|omega|exact bV _⟩,⟨by (with_reducible repeat (first|refine bU ?_ _|refine bW ?_|refine bT ?_ _));refine mQ ?_ NB299_302.out _;(with_reducible repeat (first|refine bU ?_ _|refine bW ?_|refine bT ?_ _));refine mQ ?_ NB299_302.out _;(with_reducible repeat (first|refine bU ?_ _|refine bW ?_|refine bT ?_ _));exact BK299.out⟩,⟨by (with_reducible repeat (first|refine bU ?_ _|refine bW ?_|refine bT ?_ _));refine gC (cs:= #[.int .i64 ((bX l0 x50_4).f0),.slice none 0 0]) ?_ 1 _ rfl;(with_reducible repeat (first|refine bU ?_ _|refine bW ?_|refine bT ?_ _));refine gC (cs:= #[.int .i64 0,.slice none 0 0]) ?_ 0 _ rfl;(with_reducible repeat (first|refine bU ?_ _|refine bW ?_|refine bT ?_ _));exact BK302.out⟩,⟨by repeat (first|(with_reducible first|exact HB.out|apply bI|apply bF|apply bH|refine bY ?_ GE299.out|refine bY ?_ GE302.out)|exact HB.out)⟩⟩
                 ·rw [if_neg c27] at H
                  have c27b0:decide (1<x50_4)=false:=bJ c27
                  clear c27
                  (first|rw [c27b0]|(simp only [mC,qF];rw [c27b0])|skip)
                  have H':=aK H;clear H;go_wp2;go_meet
                  case rel=>exact ⟨_,(false),kG,H',⟨by have:=HJ1.out;have:=HJ4.out;have:=HJ9.out;have:=HK4.out;first|omega|exact bV _⟩,⟨by (with_reducible repeat (first|refine bU ?_ _|refine bW ?_|refine bT ?_ _));refine mQ ?_ NB299_302.out _;(with_reducible repeat (first|refine bU ?_ _|refine bW ?_|refine bT ?_ _));refine mQ ?_ NB299_302.out _;(with_reducible repeat (first|refine bU ?_ _|refine bW ?_|refine bT ?_ _));exact BK299.out⟩,⟨by (with_reducible repeat (first|refine bU ?_ _|refine bW ?_|refine bT ?_ _));refine gC (cs:= #[.int .i64 ((bX l0 x50_4).f0),.slice none 0 0]) ?_ 1 _ rfl;(with_reducible repeat (first|refine bU ?_ _|refine bW ?_|refine bT ?_ _));refine gC (cs:= #[.int .i64 0,.slice none 0 0]) ?_ 0 _ rfl;(with_reducible repeat (first|refine bU ?_ _|refine bW ?_|refine bT ?_ _));exact BK302.out⟩,⟨by repeat (first|(with_reducible first|exact HB.out|apply bI|apply bF|apply bH|refine bY ?_ GE299.out|refine bY ?_ GE302.out)|exact HB.out)⟩⟩
                case rest =>
                 clear HC23;(try clear c1);(try clear c2);(try clear p2);(try clear q2);(try clear hx2);(try clear qi2);(try clear c3);(try clear c3b0);(try clear c3b1);(try clear p3);(try clear q3);(try clear hx3);(try clear qi3);(try clear c4);(try clear c6);(try clear c6b0);(try clear c6b1);(try clear c7);(try clear c7b0);(try clear c7b1);(try clear c8);(try clear c9);(try clear c9b0);(try clear c9b1);(try clear c13);(try clear c13b0);(try clear c13b1);(try clear c14);(try clear c14b0);(try clear c14b1);(try clear c15);(try clear c15b0);(try clear c15b1);(try clear c19);(try clear c20);(try clear c20b0);(try clear c21);(try clear c21b0);(try clear c22);(try clear c22b0);(try clear c25);(try clear c27);(try clear c27b0);(try clear c28);(try clear c28b0);(try clear c29);(try clear p29);(try clear q29);(try clear hx29);(try clear qi29);(try clear c30);(try clear p30);(try clear q30);(try clear hx30);(try clear qi30);(try clear c31);(try clear hcz12_0);(try clear hcz12_1);(try clear hcz16_0);(try clear hcz16_1);(try clear hcz17_0);(try clear hcz17_1);(try clear hcz18_0);(try clear hcz18_1);(try clear hcz26_0);(try clear hcz26_1);(try clear hcz30_0);(try clear hcz30_1);(try clear hcz32_0);(try clear hcz32_1);(try clear hfz12_0);(try clear hfz12_1);(try clear hfz16_0);(try clear hfz16_1);(try clear hfz17_0);(try clear hfz17_1);(try clear hfz18_0);(try clear hfz18_1);(try clear hfz26_0);(try clear hfz26_1);(try clear hfz30_0);(try clear hfz30_1);(try clear hfz32_0);(try clear hfz32_1);(try clear hx296_0);(try clear hx296_1);(try clear hx297_0);(try clear hx297_1);(try clear hx298_0);(try clear hx298_1);(try clear hx300_0);(try clear hx301_0);(try clear hx301_1);(try clear p2);(try clear p296);(try clear p297);(try clear p298);(try clear p3);(try clear p300);(try clear p301);(try clear q2);(try clear q296);(try clear q297);(try clear q298);(try clear q3);(try clear q300);(try clear q301);obtain ⟨kq,x67_22,rfl,HA,HJ22,BK299,BK302,HB⟩:=hcut
                 cases kq with
                 |zero=>exact absurd HA.out (by simp [hO])
                 | succ kj22 =>
                  have H:=HA.out;clear HA;simp only [hO] at H;by_cases c33:x67_22=true
                  ·subst c33
                   rw [if_pos rfl] at H;obtain rfl:=bC H;go_wp2;go_ret;exact ⟨sL,zz49⟩
                  ·replace c33 := Bool.eq_false_iff.mpr c33
                   subst c33;rw [if_neg (show¬(false=true) by decide)] at H;by_cases c34:(((bX l0 x50_4).f1).length:Int)>2
                   ·rw [if_pos c34] at H
                    have c34b0:decide (2<(((bX l0 x50_4).f1).length:Int))=true:=bB c34
                    have c34b1:decide (2<((bX l0 x50_4).f1).length)=true:=bB (by omega)
                    clear c34;obtain rfl:=bC H;have hnb35:=NB302_299.out;have hnc35:=NB299_302.out;obtain ⟨hcz36_0,hcz36_1,hfz36_0,hfz36_1⟩:=rL BK302;go_wp2;go_ret;exact ⟨sL,zz49⟩
                   ·rw [if_neg c34] at H
                    have c34b0:decide (2<(((bX l0 x50_4).f1).length:Int))=false:=bJ c34
                    have c34b1:decide (2<((bX l0 x50_4).f1).length)=false:=bJ (by omega)
                    clear c34;have H':=aK H;clear H;have hnb37:=NB302_299.out;have hnc37:=NB299_302.out;obtain ⟨hcz38_0,hcz38_1,hfz38_0,hfz38_1⟩:=rL BK302;go_wp2
                    go_loopg [75] kj22 (fun kq v75 w'=> ∃(x75_6:Int),v75= .int .i64 x75_6∧Aside0 (kI kq l0 l0 (l0.length:Int) x50_4 ((bX l0 x50_4).f1) (((bX l0 x50_4).f1).length:Int) x75_6=some r)∧Aside0 (kq≤kj22)∧Aside0 (w'.heap[gb299]? =some (.cells #[.int .i64 ((bX l0 1).f0),(.slice A298_1 ((bX l0 1).f1).length c298_1)] 78 (0,0)))∧Aside0 (w'.heap[gb302]? =some (.cells #[.int .i64 ((bX l0 x50_4).f0),(.slice A301_1 ((bX l0 x50_4).f1).length c301_1)] 78 (0,0)))∧Aside0 (Below w.heap.size w w'))
                    case atStart=>exact ⟨(0),kG,H',⟨bV _⟩,⟨by (with_reducible repeat (first|refine bU ?_ _|refine bW ?_|refine bT ?_ _));exact BK299.out⟩,⟨by (with_reducible repeat (first|refine bU ?_ _|refine bW ?_|refine bT ?_ _));exact BK302.out⟩,⟨by repeat (first|(with_reducible first|exact HB.out|apply bI|apply bF|apply bH|refine bY ?_ GE299.out|refine bY ?_ GE302.out)|exact HB.out)⟩⟩
                    case round =>
                     clear H';(try clear c1);(try clear c2);(try clear p2);(try clear q2);(try clear hx2);(try clear qi2);(try clear c3);(try clear c3b0);(try clear c3b1);(try clear p3);(try clear q3);(try clear hx3);(try clear qi3);(try clear c4);(try clear c6);(try clear c6b0);(try clear c6b1);(try clear c7);(try clear c7b0);(try clear c7b1);(try clear c8);(try clear c9);(try clear c9b0);(try clear c9b1);(try clear c13);(try clear c13b0);(try clear c13b1);(try clear c14);(try clear c14b0);(try clear c14b1);(try clear c15);(try clear c15b0);(try clear c15b1);(try clear c19);(try clear c20);(try clear c20b0);(try clear c21);(try clear c21b0);(try clear c22);(try clear c22b0);(try clear c25);(try clear c27);(try clear c27b0);(try clear c28);(try clear c28b0);(try clear c29);(try clear p29);(try clear q29);(try clear hx29);(try clear qi29);(try clear c30);(try clear p30);(try clear q30);(try clear hx30);(try clear qi30);(try clear c31);(try clear c33);(try clear c34);(try clear c34b0);(try clear c34b1);(try clear c35);(try clear c37);(try clear hcz12_0);(try clear hcz12_1);(try clear hcz16_0);(try clear hcz16_1);(try clear hcz17_0);(try clear hcz17_1);(try clear hcz18_0);(try clear hcz18_1);(try clear hcz26_0);(try clear hcz26_1);(try clear hcz30_0);(try clear hcz30_1);(try clear hcz32_0);(try clear hcz32_1);(try clear hcz36_0);(try clear hcz36_1);(try clear hcz38_0);(try clear hcz38_1);(try clear hfz12_0);(try clear hfz12_1);(try clear hfz16_0);(try clear hfz16_1);(try clear hfz17_0);(try clear hfz17_1);(try clear hfz18_0);(try clear hfz18_1);(try clear hfz26_0);(try clear hfz26_1);(try clear hfz30_0);(try clear hfz30_1);(try clear hfz32_0);(try clear hfz32_1);(try clear hfz36_0);(try clear hfz36_1);(try clear hfz38_0);(try clear hfz38_1);(try clear hx296_0);(try clear hx296_1);(try clear hx297_0);(try clear hx297_1);(try clear hx298_0);(try clear hx298_1);(try clear hx300_0);(try clear hx301_0);(try clear hx301_1);(try clear p2);(try clear p29);(try clear p296);(try clear p297);(try clear p298);(try clear p3);(try clear p30);(try clear p300);(try clear p301);(try clear q2);(try clear q29);(try clear q296);(try clear q297);(try clear q298);(try clear q3);(try clear q30);(try clear q300);(try clear q301);obtain ⟨x75_6,rfl,HA,HK6,BK299,BK302,HB⟩:=hrel
                     cases gk with
                     |zero=>exact absurd HA.out (by simp [kI])
                     | succ k6 =>
                      have H:=HA.out;clear HA;simp only [kI] at H;by_cases c39:x75_6<(((bX l0 x50_4).f1).length:Int)
                      ·rw [if_pos c39] at H
                       have c39b0:decide (x75_6<(((bX l0 x50_4).f1).length:Int))=true:=bB c39
                       clear c39;by_cases c40:0≤x75_6
                       ·rw [if_pos c40] at H
                        have c40b0:decide (0≤x75_6)=true:=bB c40
                        clear c40;by_cases c41:x75_6<(((bX l0 x50_4).f1).length:Int)
                        ·rw [if_pos c41] at H
                         have c41b0:decide (x75_6<(((bX l0 x50_4).f1).length:Int))=true:=bB c41
                         clear c41;replace H:=Option.bind_eq_some_iff.mp H;obtain ⟨t304,A420,H⟩:=H;(try dsimp only at H);have A42:=aK A420;clear A420;by_cases c43:t304=true
                         ·subst c43
                          rw [if_pos rfl] at H;have H':=aK H;clear H;have p303:0≤(x75_6:Int):=bA fU
                          have q303:x75_6<(((bX l0 x50_4).f1).length:Int):=bA fU
                          obtain ⟨ad303,e303,hx303_0⟩:=dA HR301_1.out x75_6 p303 q303
                          cases e303
                          replace hx303_0:=(HB.out.cell (bE w _ hx303_0)).trans hx303_0;replace p303:=bL p303;replace q303:=bL q303
                          go_wp2_with (first|((with_reducible refine cD (f:=134) rfl ?_);refine dT (some 82) rfl rfl Tryz.func134 (by kernel_rfl) rfl #[.int .i64 (l0.length:Int),.int .i64 (rd ((bX l0 x50_4).f1) x75_6)] rfl mO ?_;(with_reducible refine (tC (l0.length:Int) (rd ((bX l0 x50_4).f1) x75_6) true _ A42.out).mono ?_);rintro e w' ⟨rfl,⟨nd,rfl⟩⟩;refine ⟨_,rfl,?_⟩))
                          go_roundg k6
                          case measure=>have:=HJ1.out;have:=HJ4.out;have:=HJ9.out;have:=HK4.out;have:=HJ22.out;have:=HK6.out;omega
                          case rel=>exact ⟨(wrap64 (x75_6+1)),kG,H',⟨by have:=HJ1.out;have:=HJ4.out;have:=HJ9.out;have:=HK4.out;have:=HJ22.out;have:=HK6.out;omega⟩,⟨by (with_reducible repeat (first|refine bU ?_ _|refine bW ?_|refine bT ?_ _));exact BK299.out⟩,⟨by (with_reducible repeat (first|refine bU ?_ _|refine bW ?_|refine bT ?_ _));exact BK302.out⟩,⟨by repeat (first|(with_reducible first|exact HB.out|apply bI|apply bF|apply bH|refine bY ?_ GE299.out|refine bY ?_ GE302.out)|exact HB.out)⟩⟩
                         ·replace c43 := Bool.eq_false_iff.mpr c43
                          subst c43;rw [if_neg (show¬(false=true) by decide)] at H;obtain rfl:=bC H;have p303:0≤(x75_6:Int):=bA fU
                          have q303:x75_6<(((bX l0 x50_4).f1).length:Int):=bA fU
                          obtain ⟨ad303,e303,hx303_0⟩:=dA HR301_1.out x75_6 p303 q303
                          cases e303
                          replace hx303_0:=(HB.out.cell (bE w _ hx303_0)).trans hx303_0;replace p303:=bL p303;replace q303:=bL q303
                          go_wp2_with (first|((with_reducible refine cD (f:=134) rfl ?_);refine dT (some 82) rfl rfl Tryz.func134 (by kernel_rfl) rfl #[.int .i64 (l0.length:Int),.int .i64 (rd ((bX l0 x50_4).f1) x75_6)] rfl mO ?_;(with_reducible refine (tC (l0.length:Int) (rd ((bX l0 x50_4).f1) x75_6) false _ A42.out).mono ?_);rintro e w' ⟨rfl,⟨nd,rfl⟩⟩;refine ⟨_,rfl,?_⟩))
                          go_ret;exact ⟨sL,zz49⟩
                        ·rw [if_neg c41] at H
                         exact absurd H (by simp)
                       ·rw [if_neg c40] at H
                        exact absurd H (by simp)
                      ·rw [if_neg c39] at H
                       have c39b0:decide (x75_6<(((bX l0 x50_4).f1).length:Int))=false:=bJ c39
                       clear c39;have H':=aK H;clear H;go_wp2
                       go_roundg k6
                       case measure=>have:=HJ1.out;have:=HJ4.out;have:=HJ9.out;have:=HK4.out;have:=HJ22.out;have:=HK6.out;omega
                       case rel=>exact ⟨(wrap64 (x50_4+1)),kG,H',⟨by have:=HJ1.out;have:=HJ4.out;have:=HJ9.out;have:=HK4.out;have:=HJ22.out;have:=HK6.out;omega⟩,⟨by (with_reducible repeat (first|refine bU ?_ _|refine bW ?_|refine bT ?_ _));exact BK299.out⟩,⟨by repeat (first|(with_reducible first|exact HB.out|apply bI|apply bF|apply bH|refine bY ?_ GE299.out|refine bY ?_ GE302.out)|exact HB.out)⟩⟩
               ·rw [if_neg c22] at H
                exact absurd H (by simp)
              ·rw [if_neg c21] at H
               exact absurd H (by simp)
             ·rw [if_neg c20] at H
              have c20b0:decide (x50_4<(l0.length:Int))=false:=bJ c20
              clear c20;obtain rfl:=bC H;go_wp2;go_ret;exact ⟨sL,bLe⟩
       ·rw [if_neg c9] at H
        exact absurd H (by simp)
end Go.Proofs.YtbaklikaoleplaaGreat.K
namespace Go.Proofs.YtbaklikaoleplaaGreat.K
open Go.RowKit Go.Proofs.YtbaklikaoleplaaGreatW.PrintWords Go.Proofs.YtbaklikaoleplaaGreatW.PrintLast Go.Proofs.YtbaklikaoleplaaGreatW.PrintMore
attribute [local go_sem] gV gT jT jS fY fX gU gR
set_option linter.unusedVariables false
set_option linter.unusedSimpArgs false
theorem vC (x:Int) (w:World):Calls Tryz.prog 135 #[.int .i64 x] w fun e w'=>e= .returned (.bool (x==0))∧Below w.heap.size w w':=by
 go_enter Tryz.func135,Tryz.ntmps135;go_wp2;go_ret;exact ⟨rfl,by repeat (first|exact bQ _ _|apply bH|apply bF)⟩
theorem pK (A:Option Addr) (c:Nat) (l:List Int) (W:World) (hr:Kd.C (Kd.int .i64) W A l.length l) (hl:l.length≤281474976710656):
  Calls Tryz.prog 119 #[.slice A l.length c,.func (.func 135) #[] #[]] W fun e w'=>e= .returned (.bool (l.all (· ==0)))∧Below W.heap.size W w':=by
 have HR:=aK hr;have HL:=aK hl;clear hr hl;go_enter Tryz.func119,Tryz.ntmps119;go_wp2
 go_loopw [9] (fun i wr=> ∃k:Nat,k≤l.length∧i= .int .i64 k∧Aside0 ((l.drop k).all (· ==0)=l.all (· ==0))∧Aside0 (Below W.heap.size W wr)) (fun i _=>l.length - (intOf i).toNat)
 case atStart=>exact ⟨0,xD _,rfl,⟨by simp⟩,⟨bQ _ _⟩⟩
 case round=>
  obtain ⟨k,hk,rfl,HN,HB⟩:=hrel;by_cases hlt:k<l.length
  ·have hd := fO hlt
   have hg:l[k]=rd l k:=by unfold rd;rw [dK,bM,bO hlt];rfl
   obtain ⟨ad,e0,hcell⟩:=dA (bS HR.out HB.out) k (by omega) (by omega)
   cases e0
   rw [dK] at hcell;have HN2:=HN.out;rw [hd,hg,List.all_cons] at HN2;have HX:=aK HN2;clear hd hg HN HN2;generalize rd l k=x at*;by_cases hx:x=0
   ·have d1 : (x == 0) = true := beq_iff_eq.mpr hx
    have HY:=aK (show (l.drop (k+1)).all (· ==0)=l.all (· ==0) by have:=HX.out;rw [d1,jD] at this;exact this);clear hx HX
    go_wp2_with fail
    refine (vC x _).mono ?_;rw [d1];rintro e w2 ⟨rfl,hb2⟩;have HB2:=aK (bG HB.out hb2);clear hb2;go_wp2
    go_roundw
    case rel=>exact ⟨k+1,by omega,by rw [show wrap64 ((k:Int)+1)=((k+1:Nat):Int) by have:=HL.out;unfold wrap64;omega],HY,HB2⟩
    case measure=>rw [show wrap64 ((k:Int)+1)=((k+1:Nat):Int) by have:=HL.out;unfold wrap64;omega];simp only [intOf,dK];omega
   ·have d1 : (x == 0) = false := tP.mpr hx
    have HY:=aK (show l.all (· ==0)=false by have:=HX.out;rw [d1,Bool.false_and] at this;exact this.symm);clear hx HX
    go_wp2_with fail
    refine (vC x _).mono ?_;rw [d1];rintro e w2 ⟨rfl,hb2⟩;have HB2:=aK (bG HB.out hb2);clear hb2;go_wp2;go_ret;exact ⟨by rw [HY.out];rfl,HB2.out⟩
  ·have d0 : decide ((k : Int) < l.length) = false := bJ (by omega)
   have HY:=aK (show l.all (· ==0)=true by rw [←HN.out,kW (by omega)];rfl);go_wp2;go_ret;exact ⟨by rw [HY.out];rfl,HB.out⟩
end Go.Proofs.YtbaklikaoleplaaGreat.K
namespace Go.Proofs.YtbaklikaoleplaaGreat.K
open Go.RowKit Go.Proofs.YtbaklikaoleplaaGreatW.PrintWords Go.Proofs.YtbaklikaoleplaaGreatW.PrintLast Go.Proofs.YtbaklikaoleplaaGreatW.PrintMore
attribute [local go_sem] gV gT jT jS fY fX gU gR
set_option linter.unusedVariables false
set_option linter.unusedSimpArgs false
def dO (a0:Int) (a1:Int) (a2:Int):Option (Bool):=if a0≤a1 then (some (decide (a1≤a2))) else (some false)
theorem dB (a0:Int) (a1:Int) (a2:Int) (r:Bool) (w:World) (h:dO a0 a1 a2=some r):
  Calls Tryz.prog 136 #[.int .i64 a0,.int .i64 a1,.int .i64 a2] w fun e w'=>e= .returned (.bool r)∧Drawn0 w w':=by
 have H:(if a0≤a1 then (some (decide (a1≤a2))) else (some false))=some r:=h
 clear h;by_cases c4:a0≤a1
 ·rw [if_pos c4] at H
  have c4b0:decide (a0≤a1)=true:=bB c4
  clear c4;obtain rfl:=bC H;go_enter Tryz.func136,Tryz.ntmps136;go_wp2;go_ret;exact ⟨kG,nP⟩
 ·rw [if_neg c4] at H
  have c4b0:decide (a0≤a1)=false:=bJ c4
  clear c4;obtain rfl:=bC H;go_enter Tryz.func136,Tryz.ntmps136;go_wp2;go_ret;exact ⟨kG,nP⟩
end Go.Proofs.YtbaklikaoleplaaGreat.K
namespace Go.Proofs.YtbaklikaoleplaaGreat.K
open Go.RowKit Go.Proofs.YtbaklikaoleplaaGreatW.PrintWords Go.Proofs.YtbaklikaoleplaaGreatW.PrintLast Go.Proofs.YtbaklikaoleplaaGreatW.PrintMore
attribute [local go_sem] gV gT jT jS fY fX gU gR
set_option linter.unusedVariables false
set_option linter.unusedSimpArgs false
def qR (a0:Int):Option (Int):=some (wrap64 (Int.tdiv (wrap64 ((wrap64 (a0+4)) - 1)) 4))
theorem pW (a0:Int) (r:Int) (w:World) (h:qR a0=some r):
  Calls Tryz.prog 137 #[.int .i64 a0] w fun e w'=>e= .returned (.int .i64 r)∧Drawn0 w w':=by
 have H:(some (wrap64 (Int.tdiv (wrap64 ((wrap64 (a0+4)) - 1)) 4)))=some r:=h
 clear h;obtain rfl:=bC H;go_enter Tryz.func137,Tryz.ntmps137;go_wp2;go_ret;exact ⟨kG,nP⟩
end Go.Proofs.YtbaklikaoleplaaGreat.K
namespace Go.Proofs.YtbaklikaoleplaaGreat.K
open Go.RowKit Go.Proofs.YtbaklikaoleplaaGreatW.PrintWords Go.Proofs.YtbaklikaoleplaaGreatW.PrintLast Go.Proofs.YtbaklikaoleplaaGreatW.PrintMore
attribute [local go_sem] gV gT jT jS fY fX gU gR
set_option linter.unusedVariables false
set_option linter.unusedSimpArgs false
theorem bDh (ad:Addr) (n c y:Nat) (a1 a2 a3:Int) (v4:Value) (h4:v4.oneCell'=true) (w:World) (hy:a1=(y:Int)) (h1:y≤n) (hc:n≤c):
  Calls Tryz.prog 138 #[.agg #[.slice (some ad) n c,.int .i64 a1,.int .i64 a2,.int .i64 a3,v4]] w fun e w'=>e= .returned (.agg #[.slice (some ad) y c,.slice (if c=y then some ad else some (ad.add y)) (n - y) (c - y)])∧Below w.heap.size w w':=by
 have p2:=bL (show a1≤(n:Int) by omega);have p1:=bL (show 0≤a1 by omega);have p3:=bL (show a1≤(c:Int) by omega);have p4:=bL (show y≤n by omega);have p5:=bL (show y≤c by omega);have p6:a1.toNat=y:=by omega
 go_enter Tryz.func138,Tryz.ntmps138;go_wp2
 go_region
 all_goals go_wp2
 all_goals refine tD (results_cell_row rfl _ _ (w.heap.size+1) 151 _ (0,0) _ rfl (bW (bCg w _ _).2) Tryz.underlying151 rfl (by kernel_rfl)) rfl ?_
 ·refine ⟨by first | rfl | (simp; done) | (simp; rfl), ?_⟩
  exact bH (bI (bI (bQ _ _) _) _)
 ·refine ⟨?_, bH (bI (bI (bQ _ _) _) _)⟩
  first|rfl|(rw [if_neg (by omega)];rfl)
theorem Mem_parts.calls2 (ad ad2:Addr) (n c y z zc:Nat) (a1 a2 a3:Int) (v4:Value) (h4:v4.oneCell'=true) (w:World) (hy:a1=(y:Int)) (h1:y≤n) (hc:n≤c) (h2:(if c=y then some ad else some (ad.add y))=some ad2) (hz:n - y=z) (hzc:c - y=zc):
  Calls Tryz.prog 138 #[.agg #[.slice (some ad) n c,.int .i64 a1,.int .i64 a2,.int .i64 a3,v4]] w fun e w'=>e= .returned (.agg #[.slice (some ad) y c,.slice (some ad2) z zc])∧Below w.heap.size w w':=by
 subst hz hzc;rw [←h2];exact bDh ad n c y a1 a2 a3 v4 h4 w hy h1 hc
end Go.Proofs.YtbaklikaoleplaaGreat.K
