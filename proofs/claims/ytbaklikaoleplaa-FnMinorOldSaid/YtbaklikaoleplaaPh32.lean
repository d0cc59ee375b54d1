import Derived.Test.YtbaklikaoleplaaPh24
import Derived.Test.YtbaklikaoleplaaPh28
import Derived.Test.YtbaklikaoleplaaPh31
import Derived.Test.YtbaklikaoleplaaPh29
import Derived.Test.YtbaklikaoleplaaPh26
set_option maxHeartbeats 16000000
set_option maxRecDepth 100000
namespace Go.Proofs.Ytbaklikaoleplaa.K
open Go.RowKit Go.Proofs.YtbaklikaoleplaaW.PrintWords Go.Proofs.YtbaklikaoleplaaW.PrintLast Go.Proofs.YtbaklikaoleplaaW.PrintMore
attribute [local go_sem] gD gB gY gW fR fQ gC gA
set_option linter.unusedVariables false
set_option linter.unusedSimpArgs false
mutual
def fA:Nat→List Bool→Int→List Bool→Int→List Int→Int→Int→Int→List Bool→Option (Bool)
 |0,_,_,_,_,_,_,_,_,_=>none
 |k+1,x2,x3,x9,x10,x190000,x190001,x190002,x190003,x190004=>if x10<(x9.length:Int) then (if 0≤(wrap64 (x3+x10)) then (if (wrap64 (x3+x10))<(x190000.length:Int) then (if 0≤x10 then (if kK false x9 x10=true then ((pW x2 (rd x190000 (wrap64 (x3+x10)))).bind fun t197=>(if t197=true then (gS k x2 x3 x9 x10 (rd x190000 (wrap64 (x3+x10))) false x190000 x190001 x190002 x190003 x190004) else (gS k x2 x3 x9 x10 (rd x190000 (wrap64 (x3+x10))) true x190000 x190001 x190002 x190003 x190004))) else ((sX (rd x190000 (wrap64 (x3+x10)))).bind fun t200=>(gS k x2 x3 x9 x10 (rd x190000 (wrap64 (x3+x10))) (!t200) x190000 x190001 x190002 x190003 x190004))) else (none)) else (none)) else (none)) else (some true)
def gS:Nat→List Bool→Int→List Bool→Int→Int→Bool→List Int→Int→Int→Int→List Bool→Option (Bool)
 |0,_,_,_,_,_,_,_,_,_,_,_=>none
 |k+1,x2,x3,x9,x10,x11,x57,x190000,x190001,x190002,x190003,x190004=>if x57=true then (some false) else (if 0≤x10 then (if x10<(x9.length:Int) then (if kK false x9 x10=true then (if x3≥x190001 then ((fK x11 1 x190001).bind fun t202=>(if t202=true then (if 0≤(wrap64 (Int.tdiv (wrap64 ((wrap64 (x3+x10)) - x190001)) 4)) then (if (wrap64 (Int.tdiv (wrap64 ((wrap64 (x3+x10)) - x190001)) 4))<(x190004.length:Int) then (if (kK false x190004 (wrap64 (Int.tdiv (wrap64 ((wrap64 (x3+x10)) - x190001)) 4))=true) then (fA k x2 x3 x9 (wrap64 (x10+1)) x190000 x190001 x190002 x190003 x190004) else (some false)) else (none)) else (none)) else (fA k x2 x3 x9 (wrap64 (x10+1)) x190000 x190001 x190002 x190003 x190004))) else (fA k x2 x3 x9 (wrap64 (x10+1)) x190000 x190001 x190002 x190003 x190004)) else (fA k x2 x3 x9 (wrap64 (x10+1)) x190000 x190001 x190002 x190003 x190004)) else (none)) else (none))
end
def tC (k:Nat) (l0:List (S53)) (l1_0:List Int) (a1_1:Int) (a1_2:Int) (a1_3:Int) (l1_4:List Bool) (l2:List Bool) (a3:Int):Option (Bool):=(mQ k l0 l1_0 a3).bind fun t190=>(if 0≤a3 then (if a3<(l1_0.length:Int) then ((jD (rd l1_0 a3)).bind fun t194=>(fA k l2 a3 t190 t194 l1_0 a1_1 a1_2 a1_3 l1_4)) else (none)) else (none))
theorem xU (k : Nat) (A0 : Option Addr) (c0 : Nat) (l0 : List (S53)) (A1_0 : Option Addr) (c1_0 : Nat) (l1_0 : List Int) (a1_1 : Int) (a1_2 : Int) (a1_3 : Int) (A1_4 : Option Addr) (c1_4 : Nat) (l1_4 : List Bool) (A2 : Option Addr) (c2 : Nat) (l2 : List Bool) (a3 : Int) (r : Bool) (w : World) (hr0 : Kd.C tU w A0 l0.length l0) (hc0 : l0.length ≤ c0) (hr1_0 : Kd.C (Kd.int .i64) w A1_0 l1_0.length l1_0) (hc1_0 : l1_0.length ≤ c1_0) (hr1_4 : Kd.C Kd.bool w A1_4 l1_4.length l1_4) (hc1_4 : l1_4.length ≤ c1_4) (hr2 : Kd.C Kd.bool w A2 l2.length l2) (hc2 : l2.length ≤ c2) (h : tC k l0 l1_0 a1_1 a1_2 a1_3 l1_4 l2 a3 = some r) :
  Calls Try.prog 72 #[.slice A0 l0.length c0,.agg #[.slice A1_0 l1_0.length c1_0,.int .i64 a1_1,.int .i64 a1_2,.int .i64 a1_3,.slice A1_4 l1_4.length c1_4],.slice A2 l2.length c2,.int .i64 a3] w fun e w'=>e= .returned (.bool r)∧Below w.heap.size w w':=by
 have hu29:=Try.underlying29;have HR0:=aK hr0;have HC0:=aK hc0;clear hr0 hc0;have HR1_0:=aK hr1_0;have HC1_0:=aK hc1_0;clear hr1_0 hc1_0;have HR1_4:=aK hr1_4;have HC1_4:=aK hc1_4;clear hr1_4 hc1_4;have HR2:=aK hr2;have HC2:=aK hc2;clear hr2 hc2;have HB:=aK (bH w.heap.size w);have H:((mQ k l0 l1_0 a3).bind fun t190=>(if 0≤a3 then (if a3<(l1_0.length:Int) then ((jD (rd l1_0 a3)).bind fun t194=>(fA k l2 a3 t190 t194 l1_0 a1_1 a1_2 a1_3 l1_4)) else (none)) else (none)))=some r:=h
 clear h;replace H:=Option.bind_eq_some_iff.mp H;obtain ⟨t190,A50,H⟩:=H;(try dsimp only at H);have A5:=aK A50;clear A50;by_cases c6:0≤a3
 ·rw [if_pos c6] at H
  have c6b0:decide (0≤a3)=true:=bD c6
  clear c6;by_cases c7:a3<(l1_0.length:Int)
  ·rw [if_pos c7] at H
   have c7b0:decide (a3<(l1_0.length:Int))=true:=bD c7
   clear c7;replace H:=Option.bind_eq_some_iff.mp H;obtain ⟨t194,A80,H⟩:=H;(try dsimp only at H);have A8:=aK A80;clear A80;have H':=aK H;clear H;go_enter Try.func72,Try.ntmps72
   go_wp2_with (first|((with_reducible refine dK (N:=5) rfl ?_);refine dM ?hg (N:=5) ?hd (cs:= #[.slice A1_0 l1_0.length c1_0,.int .i64 a1_1,.int .i64 a1_2,.int .i64 a1_3,.slice A1_4 l1_4.length c1_4]) (t:=29) ?hr ?_;(case hd=>rfl);(case hg=>rfl);(case hr=>first|(go_simp;done)|(go_simp;rfl));intro gb189 hg w9 hbox hb;have BK189:=aK (hbox);have GW189:=aK ((by rw [hg];exact (bW nQ):w.heap.size≤gb189));have GE189:=aK ((by rw [hg];exact (bW nQ):w.heap.size≤gb189));replace HB:=aK (bK nQ hb);clear hb hbox hg;obtain ⟨hcz10_0,hcz10_1,hcz10_2,hcz10_3,hcz10_4,hfz10_0,hfz10_1,hfz10_2,hfz10_3,hfz10_4⟩:=nP BK189)|((with_reducible refine dG (f:=74) rfl ?_);refine gE (some 16) rfl rfl Try.func74 (by kernel_rfl) rfl #[.slice A0 l0.length c0,.slice A1_0 l1_0.length c1_0,.int .i64 a3] rfl qD ?_;(with_reducible refine (tH k _ _ l0 _ _ l1_0 a3 t190 _ ?side1 ?side2 ?side3 ?side4 A5.out).mono ?_);(case side1=>exact bDl);(case side2=>exact HC0.out);(case side3=>exact bEe);(case side4=>exact HC1_0.out);rintro e w11 ⟨v191,rfl,ho0,hb⟩;refine ⟨_,rfl,?_⟩;have HO192:=aK (dE ho0 (bW bQm));replace BK189:=aK (bS (g:=gb189) (o:= .cells #[.slice A1_0 l1_0.length c1_0,.int .i64 a1_1,.int .i64 a1_2,.int .i64 a1_3,.slice A1_4 l1_4.length c1_4] 29 (0,0)) (by (with_reducible repeat (first|refine bX ?_ _|refine bY ?_|refine bQ ?_ _));exact BK189.out) hb);replace HB:=aK (bK bQm hb);(try clear hb);(try clear hb2);(try clear hk);(try clear hi);(try clear ho0);obtain ⟨hcz12_0,hcz12_1,hcz12_2,hcz12_3,hcz12_4,hfz12_0,hfz12_1,hfz12_2,hfz12_3,hfz12_4⟩:=nP BK189;have p193:0≤(a3:Int):=bB jX;have q193:a3<(l1_0.length:Int):=bB jX;obtain ⟨ad193,e193,hx193_0⟩:=dL HR1_0.out a3 p193 q193;cases e193;replace hx193_0:=(HB.out.cell (bN w _ hx193_0)).trans hx193_0;replace p193:=bO p193;replace q193:=bO q193)|((with_reducible refine dG (f:=104) rfl ?_);refine gE (some 22) rfl rfl Try.func104 (by kernel_rfl) rfl #[.int .i64 (rd l1_0 a3)] rfl qD ?_;(with_reducible refine (tI (rd l1_0 a3) t194 _ A8.out).mono ?_);rintro e w' ⟨rfl,⟨nd,rfl⟩⟩;refine ⟨_,rfl,?_⟩))
   go_loopg [10] k (fun kq v10 w'=> ∃(x10_1:Int),v10= .int .i64 x10_1∧Aside0 (fA kq l2 a3 t190 x10_1 l1_0 a1_1 a1_2 a1_3 l1_4=some r)∧Aside0 (kq≤k)∧Aside0 (Kd.R Kd.bool 4 w' w.heap.size (fun _=>True) v191 t190)∧Aside0 (w'.heap[gb189]? =some (.cells #[(.slice (some ad193) l1_0.length c1_0),.int .i64 a1_1,.int .i64 a1_2,.int .i64 a1_3,(.slice A1_4 l1_4.length c1_4)] 29 (0,0)))∧Aside0 (Below w.heap.size w w'))
   case atStart=>exact ⟨(t194),nR,H',⟨bV _⟩,⟨by (with_reducible repeat (first|apply Kd.R_alloc|apply dA|apply dC));exact HO192.out⟩,⟨by (with_reducible repeat (first|refine bX ?_ _|refine bY ?_|refine bQ ?_ _));exact BK189.out⟩,⟨by repeat (first|(with_reducible first|exact HB.out|apply bJ|apply bI|apply bG|refine cE ?_ GE189.out)|exact HB.out)⟩⟩
   case round =>
    clear H';(try clear c1);(try clear p1);(try clear q1);(try clear hx1);(try clear c2);(try clear p2);(try clear c6);(try clear c6b0);(try clear c7);(try clear c7b0);(try clear c10);(try clear hcz10_0);(try clear hcz10_1);(try clear hcz10_2);(try clear hcz10_3);(try clear hcz10_4);(try clear hcz12_0);(try clear hcz12_1);(try clear hcz12_2);(try clear hcz12_3);(try clear hcz12_4);(try clear hfz10_0);(try clear hfz10_1);(try clear hfz10_2);(try clear hfz10_3);(try clear hfz10_4);(try clear hfz12_0);(try clear hfz12_1);(try clear hfz12_2);(try clear hfz12_3);(try clear hfz12_4);(try clear hx193_0);(try clear p193);(try clear q193);obtain ⟨x10_1,rfl,HA,HK1,HO_9,BK189,HB⟩:=hrel
    cases gk with
    |zero=>exact absurd HA.out (by simp [fA])
    | succ k1 =>
     have H:=HA.out;clear HA;simp only [fA] at H;by_cases c13:x10_1<(t190.length:Int)
     ·rw [if_pos c13] at H
      have c13b0:decide (x10_1<(t190.length:Int))=true:=bD c13
      clear c13;obtain ⟨ji14,hji14⟩: ∃j_:Int,(wrap64 (a3+x10_1))=j_:=⟨_,rfl⟩;replace H:(if 0≤(ji14) then (if (ji14)<(l1_0.length:Int) then (if 0≤x10_1 then (if kK false t190 x10_1=true then ((pW l2 (rd l1_0 (ji14))).bind fun t197=>(if t197=true then (gS k1 l2 a3 t190 x10_1 (rd l1_0 (ji14)) false l1_0 a1_1 a1_2 a1_3 l1_4) else (gS k1 l2 a3 t190 x10_1 (rd l1_0 (ji14)) true l1_0 a1_1 a1_2 a1_3 l1_4))) else ((sX (rd l1_0 (ji14))).bind fun t200=>(gS k1 l2 a3 t190 x10_1 (rd l1_0 (ji14)) (!t200) l1_0 a1_1 a1_2 a1_3 l1_4))) else (none)) else (none)) else (none))=some r:=by first|(rw [hji14] at H;exact H)|(simp only [hji14] at H ⊢;exact H)
      have hji14w:(IntKind.i64.wrap (a3+x10_1))=ji14:=(mN _).trans hji14
      by_cases c15:0≤(ji14)
      ·rw [if_pos c15] at H
       have c15b0:decide (0≤(ji14))=true:=bD c15
       clear c15;by_cases c16:(ji14)<(l1_0.length:Int)
       ·rw [if_pos c16] at H
        have c16b0:decide ((ji14)<(l1_0.length:Int))=true:=bD c16
        clear c16;have HC17:=aK H;clear H;obtain ⟨Ao18,co18,eo18⟩:=cL HO_9.out;subst eo18;obtain ⟨hcz19_0,hcz19_1,hcz19_2,hcz19_3,hcz19_4,hfz19_0,hfz19_1,hfz19_2,hfz19_3,hfz19_4⟩:=nP BK189;have p195:0≤((ji14):Int):=bB jX
        have q195:(ji14)<(l1_0.length:Int):=bB jX
        obtain ⟨ad195,e195,hx195_0⟩:=dL HR1_0.out (ji14) p195 q195;obtain rfl:ad193=ad195:=(by injection e195);replace hx195_0:=(HB.out.cell (bN w _ hx195_0)).trans hx195_0;replace p195:=bO p195;replace q195:=bO q195
        go_upto_region 6 with (fail)
        go_cut [57] (fun v57 wc=> ∃(kq:Nat) (x57_16:Bool),v57= .bool x57_16∧Aside0 (gS kq l2 a3 t190 x10_1 (rd l1_0 (ji14)) x57_16 l1_0 a1_1 a1_2 a1_3 l1_4=some r)∧Aside0 (kq≤k1)∧Aside0 (Kd.R Kd.bool 4 wc w.heap.size (fun _=>True) (.slice Ao18 t190.length co18) t190)∧Aside0 (wc.heap[gb189]? =some (.cells #[(.slice (some ad193) l1_0.length c1_0),.int .i64 a1_1,.int .i64 a1_2,.int .i64 a1_3,(.slice A1_4 l1_4.length c1_4)] 29 (0,0)))∧Aside0 (Below w.heap.size w wc))
        case first=>
         have H:=HC17.out;clear HC17;by_cases c20:0≤x10_1
         ·rw [if_pos c20] at H
          have c20b0:decide (0≤x10_1)=true:=bD c20
          clear c20
          (first|rw [c20b0]|(simp only [mN,qN];rw [c20b0])|skip)
          obtain ⟨bq21,hbq21⟩: ∃b_:Bool,b_=(kK false t190 x10_1):=⟨_,rfl⟩;replace H:(if bq21=true then ((pW l2 (rd l1_0 (ji14))).bind fun t197=>(if t197=true then (gS k1 l2 a3 t190 x10_1 (rd l1_0 (ji14)) false l1_0 a1_1 a1_2 a1_3 l1_4) else (gS k1 l2 a3 t190 x10_1 (rd l1_0 (ji14)) true l1_0 a1_1 a1_2 a1_3 l1_4))) else ((sX (rd l1_0 (ji14))).bind fun t200=>(gS k1 l2 a3 t190 x10_1 (rd l1_0 (ji14)) (!t200) l1_0 a1_1 a1_2 a1_3 l1_4)))=some r:=by rw [←hbq21] at H;exact H
          have Nbq21:=aK hbq21;clear hbq21;by_cases c22:bq21=true
          ·subst c22
           rw [if_pos rfl] at H;replace H:=Option.bind_eq_some_iff.mp H;obtain ⟨t197,A230,H⟩:=H;(try dsimp only at H);have A23:=aK A230;clear A230;by_cases c24:t197=true
           ·subst c24
            rw [if_pos rfl] at H;have H':=aK H;clear H;have p196:0≤(x10_1:Int):=bB jX
            have q196:x10_1<(t190.length:Int):=bB jX
            obtain ⟨ad196,e196,hx196_0⟩:=kN (cD HO_9.out).2.2 x10_1 p196 q196
            (try rw [←Nbq21.out] at hx196_0)
            cases e196
            replace p196:=bO p196;replace q196:=bO q196
            go_wp2_with (first|(go_at_call 43;(with_reducible refine (rJ _ _ l2 (rd l1_0 (ji14)) true _ ?side1 ?side2 A23.out).mono ?_);(case side1=>exact (by repeat (first|exact (cG HR2.out HB.out)|(with_reducible refine Kd.C_alloc ?_ _)|(with_reducible refine Kd.C_drewN ?_ _)|(with_reducible refine Kd.C_drew ?_))));(case side2=>exact HC2.out);rintro e w' ⟨rfl,⟨nd,rfl⟩⟩;have p198:0≤(x10_1:Int):=bB jX;have q198:x10_1<(t190.length:Int):=bB jX;obtain ⟨ad198,e198,hx198_0⟩:=kN (cD HO_9.out).2.2 x10_1 p198 q198;(try rw [←Nbq21.out] at hx198_0);obtain rfl:ad196=ad198:=(by injection e198);replace p198:=bO p198;replace q198:=bO q198))
            go_meet
            case rel=>exact ⟨_,(false),nR,H',⟨by have:=HK1.out;first|omega|exact bV _⟩,⟨by (with_reducible repeat (first|apply Kd.R_alloc|apply dA|apply dC));exact HO_9.out⟩,⟨by (with_reducible repeat (first|refine bX ?_ _|refine bY ?_|refine bQ ?_ _));exact BK189.out⟩,⟨by repeat (first|(with_reducible first|exact HB.out|apply bJ|apply bI|apply bG|refine cE ?_ GE189.out)|exact HB.out)⟩⟩
           ·replace c24 := Bool.eq_false_iff.mpr c24
            subst c24;rw [if_neg (show¬(false=true) by decide)] at H;have H':=aK H;clear H;have p196:0≤(x10_1:Int):=bB jX
            have q196:x10_1<(t190.length:Int):=bB jX
            obtain ⟨ad196,e196,hx196_0⟩:=kN (cD HO_9.out).2.2 x10_1 p196 q196
            (try rw [←Nbq21.out] at hx196_0)
            cases e196
            replace p196:=bO p196;replace q196:=bO q196
            go_wp2_with (first|(go_at_call 43;(with_reducible refine (rJ _ _ l2 (rd l1_0 (ji14)) false _ ?side1 ?side2 A23.out).mono ?_);(case side1=>exact (by repeat (first|exact (cG HR2.out HB.out)|(with_reducible refine Kd.C_alloc ?_ _)|(with_reducible refine Kd.C_drewN ?_ _)|(with_reducible refine Kd.C_drew ?_))));(case side2=>exact HC2.out);rintro e w' ⟨rfl,⟨nd,rfl⟩⟩))
            go_meet
            case rel=>exact ⟨_,(true),nR,H',⟨by have:=HK1.out;first|omega|exact bV _⟩,⟨by (with_reducible repeat (first|apply Kd.R_alloc|apply dA|apply dC));exact HO_9.out⟩,⟨by (with_reducible repeat (first|refine bX ?_ _|refine bY ?_|refine bQ ?_ _));exact BK189.out⟩,⟨by repeat (first|(with_reducible first|exact HB.out|apply bJ|apply bI|apply bG|refine cE ?_ GE189.out)|exact HB.out)⟩⟩
          ·replace c22 := Bool.eq_false_iff.mpr c22
           subst c22;rw [if_neg (show¬(false=true) by decide)] at H;replace H:=Option.bind_eq_some_iff.mp H;obtain ⟨t200,A250,H⟩:=H;(try dsimp only at H);have A25:=aK A250;clear A250;have H':=aK H;clear H;have p196:0≤(x10_1:Int):=bB jX
           have q196:x10_1<(t190.length:Int):=bB jX
           obtain ⟨ad196,e196,hx196_0⟩:=kN (cD HO_9.out).2.2 x10_1 p196 q196
           (try rw [←Nbq21.out] at hx196_0)
           cases e196
           replace p196:=bO p196;replace q196:=bO q196;have p199:0≤(x10_1:Int):=bB jX
           have q199:x10_1<(t190.length:Int):=bB jX
           obtain ⟨ad199,e199,hx199_0⟩:=kN (cD HO_9.out).2.2 x10_1 p199 q199
           (try rw [←Nbq21.out] at hx199_0)
           obtain rfl:ad196=ad199:=(by injection e199);replace p199:=bO p199;replace q199:=bO q199
           go_wp2_with (first|(go_at_call 105;(with_reducible refine (bEl (rd l1_0 (ji14)) t200 _ A25.out).mono ?_);rintro e w' ⟨rfl,⟨nd,rfl⟩⟩))
           go_meet
           case rel=>exact ⟨_,(!t200),nR,H',⟨by have:=HK1.out;first|omega|exact bV _⟩,⟨by (with_reducible repeat (first|apply Kd.R_alloc|apply dA|apply dC));exact HO_9.out⟩,⟨by (with_reducible repeat (first|refine bX ?_ _|refine bY ?_|refine bQ ?_ _));exact BK189.out⟩,⟨by repeat (first|(with_reducible first|exact HB.out|apply bJ|apply bI|apply bG|refine cE ?_ GE189.out)|exact HB.out)⟩⟩
         ·rw [if_neg c20] at H
          exact absurd H (by simp)
        case rest =>
         clear HC17;(try clear c1);(try clear p1);(try clear q1);(try clear hx1);(try clear c2);(try clear p2);(try clear q2);(try clear c6);(try clear c6b0);(try clear p6);(try clear c7);(try clear c7b0);(try clear c10);(try clear c13);(try clear c13b0);(try clear c15);(try clear c15b0);(try clear c16);(try clear c16b0);(try clear p19);(try clear q19);(try clear hx19);(try clear c20);(try clear c20b0);(try clear q21);(try clear c22);(try clear c24);(try clear hcz10_0);(try clear hcz10_1);(try clear hcz10_2);(try clear hcz10_3);(try clear hcz10_4);(try clear hcz12_0);(try clear hcz12_1);(try clear hcz12_2);(try clear hcz12_3);(try clear hcz12_4);(try clear hcz19_0);(try clear hcz19_1);(try clear hcz19_2);(try clear hcz19_3);(try clear hcz19_4);(try clear hfz10_0);(try clear hfz10_1);(try clear hfz10_2);(try clear hfz10_3);(try clear hfz10_4);(try clear hfz12_0);(try clear hfz12_1);(try clear hfz12_2);(try clear hfz12_3);(try clear hfz12_4);(try clear hfz19_0);(try clear hfz19_1);(try clear hfz19_2);(try clear hfz19_3);(try clear hfz19_4);(try clear hx193_0);(try clear hx195_0);(try clear hx196_0);(try clear hx198_0);(try clear hx199_0);(try clear p1);(try clear p193);(try clear p195);(try clear p196);(try clear p198);(try clear p199);(try clear p2);(try clear q1);(try clear q193);(try clear q195);(try clear q196);(try clear q198);(try clear q199);obtain ⟨kq,x57_16,rfl,HA,HJ16,HO_9,BK189,HB⟩:=hcut
         cases kq with
         |zero=>exact absurd HA.out (by simp [gS])
         | succ kj16 =>
          have H:=HA.out;clear HA;simp only [gS] at H;by_cases c26:x57_16=true
          ·subst c26
           rw [if_pos rfl] at H;obtain rfl:=bE H;go_wp2;go_ret;exact ⟨(by first|rfl|(simp [dS,dR]<;>rfl)|(simp only [←hji14];first|rfl|(simp [dS,dR]<;>rfl))|(simp [*,dS,dR]<;>rfl)),bQm⟩
          ·replace c26 := Bool.eq_false_iff.mpr c26
           subst c26;rw [if_neg (show¬(false=true) by decide)] at H;by_cases c27:0≤x10_1
           ·rw [if_pos c27] at H
            have c27b0:decide (0≤x10_1)=true:=bD c27
            clear c27;by_cases c28:x10_1<(t190.length:Int)
            ·rw [if_pos c28] at H
             have c28b0:decide (x10_1<(t190.length:Int))=true:=bD c28
             clear c28;obtain ⟨bq29,hbq29⟩: ∃b_:Bool,b_=(kK false t190 x10_1):=⟨_,rfl⟩;replace H:(if bq29=true then (if a3≥a1_1 then ((fK (rd l1_0 (ji14)) 1 a1_1).bind fun t202=>(if t202=true then (if 0≤(wrap64 (Int.tdiv (wrap64 ((wrap64 (a3+x10_1)) - a1_1)) 4)) then (if (wrap64 (Int.tdiv (wrap64 ((wrap64 (a3+x10_1)) - a1_1)) 4))<(l1_4.length:Int) then (if (kK false l1_4 (wrap64 (Int.tdiv (wrap64 ((wrap64 (a3+x10_1)) - a1_1)) 4))=true) then (fA kj16 l2 a3 t190 (wrap64 (x10_1+1)) l1_0 a1_1 a1_2 a1_3 l1_4) else (some false)) else (none)) else (none)) else (fA kj16 l2 a3 t190 (wrap64 (x10_1+1)) l1_0 a1_1 a1_2 a1_3 l1_4))) else (fA kj16 l2 a3 t190 (wrap64 (x10_1+1)) l1_0 a1_1 a1_2 a1_3 l1_4)) else (fA kj16 l2 a3 t190 (wrap64 (x10_1+1)) l1_0 a1_1 a1_2 a1_3 l1_4))=some r:=by rw [←hbq29] at H;exact H
             have Nbq29:=aK hbq29;clear hbq29;by_cases c30:bq29=true
             ·subst c30
              rw [if_pos rfl] at H;by_cases c31:a3≥a1_1
              ·rw [if_pos c31] at H
               have c31b0:decide (a1_1≤a3)=true:=bD c31
               clear c31;replace H:=Option.bind_eq_some_iff.mp H;obtain ⟨t202,A320,H⟩:=H;(try dsimp only at H);have A32:=aK A320;clear A320;by_cases c33:t202=true
               ·subst c33
                rw [if_pos rfl] at H;obtain ⟨ji34,hji34⟩: ∃j_:Int,(wrap64 (Int.tdiv (wrap64 ((wrap64 (a3+x10_1)) - a1_1)) 4))=j_:=⟨_,rfl⟩;replace H:(if 0≤(ji34) then (if (ji34)<(l1_4.length:Int) then (if (kK false l1_4 (ji34)=true) then (fA kj16 l2 a3 t190 (wrap64 (x10_1+1)) l1_0 a1_1 a1_2 a1_3 l1_4) else (some false)) else (none)) else (none))=some r:=by first|(rw [hji34] at H;exact H)|(simp only [hji34] at H ⊢;exact H)
                (try rw [hji34] at A32)
                have hji34w:(IntKind.i64.wrap (Int.tdiv (wrap64 ((wrap64 (a3+x10_1)) - a1_1)) 4))=ji34:=(mN _).trans hji34
                (try rw [hji14] at hji34w)
                by_cases c35:0≤(ji34)
                ·rw [if_pos c35] at H
                 have c35b0:decide (0≤(ji34))=true:=bD c35
                 clear c35;by_cases c36:(ji34)<(l1_4.length:Int)
                 ·rw [if_pos c36] at H
                  have c36b0:decide ((ji34)<(l1_4.length:Int))=true:=bD c36
                  clear c36;obtain ⟨bq37,hbq37⟩: ∃b_:Bool,b_=(kK false l1_4 (ji34)):=⟨_,rfl⟩;replace H:(if (bq37=true) then (fA kj16 l2 a3 t190 (wrap64 (x10_1+1)) l1_0 a1_1 a1_2 a1_3 l1_4) else (some false))=some r:=by rw [←hbq37] at H;exact H
                  have Nbq37:=aK hbq37;clear hbq37;by_cases c38:(bq37=true)
                  ·subst c38
                   rw [if_pos rfl] at H;have H':=aK H;clear H;have p201:0≤(x10_1:Int):=bB jX
                   have q201:x10_1<(t190.length:Int):=bB jX
                   obtain ⟨ad201,e201,hx201_0⟩:=kN (cD HO_9.out).2.2 x10_1 p201 q201
                   (try rw [←Nbq29.out] at hx201_0)
                   (try rw [←Nbq37.out] at hx201_0)
                   cases e201
                   replace p201:=bO p201;replace q201:=bO q201;obtain ⟨hcz39_0,hcz39_1,hcz39_2,hcz39_3,hcz39_4,hfz39_0,hfz39_1,hfz39_2,hfz39_3,hfz39_4⟩:=nP BK189
                   go_wp2_with (first|(go_at_call 73;(with_reducible refine (cZ (rd l1_0 (ji14)) 1 a1_1 true _ A32.out).mono ?_);rintro e w' ⟨rfl,⟨nd,rfl⟩⟩;have p203:0≤((ji34):Int):=bB jX;have q203:(ji34)<(l1_4.length:Int):=bB jX;obtain ⟨ad203,e203,hx203_0⟩:=kN HR1_4.out (ji34) p203 q203;(try rw [←Nbq29.out] at hx203_0);(try rw [←Nbq37.out] at hx203_0);cases e203;replace hx203_0:=(HB.out.cell (bN w _ hx203_0)).trans hx203_0;replace p203:=bO p203;replace q203:=bO q203))
                   go_roundg kj16
                   case measure=>have:=HK1.out;have:=HJ16.out;omega
                   case rel=>exact ⟨(wrap64 (x10_1+1)),nR,H',⟨by have:=HK1.out;have:=HJ16.out;omega⟩,⟨by (with_reducible repeat (first|apply Kd.R_alloc|apply dA|apply dC));exact HO_9.out⟩,⟨by (with_reducible repeat (first|refine bX ?_ _|refine bY ?_|refine bQ ?_ _));exact BK189.out⟩,⟨by repeat (first|(with_reducible first|exact HB.out|apply bJ|apply bI|apply bG|refine cE ?_ GE189.out)|exact HB.out)⟩⟩
                  ·replace c38 := Bool.eq_false_iff.mpr c38
                   subst c38;rw [if_neg (show¬(false=true) by decide)] at H;obtain rfl:=bE H;have p201:0≤(x10_1:Int):=bB jX
                   have q201:x10_1<(t190.length:Int):=bB jX
                   obtain ⟨ad201,e201,hx201_0⟩:=kN (cD HO_9.out).2.2 x10_1 p201 q201
                   (try rw [←Nbq29.out] at hx201_0)
                   (try rw [←Nbq37.out] at hx201_0)
                   cases e201
                   replace p201:=bO p201;replace q201:=bO q201;obtain ⟨hcz40_0,hcz40_1,hcz40_2,hcz40_3,hcz40_4,hfz40_0,hfz40_1,hfz40_2,hfz40_3,hfz40_4⟩:=nP BK189
                   go_wp2_with (first|(go_at_call 73;(with_reducible refine (cZ (rd l1_0 (ji14)) 1 a1_1 true _ A32.out).mono ?_);rintro e w' ⟨rfl,⟨nd,rfl⟩⟩;have p203:0≤((ji34):Int):=bB jX;have q203:(ji34)<(l1_4.length:Int):=bB jX;obtain ⟨ad203,e203,hx203_0⟩:=kN HR1_4.out (ji34) p203 q203;(try rw [←Nbq29.out] at hx203_0);(try rw [←Nbq37.out] at hx203_0);cases e203;replace hx203_0:=(HB.out.cell (bN w _ hx203_0)).trans hx203_0;replace p203:=bO p203;replace q203:=bO q203))
                   go_ret;exact ⟨(by first|rfl|(simp [dS,dR]<;>rfl)|(simp only [←hji14,←hji34];first|rfl|(simp [dS,dR]<;>rfl))|(simp [*,dS,dR]<;>rfl)),bQm⟩
                 ·rw [if_neg c36] at H
                  exact absurd H (by simp)
                ·rw [if_neg c35] at H
                 exact absurd H (by simp)
               ·replace c33 := Bool.eq_false_iff.mpr c33
                subst c33;rw [if_neg (show¬(false=true) by decide)] at H;have H':=aK H;clear H;have p201:0≤(x10_1:Int):=bB jX
                have q201:x10_1<(t190.length:Int):=bB jX
                obtain ⟨ad201,e201,hx201_0⟩:=kN (cD HO_9.out).2.2 x10_1 p201 q201
                (try rw [←Nbq29.out] at hx201_0)
                cases e201
                replace p201:=bO p201;replace q201:=bO q201;obtain ⟨hcz41_0,hcz41_1,hcz41_2,hcz41_3,hcz41_4,hfz41_0,hfz41_1,hfz41_2,hfz41_3,hfz41_4⟩:=nP BK189
                go_wp2_with (first|(go_at_call 73;(with_reducible refine (cZ (rd l1_0 (ji14)) 1 a1_1 false _ A32.out).mono ?_);rintro e w' ⟨rfl,⟨nd,rfl⟩⟩))
                go_roundg kj16
                case measure=>have:=HK1.out;have:=HJ16.out;omega
                case rel=>exact ⟨(wrap64 (x10_1+1)),nR,H',⟨by have:=HK1.out;have:=HJ16.out;omega⟩,⟨by (with_reducible repeat (first|apply Kd.R_alloc|apply dA|apply dC));exact HO_9.out⟩,⟨by (with_reducible repeat (first|refine bX ?_ _|refine bY ?_|refine bQ ?_ _));exact BK189.out⟩,⟨by repeat (first|(with_reducible first|exact HB.out|apply bJ|apply bI|apply bG|refine cE ?_ GE189.out)|exact HB.out)⟩⟩
              ·rw [if_neg c31] at H
               have c31b0:decide (a1_1≤a3)=false:=bM c31
               clear c31;have H':=aK H;clear H;have p201:0≤(x10_1:Int):=bB jX
               have q201:x10_1<(t190.length:Int):=bB jX
               obtain ⟨ad201,e201,hx201_0⟩:=kN (cD HO_9.out).2.2 x10_1 p201 q201
               (try rw [←Nbq29.out] at hx201_0)
               cases e201
               replace p201:=bO p201;replace q201:=bO q201;obtain ⟨hcz42_0,hcz42_1,hcz42_2,hcz42_3,hcz42_4,hfz42_0,hfz42_1,hfz42_2,hfz42_3,hfz42_4⟩:=nP BK189;go_wp2
               go_roundg kj16
               case measure=>have:=HK1.out;have:=HJ16.out;omega
               case rel=>exact ⟨(wrap64 (x10_1+1)),nR,H',⟨by have:=HK1.out;have:=HJ16.out;omega⟩,⟨by (with_reducible repeat (first|apply Kd.R_alloc|apply dA|apply dC));exact HO_9.out⟩,⟨by (with_reducible repeat (first|refine bX ?_ _|refine bY ?_|refine bQ ?_ _));exact BK189.out⟩,⟨by repeat (first|(with_reducible first|exact HB.out|apply bJ|apply bI|apply bG|refine cE ?_ GE189.out)|exact HB.out)⟩⟩
             ·replace c30 := Bool.eq_false_iff.mpr c30
              subst c30;rw [if_neg (show¬(false=true) by decide)] at H;have H':=aK H;clear H;have p201:0≤(x10_1:Int):=bB jX
              have q201:x10_1<(t190.length:Int):=bB jX
              obtain ⟨ad201,e201,hx201_0⟩:=kN (cD HO_9.out).2.2 x10_1 p201 q201
              (try rw [←Nbq29.out] at hx201_0)
              cases e201
              replace p201:=bO p201;replace q201:=bO q201;go_wp2
              go_roundg kj16
              case measure=>have:=HK1.out;have:=HJ16.out;omega
              case rel=>exact ⟨(wrap64 (x10_1+1)),nR,H',⟨by have:=HK1.out;have:=HJ16.out;omega⟩,⟨by (with_reducible repeat (first|apply Kd.R_alloc|apply dA|apply dC));exact HO_9.out⟩,⟨by (with_reducible repeat (first|refine bX ?_ _|refine bY ?_|refine bQ ?_ _));exact BK189.out⟩,⟨by repeat (first|(with_reducible first|exact HB.out|apply bJ|apply bI|apply bG|refine cE ?_ GE189.out)|exact HB.out)⟩⟩
            ·rw [if_neg c28] at H
             exact absurd H (by simp)
           ·rw [if_neg c27] at H
            exact absurd H (by simp)
       ·rw [if_neg c16] at H
        exact absurd H (by simp)
      ·rw [if_neg c15] at H
       exact absurd H (by simp)
     ·rw [if_neg c13] at H
      have c13b0:decide (x10_1<(t190.length:Int))=false:=bM c13
      clear c13;obtain rfl:=bE H;obtain ⟨Ao43,co43,eo43⟩:=cL HO_9.out;subst eo43;go_wp2;go_ret;exact ⟨zL,bQm⟩
  ·rw [if_neg c7] at H
   exact absurd H (by simp)
 ·rw [if_neg c6] at H
  exact absurd H (by simp)
end Go.Proofs.Ytbaklikaoleplaa.K
namespace Go.Proofs.Ytbaklikaoleplaa.K
open Go.RowKit Go.Proofs.YtbaklikaoleplaaW.PrintWords Go.Proofs.YtbaklikaoleplaaW.PrintLast Go.Proofs.YtbaklikaoleplaaW.PrintMore
attribute [local go_sem] gD gB gY gW fR fQ gC gA
set_option linter.unusedVariables false
set_option linter.unusedSimpArgs false
def mS:Nat→List (S53)→List Int→List Bool→Int→List Int→Int→Int→Int→List Bool→Option (Bool)
  |0,_,_,_,_,_,_,_,_,_=>none
  |k+1,x0,x5,x7,x8,x205000,x205001,x205002,x205003,x205004=>if x8<(x5.length:Int) then (if 0≤x8 then ((tC k x0 x205000 x205001 x205002 x205003 x205004 x7 (rd x5 x8)).bind fun t214=>(if t214=true then (mS k x0 x5 x7 (wrap64 (x8+1)) x205000 x205001 x205002 x205003 x205004) else (some false))) else (none)) else (some true)
def mX (k:Nat) (l0:List (S53)) (l1_0:List Int) (a1_1:Int) (a1_2:Int) (a1_3:Int) (l1_4:List Bool):Option (Bool):=(nT k l0 l1_0 a1_1 a1_2 a1_3 l1_4).bind fun t205=>(if t205=true then ((jT k l0 l1_0 a1_1 a1_2 a1_3 l1_4).bind fun bt206=>(if bt206.2=true then ((mG k (l1_0.length:Int) bt206.1).bind fun t210=>(mS k l0 bt206.1 t210 0 l1_0 a1_1 a1_2 a1_3 l1_4)) else (some false))) else (some false))
def spec_MemOk.T10:Bool×List (List Nat×List Nat):=(true,[([],[]),([],[]),([],[]),([],[]),([],[]),([3,4],[3,4]),([5],[5]),([0,1,2,6],[0,1,2,6]),([7],[7])])
def spec_MemOk.B10:List Nat:=[0,0,0,0,0,24,56,127,255]
theorem bAg:vF .any (bLl Try.f40 10)=spec_MemOk.T10:=by kernel_rfl
theorem zN:xY spec_MemOk.T10.2 spec_MemOk.B10=true:=by kernel_rfl
theorem bAh (k : Nat) (A0 : Option Addr) (c0 : Nat) (l0 : List (S53)) (A1_0 : Option Addr) (c1_0 : Nat) (l1_0 : List Int) (a1_1 : Int) (a1_2 : Int) (a1_3 : Int) (A1_4 : Option Addr) (c1_4 : Nat) (l1_4 : List Bool) (r : Bool) (w : World) (hr0 : Kd.C tU w A0 l0.length l0) (hc0 : l0.length ≤ c0) (hr1_0 : Kd.C (Kd.int .i64) w A1_0 l1_0.length l1_0) (hc1_0 : l1_0.length ≤ c1_0) (hr1_4 : Kd.C Kd.bool w A1_4 l1_4.length l1_4) (hc1_4 : l1_4.length ≤ c1_4) (h : mX k l0 l1_0 a1_1 a1_2 a1_3 l1_4 = some r) :
  Calls Try.prog 40 #[.slice A0 l0.length c0,.agg #[.slice A1_0 l1_0.length c1_0,.int .i64 a1_1,.int .i64 a1_2,.int .i64 a1_3,.slice A1_4 l1_4.length c1_4]] w fun e w'=>e= .returned (.bool r)∧Below w.heap.size w w':=by
 have hu29:=Try.underlying29;have HR0:=aK hr0;have HC0:=aK hc0;clear hr0 hc0;have HR1_0:=aK hr1_0;have HC1_0:=aK hc1_0;clear hr1_0 hc1_0;have HR1_4:=aK hr1_4;have HC1_4:=aK hc1_4;clear hr1_4 hc1_4;have HB:=aK (bH w.heap.size w);have H:((nT k l0 l1_0 a1_1 a1_2 a1_3 l1_4).bind fun t205=>(if t205=true then ((jT k l0 l1_0 a1_1 a1_2 a1_3 l1_4).bind fun bt206=>(if bt206.2=true then ((mG k (l1_0.length:Int) bt206.1).bind fun t210=>(mS k l0 bt206.1 t210 0 l1_0 a1_1 a1_2 a1_3 l1_4)) else (some false))) else (some false)))=some r:=h
 clear h;replace H:=Option.bind_eq_some_iff.mp H;obtain ⟨t205,A30,H⟩:=H;(try dsimp only at H);have A3:=aK A30;clear A30;by_cases c4:t205=true
 ·subst c4
  rw [if_pos rfl] at H;replace H:=Option.bind_eq_some_iff.mp H;obtain ⟨⟨t206,t209⟩,A50,H⟩:=H;(try dsimp only at H);have A5:=aK A50;clear A50;by_cases c6:t209=true
  ·subst c6
   rw [if_pos rfl] at H;replace H:=Option.bind_eq_some_iff.mp H;obtain ⟨t210,A70,H⟩:=H;(try dsimp only at H);have A7:=aK A70;clear A70;have H':=aK H;clear H;go_enter Try.func40,Try.ntmps40
   go_wp2_with (first|((with_reducible refine dK (N:=3) rfl ?_);refine dM ?hg (N:=3) ?hd (cs:= #[.slice A1_0 l1_0.length c1_0,.int .i64 a1_1,.int .i64 a1_2,.int .i64 a1_3,.slice A1_4 l1_4.length c1_4]) (t:=29) ?hr ?_;(case hd=>rfl);(case hg=>rfl);(case hr=>first|(go_simp;done)|(go_simp;rfl));intro gb204 hg w8 hbox hb;have BK204:=aK (hbox);have GW204:=aK ((by rw [hg];exact (bW nQ):w.heap.size≤gb204));have GE204:=aK ((by rw [hg];exact (bW nQ):w.heap.size≤gb204));replace HB:=aK (bK nQ hb);clear hb hbox hg;obtain ⟨hcz9_0,hcz9_1,hcz9_2,hcz9_3,hcz9_4,hfz9_0,hfz9_1,hfz9_2,hfz9_3,hfz9_4⟩:=nP BK204)|((with_reducible refine dG (f:=71) rfl ?_);refine gE (some 11) rfl rfl Try.func71 (by kernel_rfl) rfl #[.slice A0 l0.length c0,.agg #[.slice A1_0 l1_0.length c1_0,.int .i64 a1_1,.int .i64 a1_2,.int .i64 a1_3,.slice A1_4 l1_4.length c1_4]] rfl qD ?_;(with_reducible refine (sG k _ _ l0 _ _ l1_0 a1_1 a1_2 a1_3 _ _ l1_4 true _ ?side1 ?side2 ?side3 ?side4 ?side5 ?side6 A3.out).mono ?_);(case side1=>exact bDl);(case side2=>exact HC0.out);(case side3=>exact bEe);(case side4=>exact HC1_0.out);(case side5=>exact bIe);(case side6=>exact HC1_4.out);rintro e w10 ⟨rfl,hb⟩;refine ⟨_,rfl,?_⟩;replace BK204:=aK (bS (g:=gb204) (o:= .cells #[.slice A1_0 l1_0.length c1_0,.int .i64 a1_1,.int .i64 a1_2,.int .i64 a1_3,.slice A1_4 l1_4.length c1_4] 29 (0,0)) bKx hb);replace HB:=aK (bK bDm hb);(try clear hb);(try clear hb2);(try clear hk);(try clear hi);obtain ⟨hcz11_0,hcz11_1,hcz11_2,hcz11_3,hcz11_4,hfz11_0,hfz11_1,hfz11_2,hfz11_3,hfz11_4⟩:=nP BK204)|((with_reducible refine dG (f:=41) rfl ?_);refine gE (some 16) rfl rfl Try.func41 (by kernel_rfl) rfl #[.slice A0 l0.length c0,.agg #[.slice A1_0 l1_0.length c1_0,.int .i64 a1_1,.int .i64 a1_2,.int .i64 a1_3,.slice A1_4 l1_4.length c1_4]] rfl qD ?_;(with_reducible refine (tG k _ _ l0 _ _ l1_0 a1_1 a1_2 a1_3 _ _ l1_4 t206 true _ ?side1 ?side2 ?side3 ?side4 ?side5 ?side6 A5.out).mono ?_);(case side1=>exact bDl);(case side2=>exact HC0.out);(case side3=>exact bEe);(case side4=>exact HC1_0.out);(case side5=>exact bIe);(case side6=>exact HC1_4.out);rintro e w12 ⟨v207,rfl,ho0,hb⟩;refine ⟨_,rfl,?_⟩;have HO208:=aK (dE ho0 (bW bDm));replace BK204:=aK (bS (g:=gb204) (o:= .cells #[.slice A1_0 l1_0.length c1_0,.int .i64 a1_1,.int .i64 a1_2,.int .i64 a1_3,.slice A1_4 l1_4.length c1_4] 29 (0,0)) bKx hb);replace HB:=aK (bK bDm hb);(try clear hb);(try clear hb2);(try clear hk);(try clear hi);(try clear ho0);obtain ⟨hcz13_0,hcz13_1,hcz13_2,hcz13_3,hcz13_4,hfz13_0,hfz13_1,hfz13_2,hfz13_3,hfz13_4⟩:=nP BK204;obtain ⟨Ao14,co14,eo14⟩:=cL HO208.out;subst eo14)|((with_reducible refine dG (f:=42) rfl ?_);refine gE (some 25) rfl rfl Try.func42 (by kernel_rfl) rfl #[.int .i64 (l1_0.length:Int),.slice Ao14 t206.length co14] rfl qD ?_;(with_reducible refine (xA k (l1_0.length:Int) _ _ t206 t210 _ ?side1 ?side2 A7.out).mono ?_);(case side1=>exact (by repeat (first|exact (cD HO208.out).2.2|(with_reducible refine Kd.C_alloc ?_ _)|(with_reducible refine Kd.C_drewN ?_ _)|(with_reducible refine Kd.C_drew ?_))));(case side2=>exact (cD HO208.out).2.1);rintro e w15 ⟨v211,rfl,ho0,hb⟩;refine ⟨_,rfl,?_⟩;have HO212:=aK (dE ho0 (bW bDm));replace HO208:=aK (bZ (by (with_reducible repeat (first|apply Kd.R_alloc|apply dA|apply dC));exact HO208.out) hb);replace BK204:=aK (bS (g:=gb204) (o:= .cells #[.slice A1_0 l1_0.length c1_0,.int .i64 a1_1,.int .i64 a1_2,.int .i64 a1_3,.slice A1_4 l1_4.length c1_4] 29 (0,0)) bKx hb);replace HB:=aK (bK bDm hb);(try clear hb);(try clear hb2);(try clear hk);(try clear hi);(try clear ho0)))
   go_loopg [8] k (fun kq v8 w'=> ∃(x8_1:Int),v8= .int .i64 x8_1∧Aside0 (mS kq l0 t206 t210 x8_1 l1_0 a1_1 a1_2 a1_3 l1_4=some r)∧Aside0 (kq≤k)∧Aside0 (Kd.R (Kd.int .i64) 3 w' w.heap.size (fun _=>True) (.slice Ao14 t206.length co14) t206)∧Aside0 (Kd.R Kd.bool 4 w' w.heap.size (fun _=>True) v211 t210)∧Aside0 (w'.heap[gb204]? =some (.cells #[(.slice A1_0 l1_0.length c1_0),.int .i64 a1_1,.int .i64 a1_2,.int .i64 a1_3,(.slice A1_4 l1_4.length c1_4)] 29 (0,0)))∧Aside0 (Below w.heap.size w w'))
   case atStart=>exact ⟨(0),nR,H',⟨bV _⟩,⟨by (with_reducible repeat (first|apply Kd.R_alloc|apply dA|apply dC));exact HO208.out⟩,⟨by (with_reducible repeat (first|apply Kd.R_alloc|apply dA|apply dC));exact HO212.out⟩,⟨by (with_reducible repeat (first|refine bX ?_ _|refine bY ?_|refine bQ ?_ _));exact BK204.out⟩,⟨by repeat (first|(with_reducible first|exact HB.out|apply bJ|apply bI|apply bG|refine cE ?_ GE204.out)|exact HB.out)⟩⟩
   case round =>
    clear H';(try clear c1);(try clear p2);(try clear c4);(try clear c6);(try clear c7);(try clear hcz11_0);(try clear hcz11_1);(try clear hcz11_2);(try clear hcz11_3);(try clear hcz11_4);(try clear hcz13_0);(try clear hcz13_1);(try clear hcz13_2);(try clear hcz13_3);(try clear hcz13_4);(try clear hcz9_0);(try clear hcz9_1);(try clear hcz9_2);(try clear hcz9_3);(try clear hcz9_4);(try clear hfz11_0);(try clear hfz11_1);(try clear hfz11_2);(try clear hfz11_3);(try clear hfz11_4);(try clear hfz13_0);(try clear hfz13_1);(try clear hfz13_2);(try clear hfz13_3);(try clear hfz13_4);(try clear hfz9_0);(try clear hfz9_1);(try clear hfz9_2);(try clear hfz9_3);(try clear hfz9_4);obtain ⟨x8_1,rfl,HA,HK1,HO_5,HO_7,BK204,HB⟩:=hrel
    cases gk with
    |zero=>exact absurd HA.out (by simp [mS])
    | succ k1 =>
     have H:=HA.out;clear HA;simp only [mS] at H;by_cases c16:x8_1<(t206.length:Int)
     ·rw [if_pos c16] at H
      have c16b0:decide (x8_1<(t206.length:Int))=true:=bD c16
      clear c16;by_cases c17:0≤x8_1
      ·rw [if_pos c17] at H
       have c17b0:decide (0≤x8_1)=true:=bD c17
       clear c17;replace H:=Option.bind_eq_some_iff.mp H;obtain ⟨t214,A180,H⟩:=H;(try dsimp only at H);have A18:=aK A180;clear A180;by_cases c19:t214=true
       ·subst c19
        rw [if_pos rfl] at H;have H':=aK H;clear H;try go_wp2
        have n0_:=aK (dC HO_5.out);have n1_:=aK (dC HO_7.out);have n2_:=aK (bY BK204.out);have n3_:=aK (bG HB.out);clear HO_5;clear HO_7;clear BK204;clear HB;have HO_5:=n0_;have HO_7:=n1_;have BK204:=n2_;have HB:=n3_;clear n0_ n1_ n2_ n3_;have p213:0≤(x8_1:Int):=bB jX
        have q213:x8_1<(t206.length:Int):=bB jX
        obtain ⟨ad213,e213,hx213_0⟩:=dL (cD HO_5.out).2.2 x8_1 p213 q213
        cases e213
        replace p213:=bO p213;replace q213:=bO q213;obtain ⟨Ao21,co21,eo21⟩:=cL HO_7.out
        (first|subst eo21|(injection eo21 with f1_ f2_ f3_;have f4_:=f1_.symm;have f5_:=f3_.symm;clear f1_ f2_ f3_;subst f4_;subst f5_))
        refine sT 9 (S:=fun w'=>w'.cell? ⟨gb204,0,none⟩=some (.slice A1_0 l1_0.length c1_0)∧w'.cell? ⟨gb204,1,none⟩=some (.int .i64 a1_1)∧w'.cell? ⟨gb204,2,none⟩=some (.int .i64 a1_2)∧w'.cell? ⟨gb204,3,none⟩=some (.int .i64 a1_3)∧w'.cell? ⟨gb204,4,none⟩=some (.slice A1_4 l1_4.length c1_4)∧w'.cell? (ad213.add (x8_1).toNat)=some (.int .i64 (rd t206 x8_1))) (ds:=[]) ⟨(bA BK204.out 0).trans rfl,(bA BK204.out 1).trans rfl,(bA BK204.out 2).trans rfl,(bA BK204.out 3).trans rfl,(bA BK204.out 4).trans rfl,hx213_0⟩ (fun hHeld=>?_);refine qZ bAg zN (fun HT_ HW_=>?_);generalize wr.drew=w20 at HO_5 HO_7 BK204 HB hx213_0 hHeld ⊢;refine pT 0 32 #[true,false,false,false,false,false,false,false,false] HT_ ?_;refine pT 2 34 #[true,false,true,false,false,false,false,false,false] HT_ ?_;refine pT 3 35 #[true,false,true,true,false,false,false,false,false] HT_ ?_;refine pT 4 36 #[true,false,true,true,true,false,false,false,false] HT_ ?_;refine pT 5 37 #[true,false,true,true,true,true,false,false,false] HT_ ?_;refine tS 1 33 #[true,true,true,true,true,true,false,false,false] rfl rfl (jR HT_.out HW_.out (by kernel_rfl)) hHeld pK ?_;refine tS 6 38 #[true,true,true,true,true,true,true,false,false] rfl rfl (jR HT_.out HW_.out (by kernel_rfl)) hHeld pK ?_;refine pD (i:=7) (N:=some 39) #[true,true,true,true,true,true,true,true,false] rfl rfl (mT HT_.out (by kernel_rfl)) (by decide) (fun K hK=>?_);refine qU Try.func72 (by kernel_rfl) rfl #[.slice A0 l0.length c0,.agg #[.slice A1_0 l1_0.length c1_0,.int .i64 a1_1,.int .i64 a1_2,.int .i64 a1_3,.slice A1_4 l1_4.length c1_4],.slice Ao21 t210.length co21,.int .i64 (rd t206 x8_1)] (by rfl) rfl rfl qD ?_;(with_reducible refine (xU k1 _ _ l0 _ _ l1_0 a1_1 a1_2 a1_3 _ _ l1_4 _ _ t210 (rd t206 x8_1) true _ ?side1 ?side2 ?side3 ?side4 ?side5 ?side6 ?side7 ?side8 A18.out).mono ?_)
        (case side1=>exact bDl)
        (case side2=>exact HC0.out)
        (case side3=>exact bEe)
        (case side4=>exact HC1_0.out)
        (case side5=>exact bIe)
        (case side6=>exact HC1_4.out)
        (case side7=>exact (by repeat (first|exact (cD HO_7.out).2.2|(with_reducible refine Kd.C_alloc ?_ _)|(with_reducible refine Kd.C_drewN ?_ _)|(with_reducible refine Kd.C_drew ?_))))
        (case side8=>exact (cD HO_7.out).2.1)
        rintro e w22 ⟨rfl,hb⟩;have HS5_:=(hb.cell (bN _ _ (hHeld.2.2.2.2.2))).trans (hHeld.2.2.2.2.2);refine ⟨_,rfl,?_⟩;have n0_:=aK (bZ (by (with_reducible repeat (first|apply Kd.R_alloc|apply dA|apply dC));exact HO_5.out) hb);have n1_:=aK (bZ (by (with_reducible repeat (first|apply Kd.R_alloc|apply dA|apply dC));exact HO_7.out) hb);have n2_:=aK (bS (g:=gb204) (o:= .cells #[.slice A1_0 l1_0.length c1_0,.int .i64 a1_1,.int .i64 a1_2,.int .i64 a1_3,.slice A1_4 l1_4.length c1_4] 29 (0,0)) bKx hb);have n3_:=aK (bK bDm hb);clear HO_5;clear HO_7;clear BK204;clear HB;have HO_5:=n0_;have HO_7:=n1_;have BK204:=n2_;have HB:=n3_;clear n0_ n1_ n2_ n3_;(try clear hb);(try clear hb2);(try clear hk);(try clear hi);refine hK.out _ _ ⟨(bA BK204.out 0).trans rfl,(bA BK204.out 1).trans rfl,(bA BK204.out 2).trans rfl,(bA BK204.out 3).trans rfl,(bA BK204.out 4).trans rfl,HS5_⟩ (fun hHeld=>?_);clear hK K;refine nS 39 ?_;refine pT 8 40 #[true,true,true,true,true,true,true,true,true] HT_ ?_;refine gT (vH HT_.out (by kernel_rfl)) ?_;try go_wp2
        go_roundg k1
        case measure=>have:=HK1.out;omega
        case rel=>exact ⟨(wrap64 (x8_1+1)),nR,H',⟨by have:=HK1.out;omega⟩,⟨by (with_reducible repeat (first|apply Kd.R_alloc|apply dA|apply dC));exact HO_5.out⟩,⟨by (with_reducible repeat (first|apply Kd.R_alloc|apply dA|apply dC));exact HO_7.out⟩,⟨by (with_reducible repeat (first|refine bX ?_ _|refine bY ?_|refine bQ ?_ _));exact BK204.out⟩,⟨by repeat (first|(with_reducible first|exact HB.out|apply bJ|apply bI|apply bG|refine cE ?_ GE204.out)|exact HB.out)⟩⟩
       ·replace c19 := Bool.eq_false_iff.mpr c19
        subst c19;rw [if_neg (show¬(false=true) by decide)] at H;obtain rfl:=bE H;try go_wp2
        have n0_:=aK (dC HO_5.out);have n1_:=aK (dC HO_7.out);have n2_:=aK (bY BK204.out);have n3_:=aK (bG HB.out);clear HO_5;clear HO_7;clear BK204;clear HB;have HO_5:=n0_;have HO_7:=n1_;have BK204:=n2_;have HB:=n3_;clear n0_ n1_ n2_ n3_;have p213:0≤(x8_1:Int):=bB jX
        have q213:x8_1<(t206.length:Int):=bB jX
        obtain ⟨ad213,e213,hx213_0⟩:=dL (cD HO_5.out).2.2 x8_1 p213 q213
        cases e213
        replace p213:=bO p213;replace q213:=bO q213;obtain ⟨Ao24,co24,eo24⟩:=cL HO_7.out
        (first|subst eo24|(injection eo24 with f1_ f2_ f3_;have f4_:=f1_.symm;have f5_:=f3_.symm;clear f1_ f2_ f3_;subst f4_;subst f5_))
        refine sT 9 (S:=fun w'=>w'.cell? ⟨gb204,0,none⟩=some (.slice A1_0 l1_0.length c1_0)∧w'.cell? ⟨gb204,1,none⟩=some (.int .i64 a1_1)∧w'.cell? ⟨gb204,2,none⟩=some (.int .i64 a1_2)∧w'.cell? ⟨gb204,3,none⟩=some (.int .i64 a1_3)∧w'.cell? ⟨gb204,4,none⟩=some (.slice A1_4 l1_4.length c1_4)∧w'.cell? (ad213.add (x8_1).toNat)=some (.int .i64 (rd t206 x8_1))) (ds:=[]) ⟨(bA BK204.out 0).trans rfl,(bA BK204.out 1).trans rfl,(bA BK204.out 2).trans rfl,(bA BK204.out 3).trans rfl,(bA BK204.out 4).trans rfl,hx213_0⟩ (fun hHeld=>?_);refine qZ bAg zN (fun HT_ HW_=>?_);generalize wr.drew=w23 at HO_5 HO_7 BK204 HB hx213_0 hHeld ⊢;refine pT 0 32 #[true,false,false,false,false,false,false,false,false] HT_ ?_;refine pT 2 34 #[true,false,true,false,false,false,false,false,false] HT_ ?_;refine pT 3 35 #[true,false,true,true,false,false,false,false,false] HT_ ?_;refine pT 4 36 #[true,false,true,true,true,false,false,false,false] HT_ ?_;refine pT 5 37 #[true,false,true,true,true,true,false,false,false] HT_ ?_;refine tS 1 33 #[true,true,true,true,true,true,false,false,false] rfl rfl (jR HT_.out HW_.out (by kernel_rfl)) hHeld pK ?_;refine tS 6 38 #[true,true,true,true,true,true,true,false,false] rfl rfl (jR HT_.out HW_.out (by kernel_rfl)) hHeld pK ?_;refine pD (i:=7) (N:=some 39) #[true,true,true,true,true,true,true,true,false] rfl rfl (mT HT_.out (by kernel_rfl)) (by decide) (fun K hK=>?_);refine qU Try.func72 (by kernel_rfl) rfl #[.slice A0 l0.length c0,.agg #[.slice A1_0 l1_0.length c1_0,.int .i64 a1_1,.int .i64 a1_2,.int .i64 a1_3,.slice A1_4 l1_4.length c1_4],.slice Ao24 t210.length co24,.int .i64 (rd t206 x8_1)] (by rfl) rfl rfl qD ?_;(with_reducible refine (xU k1 _ _ l0 _ _ l1_0 a1_1 a1_2 a1_3 _ _ l1_4 _ _ t210 (rd t206 x8_1) false _ ?side1 ?side2 ?side3 ?side4 ?side5 ?side6 ?side7 ?side8 A18.out).mono ?_)
        (case side1=>exact bDl)
        (case side2=>exact HC0.out)
        (case side3=>exact bEe)
        (case side4=>exact HC1_0.out)
        (case side5=>exact bIe)
        (case side6=>exact HC1_4.out)
        (case side7=>exact (by repeat (first|exact (cD HO_7.out).2.2|(with_reducible refine Kd.C_alloc ?_ _)|(with_reducible refine Kd.C_drewN ?_ _)|(with_reducible refine Kd.C_drew ?_))))
        (case side8=>exact (cD HO_7.out).2.1)
        rintro e w25 ⟨rfl,hb⟩;have HS5_:=(hb.cell (bN _ _ (hHeld.2.2.2.2.2))).trans (hHeld.2.2.2.2.2);refine ⟨_,rfl,?_⟩;have n0_:=aK (bZ (by (with_reducible repeat (first|apply Kd.R_alloc|apply dA|apply dC));exact HO_5.out) hb);have n1_:=aK (bZ (by (with_reducible repeat (first|apply Kd.R_alloc|apply dA|apply dC));exact HO_7.out) hb);have n2_:=aK (bS (g:=gb204) (o:= .cells #[.slice A1_0 l1_0.length c1_0,.int .i64 a1_1,.int .i64 a1_2,.int .i64 a1_3,.slice A1_4 l1_4.length c1_4] 29 (0,0)) bKx hb);have n3_:=aK (bK bDm hb);clear HO_5;clear HO_7;clear BK204;clear HB;have HO_5:=n0_;have HO_7:=n1_;have BK204:=n2_;have HB:=n3_;clear n0_ n1_ n2_ n3_;(try clear hb);(try clear hb2);(try clear hk);(try clear hi);refine hK.out _ _ ⟨(bA BK204.out 0).trans rfl,(bA BK204.out 1).trans rfl,(bA BK204.out 2).trans rfl,(bA BK204.out 3).trans rfl,(bA BK204.out 4).trans rfl,HS5_⟩ (fun hHeld=>?_);clear hK K;refine nS 39 ?_;refine pT 8 40 #[true,true,true,true,true,true,true,true,true] HT_ ?_;refine gT (vH HT_.out (by kernel_rfl)) ?_;try go_wp2
        go_ret;exact ⟨zL,bDm⟩
      ·rw [if_neg c17] at H
       exact absurd H (by simp)
     ·rw [if_neg c16] at H
      have c16b0:decide (x8_1<(t206.length:Int))=false:=bM c16
      clear c16;obtain rfl:=bE H;go_wp2;go_ret;exact ⟨zL,bDm⟩
  ·replace c6 := Bool.eq_false_iff.mpr c6
   subst c6;rw [if_neg (show¬(false=true) by decide)] at H;obtain rfl:=bE H;go_enter Try.func40,Try.ntmps40
   go_wp2_with (first|((with_reducible refine dK (N:=3) rfl ?_);refine dM ?hg (N:=3) ?hd (cs:= #[.slice A1_0 l1_0.length c1_0,.int .i64 a1_1,.int .i64 a1_2,.int .i64 a1_3,.slice A1_4 l1_4.length c1_4]) (t:=29) ?hr ?_;(case hd=>rfl);(case hg=>rfl);(case hr=>first|(go_simp;done)|(go_simp;rfl));intro gb204 hg w26 hbox hb;have BK204:=aK (hbox);have GW204:=aK ((by rw [hg];exact (bW nQ):w.heap.size≤gb204));have GE204:=aK ((by rw [hg];exact (bW nQ):w.heap.size≤gb204));replace HB:=aK (bK nQ hb);clear hb hbox hg;obtain ⟨hcz27_0,hcz27_1,hcz27_2,hcz27_3,hcz27_4,hfz27_0,hfz27_1,hfz27_2,hfz27_3,hfz27_4⟩:=nP BK204)|((with_reducible refine dG (f:=71) rfl ?_);refine gE (some 11) rfl rfl Try.func71 (by kernel_rfl) rfl #[.slice A0 l0.length c0,.agg #[.slice A1_0 l1_0.length c1_0,.int .i64 a1_1,.int .i64 a1_2,.int .i64 a1_3,.slice A1_4 l1_4.length c1_4]] rfl qD ?_;(with_reducible refine (sG k _ _ l0 _ _ l1_0 a1_1 a1_2 a1_3 _ _ l1_4 true _ ?side1 ?side2 ?side3 ?side4 ?side5 ?side6 A3.out).mono ?_);(case side1=>exact bDl);(case side2=>exact HC0.out);(case side3=>exact bEe);(case side4=>exact HC1_0.out);(case side5=>exact bIe);(case side6=>exact HC1_4.out);rintro e w28 ⟨rfl,hb⟩;refine ⟨_,rfl,?_⟩;replace BK204:=aK (bS (g:=gb204) (o:= .cells #[.slice A1_0 l1_0.length c1_0,.int .i64 a1_1,.int .i64 a1_2,.int .i64 a1_3,.slice A1_4 l1_4.length c1_4] 29 (0,0)) bKx hb);replace HB:=aK (bK bDm hb);(try clear hb);(try clear hb2);(try clear hk);(try clear hi);obtain ⟨hcz29_0,hcz29_1,hcz29_2,hcz29_3,hcz29_4,hfz29_0,hfz29_1,hfz29_2,hfz29_3,hfz29_4⟩:=nP BK204)|((with_reducible refine dG (f:=41) rfl ?_);refine gE (some 16) rfl rfl Try.func41 (by kernel_rfl) rfl #[.slice A0 l0.length c0,.agg #[.slice A1_0 l1_0.length c1_0,.int .i64 a1_1,.int .i64 a1_2,.int .i64 a1_3,.slice A1_4 l1_4.length c1_4]] rfl qD ?_;(with_reducible refine (tG k _ _ l0 _ _ l1_0 a1_1 a1_2 a1_3 _ _ l1_4 t206 false _ ?side1 ?side2 ?side3 ?side4 ?side5 ?side6 A5.out).mono ?_);(case side1=>exact bDl);(case side2=>exact HC0.out);(case side3=>exact bEe);(case side4=>exact HC1_0.out);(case side5=>exact bIe);(case side6=>exact HC1_4.out);rintro e w30 ⟨v207,rfl,ho0,hb⟩;refine ⟨_,rfl,?_⟩;have HO208:=aK (dE ho0 (bW bDm));replace BK204:=aK (bS (g:=gb204) (o:= .cells #[.slice A1_0 l1_0.length c1_0,.int .i64 a1_1,.int .i64 a1_2,.int .i64 a1_3,.slice A1_4 l1_4.length c1_4] 29 (0,0)) bKx hb);replace HB:=aK (bK bDm hb);(try clear hb);(try clear hb2);(try clear hk);(try clear hi);(try clear ho0)))
   go_ret;exact ⟨zL,bDm⟩
 ·replace c4 := Bool.eq_false_iff.mpr c4
  subst c4;rw [if_neg (show¬(false=true) by decide)] at H;obtain rfl:=bE H;go_enter Try.func40,Try.ntmps40
  go_wp2_with (first|((with_reducible refine dK (N:=3) rfl ?_);refine dM ?hg (N:=3) ?hd (cs:= #[.slice A1_0 l1_0.length c1_0,.int .i64 a1_1,.int .i64 a1_2,.int .i64 a1_3,.slice A1_4 l1_4.length c1_4]) (t:=29) ?hr ?_;(case hd=>rfl);(case hg=>rfl);(case hr=>first|(go_simp;done)|(go_simp;rfl));intro gb204 hg w31 hbox hb;have BK204:=aK (hbox);have GW204:=aK ((by rw [hg];exact (bW nQ):w.heap.size≤gb204));have GE204:=aK ((by rw [hg];exact (bW nQ):w.heap.size≤gb204));replace HB:=aK (bK nQ hb);clear hb hbox hg;obtain ⟨hcz32_0,hcz32_1,hcz32_2,hcz32_3,hcz32_4,hfz32_0,hfz32_1,hfz32_2,hfz32_3,hfz32_4⟩:=nP BK204)|((with_reducible refine dG (f:=71) rfl ?_);refine gE (some 11) rfl rfl Try.func71 (by kernel_rfl) rfl #[.slice A0 l0.length c0,.agg #[.slice A1_0 l1_0.length c1_0,.int .i64 a1_1,.int .i64 a1_2,.int .i64 a1_3,.slice A1_4 l1_4.length c1_4]] rfl qD ?_;(with_reducible refine (sG k _ _ l0 _ _ l1_0 a1_1 a1_2 a1_3 _ _ l1_4 false _ ?side1 ?side2 ?side3 ?side4 ?side5 ?side6 A3.out).mono ?_);(case side1=>exact bDl);(case side2=>exact HC0.out);(case side3=>exact bEe);(case side4=>exact HC1_0.out);(case side5=>exact bIe);(case side6=>exact HC1_4.out);rintro e w33 ⟨rfl,hb⟩;refine ⟨_,rfl,?_⟩;replace BK204:=aK (bS (g:=gb204) (o:= .cells #[.slice A1_0 l1_0.length c1_0,.int .i64 a1_1,.int .i64 a1_2,.int .i64 a1_3,.slice A1_4 l1_4.length c1_4] 29 (0,0)) bKx hb);replace HB:=aK (bK bDm hb);(try clear hb);(try clear hb2);(try clear hk);(try clear hi)))
  go_ret;exact ⟨zL,bDm⟩
end Go.Proofs.Ytbaklikaoleplaa.K
namespace Go.Proofs.Ytbaklikaoleplaa.K
open Go.RowKit Go.Proofs.YtbaklikaoleplaaW.PrintWords Go.Proofs.YtbaklikaoleplaaW.PrintLast Go.Proofs.YtbaklikaoleplaaW.PrintMore
attribute [local go_sem] gD gB gY gW fR fQ gC gA
set_option linter.unusedVariables false
set_option linter.unusedSimpArgs false
def mE:Nat→List Int→List Bool→Int→Option (Bool)
  |0,_,_,_=>none
  |k+1,x2,x9,x10=>if x10<(x2.length:Int) then (if 0≤x10 then ((pW x9 (rd x2 x10)).bind fun t225=>(if t225=true then (mE k x2 x9 (wrap64 (x10+1))) else (some false))) else (none)) else (some true)
def rS (k:Nat) (l0:List (S53)) (l1_0:List Int) (a1_1:Int) (a1_2:Int) (a1_3:Int) (l1_4:List Bool) (l2:List Int):Option (Bool):=(mX k l0 l1_0 a1_1 a1_2 a1_3 l1_4).bind fun t216=>(if t216=true then ((jT k l0 l1_0 a1_1 a1_2 a1_3 l1_4).bind fun bt217=>((mG k (l1_0.length:Int) bt217.1).bind fun t221=>(mE k l2 t221 0))) else (some false))
theorem bCz (k:Nat) (A0:Option Addr) (c0:Nat) (l0:List (S53)) (A1_0:Option Addr) (c1_0:Nat) (l1_0:List Int) (a1_1:Int) (a1_2:Int) (a1_3:Int) (A1_4:Option Addr) (c1_4:Nat) (l1_4:List Bool) (A2:Option Addr) (c2:Nat) (l2:List Int) (r:Bool) (w:World) (hr0:Kd.C tU w A0 l0.length l0) (hc0:l0.length≤c0) (hr1_0:Kd.C (Kd.int .i64) w A1_0 l1_0.length l1_0) (hc1_0:l1_0.length≤c1_0) (hr1_4:Kd.C Kd.bool w A1_4 l1_4.length l1_4) (hc1_4:l1_4.length≤c1_4) (hr2:Kd.C (Kd.int .i64) w A2 l2.length l2) (hc2:l2.length≤c2) (h:rS k l0 l1_0 a1_1 a1_2 a1_3 l1_4 l2=some r):
  Calls Try.prog 27 #[.slice A0 l0.length c0,.agg #[.slice A1_0 l1_0.length c1_0,.int .i64 a1_1,.int .i64 a1_2,.int .i64 a1_3,.slice A1_4 l1_4.length c1_4],.slice A2 l2.length c2] w fun e w'=>e= .returned (.bool r)∧Below w.heap.size w w':=by
 have hu29:=Try.underlying29;have HR0:=aK hr0;have HC0:=aK hc0;clear hr0 hc0;have HR1_0:=aK hr1_0;have HC1_0:=aK hc1_0;clear hr1_0 hc1_0;have HR1_4:=aK hr1_4;have HC1_4:=aK hc1_4;clear hr1_4 hc1_4;have HR2:=aK hr2;have HC2:=aK hc2;clear hr2 hc2;have HB:=aK (bH w.heap.size w);have H:((mX k l0 l1_0 a1_1 a1_2 a1_3 l1_4).bind fun t216=>(if t216=true then ((jT k l0 l1_0 a1_1 a1_2 a1_3 l1_4).bind fun bt217=>((mG k (l1_0.length:Int) bt217.1).bind fun t221=>(mE k l2 t221 0))) else (some false)))=some r:=h
 clear h;replace H:=Option.bind_eq_some_iff.mp H;obtain ⟨t216,A40,H⟩:=H;(try dsimp only at H);have A4:=aK A40;clear A40;by_cases c5:t216=true
 ·subst c5
  rw [if_pos rfl] at H;replace H:=Option.bind_eq_some_iff.mp H;obtain ⟨⟨t217,t220⟩,A60,H⟩:=H;(try dsimp only at H);have A6:=aK A60;clear A60;replace H:=Option.bind_eq_some_iff.mp H;obtain ⟨t221,A70,H⟩:=H;(try dsimp only at H);have A7:=aK A70;clear A70;have H':=aK H;clear H;go_enter Try.func27,Try.ntmps27
  go_wp2_with (first|((with_reducible refine dK (N:=4) rfl ?_);refine dM ?hg (N:=4) ?hd (cs:= #[.slice A1_0 l1_0.length c1_0,.int .i64 a1_1,.int .i64 a1_2,.int .i64 a1_3,.slice A1_4 l1_4.length c1_4]) (t:=29) ?hr ?_;(case hd=>rfl);(case hg=>rfl);(case hr=>first|(go_simp;done)|(go_simp;rfl));intro gb215 hg w8 hbox hb;have BK215:=aK (hbox);have GW215:=aK ((by rw [hg];exact (bW nQ):w.heap.size≤gb215));have GE215:=aK ((by rw [hg];exact (bW nQ):w.heap.size≤gb215));replace HB:=aK (bK nQ hb);clear hb hbox hg;obtain ⟨hcz9_0,hcz9_1,hcz9_2,hcz9_3,hcz9_4,hfz9_0,hfz9_1,hfz9_2,hfz9_3,hfz9_4⟩:=nP BK215)|((with_reducible refine dG (f:=40) rfl ?_);refine gE (some 13) rfl rfl Try.func40 (by kernel_rfl) rfl #[.slice A0 l0.length c0,.agg #[.slice A1_0 l1_0.length c1_0,.int .i64 a1_1,.int .i64 a1_2,.int .i64 a1_3,.slice A1_4 l1_4.length c1_4]] rfl qD ?_;(with_reducible refine (bAh k _ _ l0 _ _ l1_0 a1_1 a1_2 a1_3 _ _ l1_4 true _ ?side1 ?side2 ?side3 ?side4 ?side5 ?side6 A4.out).mono ?_);(case side1=>exact bDl);(case side2=>exact HC0.out);(case side3=>exact bEe);(case side4=>exact HC1_0.out);(case side5=>exact bIe);(case side6=>exact HC1_4.out);rintro e w10 ⟨rfl,hb⟩;refine ⟨_,rfl,?_⟩;replace BK215:=aK (bS (g:=gb215) (o:= .cells #[.slice A1_0 l1_0.length c1_0,.int .i64 a1_1,.int .i64 a1_2,.int .i64 a1_3,.slice A1_4 l1_4.length c1_4] 29 (0,0)) zz55 hb);replace HB:=aK (bK bJs hb);(try clear hb);(try clear hb2);(try clear hk);(try clear hi);obtain ⟨hcz11_0,hcz11_1,hcz11_2,hcz11_3,hcz11_4,hfz11_0,hfz11_1,hfz11_2,hfz11_3,hfz11_4⟩:=nP BK215)|((with_reducible refine dG (f:=41) rfl ?_);refine gE (some 18) rfl rfl Try.func41 (by kernel_rfl) rfl #[.slice A0 l0.length c0,.agg #[.slice A1_0 l1_0.length c1_0,.int .i64 a1_1,.int .i64 a1_2,.int .i64 a1_3,.slice A1_4 l1_4.length c1_4]] rfl qD ?_;(with_reducible refine (tG k _ _ l0 _ _ l1_0 a1_1 a1_2 a1_3 _ _ l1_4 t217 t220 _ ?side1 ?side2 ?side3 ?side4 ?side5 ?side6 A6.out).mono ?_);(case side1=>exact bDl);(case side2=>exact HC0.out);(case side3=>exact bEe);(case side4=>exact HC1_0.out);(case side5=>exact bIe);(case side6=>exact HC1_4.out);rintro e w12 ⟨v218,rfl,ho0,hb⟩;refine ⟨_,rfl,?_⟩;have HO219:=aK (dE ho0 (bW bJs));replace BK215:=aK (bS (g:=gb215) (o:= .cells #[.slice A1_0 l1_0.length c1_0,.int .i64 a1_1,.int .i64 a1_2,.int .i64 a1_3,.slice A1_4 l1_4.length c1_4] 29 (0,0)) zz55 hb);replace HB:=aK (bK bJs hb);(try clear hb);(try clear hb2);(try clear hk);(try clear hi);(try clear ho0);obtain ⟨hcz13_0,hcz13_1,hcz13_2,hcz13_3,hcz13_4,hfz13_0,hfz13_1,hfz13_2,hfz13_3,hfz13_4⟩:=nP BK215;obtain ⟨Ao14,co14,eo14⟩:=cL HO219.out;subst eo14)|((with_reducible refine dG (f:=42) rfl ?_);refine gE (some 25) rfl rfl Try.func42 (by kernel_rfl) rfl #[.int .i64 (l1_0.length:Int),.slice Ao14 t217.length co14] rfl qD ?_;(with_reducible refine (xA k (l1_0.length:Int) _ _ t217 t221 _ ?side1 ?side2 A7.out).mono ?_);(case side1=>exact (by repeat (first|exact (cD HO219.out).2.2|(with_reducible refine Kd.C_alloc ?_ _)|(with_reducible refine Kd.C_drewN ?_ _)|(with_reducible refine Kd.C_drew ?_))));(case side2=>exact (cD HO219.out).2.1);rintro e w15 ⟨v222,rfl,ho0,hb⟩;refine ⟨_,rfl,?_⟩;have HO223:=aK (dE ho0 (bW bJs));replace HO219:=aK (bZ (by (with_reducible repeat (first|apply Kd.R_alloc|apply dA|apply dC));exact HO219.out) hb);replace BK215:=aK (bS (g:=gb215) (o:= .cells #[.slice A1_0 l1_0.length c1_0,.int .i64 a1_1,.int .i64 a1_2,.int .i64 a1_3,.slice A1_4 l1_4.length c1_4] 29 (0,0)) zz55 hb);replace HB:=aK (bK bJs hb);(try clear hb);(try clear hb2);(try clear hk);(try clear hi);(try clear ho0)))
  go_loopg [10] k (fun kq v10 w'=> ∃(x10_1:Int),v10= .int .i64 x10_1∧Aside0 (mE kq l2 t221 x10_1=some r)∧Aside0 (kq≤k)∧Aside0 (Kd.R Kd.bool 4 w' w.heap.size (fun _=>True) v222 t221)∧Aside0 (w'.heap[gb215]? =some (.cells #[(.slice A1_0 l1_0.length c1_0),.int .i64 a1_1,.int .i64 a1_2,.int .i64 a1_3,(.slice A1_4 l1_4.length c1_4)] 29 (0,0)))∧Aside0 (Below w.heap.size w w'))
  case atStart=>exact ⟨(0),nR,H',⟨bV _⟩,⟨by (with_reducible repeat (first|apply Kd.R_alloc|apply dA|apply dC));exact HO223.out⟩,⟨by (with_reducible repeat (first|refine bX ?_ _|refine bY ?_|refine bQ ?_ _));exact BK215.out⟩,⟨by repeat (first|(with_reducible first|exact HB.out|apply bJ|apply bI|apply bG|refine cE ?_ GE215.out)|exact HB.out)⟩⟩
  case round =>
   clear H';(try clear c1);(try clear c2);(try clear p2);(try clear c4);(try clear c5);(try clear hcz11_0);(try clear hcz11_1);(try clear hcz11_2);(try clear hcz11_3);(try clear hcz11_4);(try clear hcz13_0);(try clear hcz13_1);(try clear hcz13_2);(try clear hcz13_3);(try clear hcz13_4);(try clear hcz9_0);(try clear hcz9_1);(try clear hcz9_2);(try clear hcz9_3);(try clear hcz9_4);(try clear hfz11_0);(try clear hfz11_1);(try clear hfz11_2);(try clear hfz11_3);(try clear hfz11_4);(try clear hfz13_0);(try clear hfz13_1);(try clear hfz13_2);(try clear hfz13_3);(try clear hfz13_4);(try clear hfz9_0);(try clear hfz9_1);(try clear hfz9_2);(try clear hfz9_3);(try clear hfz9_4);obtain ⟨x10_1,rfl,HA,HK1,HO_9,BK215,HB⟩:=hrel
   cases gk with
   |zero=>exact absurd HA.out (by simp [mE])
   | succ k1 =>
    have H:=HA.out;clear HA;simp only [mE] at H;by_cases c16:x10_1<(l2.length:Int)
    ·rw [if_pos c16] at H
     have c16b0:decide (x10_1<(l2.length:Int))=true:=bD c16
     clear c16;by_cases c17:0≤x10_1
     ·rw [if_pos c17] at H
      have c17b0:decide (0≤x10_1)=true:=bD c17
      clear c17;replace H:=Option.bind_eq_some_iff.mp H;obtain ⟨t225,A180,H⟩:=H;(try dsimp only at H);have A18:=aK A180;clear A180;by_cases c19:t225=true
      ·subst c19
       rw [if_pos rfl] at H;have H':=aK H;clear H;have p224:0≤(x10_1:Int):=bB jX
       have q224:x10_1<(l2.length:Int):=bB jX
       obtain ⟨ad224,e224,hx224_0⟩:=dL HR2.out x10_1 p224 q224
       cases e224
       replace hx224_0:=(HB.out.cell (bN w _ hx224_0)).trans hx224_0;replace p224:=bO p224;replace q224:=bO q224;obtain ⟨Ao20,co20,eo20⟩:=cL HO_9.out;subst eo20
       go_wp2_with (first|((with_reducible refine dG (f:=43) rfl ?_);refine gE (some 37) rfl rfl Try.func43 (by kernel_rfl) rfl #[.slice Ao20 t221.length co20,.int .i64 (rd l2 x10_1)] rfl qD ?_;(with_reducible refine (rJ _ _ t221 (rd l2 x10_1) true _ ?side1 ?side2 A18.out).mono ?_);(case side1=>exact (by repeat (first|exact (cD HO_9.out).2.2|(with_reducible refine Kd.C_alloc ?_ _)|(with_reducible refine Kd.C_drewN ?_ _)|(with_reducible refine Kd.C_drew ?_))));(case side2=>exact (cD HO_9.out).2.1);rintro e w' ⟨rfl,⟨nd,rfl⟩⟩;refine ⟨_,rfl,?_⟩))
       go_roundg k1
       case measure=>have:=HK1.out;omega
       case rel=>exact ⟨(wrap64 (x10_1+1)),nR,H',⟨by have:=HK1.out;omega⟩,⟨by (with_reducible repeat (first|apply Kd.R_alloc|apply dA|apply dC));exact HO_9.out⟩,⟨by (with_reducible repeat (first|refine bX ?_ _|refine bY ?_|refine bQ ?_ _));exact BK215.out⟩,⟨by repeat (first|(with_reducible first|exact HB.out|apply bJ|apply bI|apply bG|refine cE ?_ GE215.out)|exact HB.out)⟩⟩
      ·replace c19 := Bool.eq_false_iff.mpr c19
       subst c19;rw [if_neg (show¬(false=true) by decide)] at H;obtain rfl:=bE H;have p224:0≤(x10_1:Int):=bB jX
       have q224:x10_1<(l2.length:Int):=bB jX
       obtain ⟨ad224,e224,hx224_0⟩:=dL HR2.out x10_1 p224 q224
       cases e224
       replace hx224_0:=(HB.out.cell (bN w _ hx224_0)).trans hx224_0;replace p224:=bO p224;replace q224:=bO q224;obtain ⟨Ao21,co21,eo21⟩:=cL HO_9.out;subst eo21
       go_wp2_with (first|((with_reducible refine dG (f:=43) rfl ?_);refine gE (some 37) rfl rfl Try.func43 (by kernel_rfl) rfl #[.slice Ao21 t221.length co21,.int .i64 (rd l2 x10_1)] rfl qD ?_;(with_reducible refine (rJ _ _ t221 (rd l2 x10_1) false _ ?side1 ?side2 A18.out).mono ?_);(case side1=>exact (by repeat (first|exact (cD HO_9.out).2.2|(with_reducible refine Kd.C_alloc ?_ _)|(with_reducible refine Kd.C_drewN ?_ _)|(with_reducible refine Kd.C_drew ?_))));(case side2=>exact (cD HO_9.out).2.1);rintro e w' ⟨rfl,⟨nd,rfl⟩⟩;refine ⟨_,rfl,?_⟩))
       go_ret;exact ⟨zL,bJs⟩
     ·rw [if_neg c17] at H
      exact absurd H (by simp)
    ·rw [if_neg c16] at H
     have c16b0:decide (x10_1<(l2.length:Int))=false:=bM c16
     clear c16;obtain rfl:=bE H;go_wp2;go_ret;exact ⟨zL,bJs⟩
 ·replace c5 := Bool.eq_false_iff.mpr c5
  subst c5;rw [if_neg (show¬(false=true) by decide)] at H;obtain rfl:=bE H;go_enter Try.func27,Try.ntmps27
  go_wp2_with (first|((with_reducible refine dK (N:=4) rfl ?_);refine dM ?hg (N:=4) ?hd (cs:= #[.slice A1_0 l1_0.length c1_0,.int .i64 a1_1,.int .i64 a1_2,.int .i64 a1_3,.slice A1_4 l1_4.length c1_4]) (t:=29) ?hr ?_;(case hd=>rfl);(case hg=>rfl);(case hr=>first|(go_simp;done)|(go_simp;rfl));intro gb215 hg w22 hbox hb;have BK215:=aK (hbox);have GW215:=aK ((by rw [hg];exact (bW nQ):w.heap.size≤gb215));have GE215:=aK ((by rw [hg];exact (bW nQ):w.heap.size≤gb215));replace HB:=aK (bK nQ hb);clear hb hbox hg;obtain ⟨hcz23_0,hcz23_1,hcz23_2,hcz23_3,hcz23_4,hfz23_0,hfz23_1,hfz23_2,hfz23_3,hfz23_4⟩:=nP BK215)|((with_reducible refine dG (f:=40) rfl ?_);refine gE (some 13) rfl rfl Try.func40 (by kernel_rfl) rfl #[.slice A0 l0.length c0,.agg #[.slice A1_0 l1_0.length c1_0,.int .i64 a1_1,.int .i64 a1_2,.int .i64 a1_3,.slice A1_4 l1_4.length c1_4]] rfl qD ?_;(with_reducible refine (bAh k _ _ l0 _ _ l1_0 a1_1 a1_2 a1_3 _ _ l1_4 false _ ?side1 ?side2 ?side3 ?side4 ?side5 ?side6 A4.out).mono ?_);(case side1=>exact bDl);(case side2=>exact HC0.out);(case side3=>exact bEe);(case side4=>exact HC1_0.out);(case side5=>exact bIe);(case side6=>exact HC1_4.out);rintro e w24 ⟨rfl,hb⟩;refine ⟨_,rfl,?_⟩;replace BK215:=aK (bS (g:=gb215) (o:= .cells #[.slice A1_0 l1_0.length c1_0,.int .i64 a1_1,.int .i64 a1_2,.int .i64 a1_3,.slice A1_4 l1_4.length c1_4] 29 (0,0)) zz55 hb);replace HB:=aK (bK bJs hb);(try clear hb);(try clear hb2);(try clear hk);(try clear hi)))
  go_ret;exact ⟨zL,bJs⟩
end Go.Proofs.Ytbaklikaoleplaa.K
namespace Go.Proofs.Ytbaklikaoleplaa.K
open Go.RowKit Go.Proofs.YtbaklikaoleplaaW.PrintWords Go.Proofs.YtbaklikaoleplaaW.PrintLast Go.Proofs.YtbaklikaoleplaaW.PrintMore
attribute [local go_sem] gD gB gY gW fR fQ gC gA
set_option linter.unusedVariables false
set_option linter.unusedSimpArgs false
def yR (l0_0:List Int) (a0_1:Int) (a0_2:Int) (a0_3:Int) (l0_4:List Bool):Option (List Int×Int×Int×Int×List Bool):=(some (([]:List Int):List Int)).bind fun y229=>(if y229.length+l0_0.length<17592186044416 then ((some (([]:List Bool):List Bool)).bind fun y235=>(if y235.length+l0_4.length<140737488355328 then (some ((y229++l0_0),a0_1,a0_2,a0_3,(y235++l0_4))) else (none))) else (none))
theorem yS (A0_0:Option Addr) (c0_0:Nat) (l0_0:List Int) (a0_1:Int) (a0_2:Int) (a0_3:Int) (A0_4:Option Addr) (c0_4:Nat) (l0_4:List Bool) (r1:List Int) (r2:Int) (r3:Int) (r4:Int) (r5:List Bool) (w:World) (hr0_0:Kd.C (Kd.int .i64) w A0_0 l0_0.length l0_0) (hc0_0:l0_0.length≤c0_0) (hr0_4:Kd.C Kd.bool w A0_4 l0_4.length l0_4) (hc0_4:l0_4.length≤c0_4) (h:yR l0_0 a0_1 a0_2 a0_3 l0_4=some (r1,r2,r3,r4,r5)):
  Calls Try.prog 44 #[.agg #[.slice A0_0 l0_0.length c0_0,.int .i64 a0_1,.int .i64 a0_2,.int .i64 a0_3,.slice A0_4 l0_4.length c0_4]] w fun e w'=> ∃v0_ v4_:Value,e= .returned (.agg #[v0_,.int .i64 r2,.int .i64 r3,.int .i64 r4,v4_])∧Kd.R (Kd.int .i64) 3 w' w.heap.size (fun _=>True) v0_ r1∧Kd.R Kd.bool 4 w' w.heap.size (fun _=>True) v4_ r5∧Below w.heap.size w w':=by
 have hu29:=Try.underlying29;have HR0_0:=aK hr0_0;have HC0_0:=aK hc0_0;clear hr0_0 hc0_0;have HR0_4:=aK hr0_4;have HC0_4:=aK hc0_4;clear hr0_4 hc0_4;have HB:=aK (bH w.heap.size w);have H:((some (([]:List Int):List Int)).bind fun y229=>(if y229.length+l0_0.length<17592186044416 then ((some (([]:List Bool):List Bool)).bind fun y235=>(if y235.length+l0_4.length<140737488355328 then (some ((y229++l0_0),a0_1,a0_2,a0_3,(y235++l0_4))) else (none))) else (none)))=some (r1,r2,r3,r4,r5):=h
 clear h;obtain ⟨y229,hy229⟩: ∃y_:List Int,y_=(([]:List Int)):=⟨_,rfl⟩;replace H:(if y229.length+l0_0.length<17592186044416 then ((some (([]:List Bool):List Bool)).bind fun y235=>(if y235.length+l0_4.length<140737488355328 then (some ((y229++l0_0),a0_1,a0_2,a0_3,(y235++l0_4))) else (none))) else (none))=some (r1,r2,r3,r4,r5):=by first|(rw [hy229];with_reducible exact H)|(have H2_:=(bC _ _).symm.trans H;rw [hy229];with_reducible exact H2_)|(have H2_:=(bC _ _).symm.trans H;with_reducible exact H2_)|with_reducible exact H|(rw [hy229];exact H)|exact H
 have Ny229:=aK hy229;clear hy229;by_cases c2:y229.length+l0_0.length<17592186044416
 ·rw [if_pos c2] at H
  have LMc2:=aK c2;clear c2;obtain ⟨y232,hy232⟩: ∃y_:List Int,y_=(y229++l0_0):=⟨_,rfl⟩;replace H:((some (([]:List Bool):List Bool)).bind fun y235=>(if y235.length+l0_4.length<140737488355328 then (some (y232,a0_1,a0_2,a0_3,(y235++l0_4))) else (none)))=some (r1,r2,r3,r4,r5):=by first|(rw [hy232];with_reducible exact H)|(have H2_:=(bC _ _).symm.trans H;rw [hy232];with_reducible exact H2_)|(have H2_:=(bC _ _).symm.trans H;with_reducible exact H2_)|with_reducible exact H|(rw [hy232];exact H)|exact H
  have Ny232:=aK hy232;clear hy232;obtain ⟨y235,hy235⟩: ∃y_:List Bool,y_=(([]:List Bool)):=⟨_,rfl⟩;replace H:(if y235.length+l0_4.length<140737488355328 then (some (y232,a0_1,a0_2,a0_3,(y235++l0_4))) else (none))=some (r1,r2,r3,r4,r5):=by first|(rw [hy235];with_reducible exact H)|(have H2_:=(bC _ _).symm.trans H;rw [hy235];with_reducible exact H2_)|(have H2_:=(bC _ _).symm.trans H;with_reducible exact H2_)|with_reducible exact H|(rw [hy235];exact H)|exact H
  have Ny235:=aK hy235;clear hy235;by_cases c3:y235.length+l0_4.length<140737488355328
  ·rw [if_pos c3] at H
   have LMc3:=aK c3;clear c3;obtain ⟨y238,hy238⟩: ∃y_:List Bool,y_=(y235++l0_4):=⟨_,rfl⟩;replace H:(some (y232,a0_1,a0_2,a0_3,y238))=some (r1,r2,r3,r4,r5):=by first|(rw [hy238];with_reducible exact H)|(have H2_:=(bC _ _).symm.trans H;rw [hy238];with_reducible exact H2_)|(have H2_:=(bC _ _).symm.trans H;with_reducible exact H2_)|with_reducible exact H|(rw [hy238];exact H)|exact H
   have Ny238:=aK hy238;clear hy238;simp only [fB,Prod.mk.injEq] at H;obtain ⟨rfl,rfl,rfl,rfl,rfl⟩:=H;go_enter Try.func44,Try.ntmps44
   go_wp2_with (first|((with_reducible refine dK (N:=1) rfl ?_);refine dM ?hg (N:=1) ?hd (cs:= #[.slice A0_0 l0_0.length c0_0,.int .i64 a0_1,.int .i64 a0_2,.int .i64 a0_3,.slice A0_4 l0_4.length c0_4]) (t:=29) ?hr ?_;(case hd=>rfl);(case hg=>rfl);(case hr=>first|(go_simp;done)|(go_simp;rfl));intro gb226 hg w4 hbox hb;have BK226:=aK (hbox);have GW226:=aK ((by rw [hg];exact (bW nQ):w.heap.size≤gb226));have GE226:=aK ((by rw [hg];exact (bW nQ):w.heap.size≤gb226));replace HB:=aK (bK nQ hb);clear hb hbox hg)|((with_reducible refine dK (N:=2) rfl ?_);refine dM ?hg (N:=2) ?hd (cs:= #[.slice none 0 0,.int .i64 0,.int .i64 0,.int .i64 0,.slice none 0 0]) (t:=29) ?hr ?_;(case hd=>rfl);(case hg=>rfl);(case hr=>first|(go_simp;done)|(go_simp;rfl));intro gb227 hg w5 hbox hb;have BK227:=aK (hbox);have GW227:=aK ((by rw [hg];exact (bW (by repeat (first|(with_reducible first|exact HB.out|apply bJ|apply bI|apply bG|refine cE ?_ GE226.out)|exact HB.out))):w.heap.size≤gb227));have GE227:=aK ((by rw [hg];exact (bW (by repeat (first|(with_reducible first|exact HB.out|apply bJ|apply bI|apply bG|refine cE ?_ GE226.out)|exact HB.out))):w.heap.size≤gb227));have NB226_227:=aK ((by rw [hg];exact xD (dN (g:=gb226) (o:= .cells #[.slice A0_0 l0_0.length c0_0,.int .i64 a0_1,.int .i64 a0_2,.int .i64 a0_3,.slice A0_4 l0_4.length c0_4] 29 (0,0)) bKy):gb226≠gb227));have NB227_226:=aK ((by rw [hg];exact Nat.ne_of_gt (dN (g:=gb226) (o:= .cells #[.slice A0_0 l0_0.length c0_0,.int .i64 a0_1,.int .i64 a0_2,.int .i64 a0_3,.slice A0_4 l0_4.length c0_4] 29 (0,0)) bKy):gb227≠gb226));replace BK226:=aK (bS (g:=gb226) (o:= .cells #[.slice A0_0 l0_0.length c0_0,.int .i64 a0_1,.int .i64 a0_2,.int .i64 a0_3,.slice A0_4 l0_4.length c0_4] 29 (0,0)) bKy hb);replace HB:=aK (bK (by repeat (first|(with_reducible first|exact HB.out|apply bJ|apply bI|apply bG|refine cE ?_ GE226.out)|exact HB.out)) hb);clear hb hbox hg;have hnb6:=NB226_227.out;have hnc6:=NB227_226.out;obtain ⟨hcz7_0,hcz7_1,hcz7_2,hcz7_3,hcz7_4,hfz7_0,hfz7_1,hfz7_2,hfz7_3,hfz7_4⟩:=nP BK226)|((with_reducible refine dK (N:=3) rfl ?_);refine dM ?hg (N:=3) ?hd (cs:= #[.slice none 0 0,.int .i64 0,.int .i64 0,.int .i64 0,.slice none 0 0]) (t:=29) ?hr ?_;(case hd=>rfl);(case hg=>rfl);(case hr=>first|(go_simp;done)|(go_simp;rfl));intro gb228 hg w8 hbox hb;have BK228:=aK (hbox);have GW228:=aK ((by rw [hg];exact (bW zz52):w.heap.size≤gb228));have GE228:=aK ((by rw [hg];exact (bW zz52):w.heap.size≤gb228));have NB226_228:=aK ((by rw [hg];exact xD (dN (g:=gb226) (o:= .cells #[.slice A0_0 l0_0.length c0_0,.int .i64 a0_1,.int .i64 a0_2,.int .i64 a0_3,.slice A0_4 l0_4.length c0_4] 29 (0,0)) bKy):gb226≠gb228));have NB228_226:=aK ((by rw [hg];exact Nat.ne_of_gt (dN (g:=gb226) (o:= .cells #[.slice A0_0 l0_0.length c0_0,.int .i64 a0_1,.int .i64 a0_2,.int .i64 a0_3,.slice A0_4 l0_4.length c0_4] 29 (0,0)) bKy):gb228≠gb226));have NB227_228:=aK ((by rw [hg];exact xD (dN (g:=gb227) (o:= .cells #[.slice none 0 0,.int .i64 0,.int .i64 0,.int .i64 0,.slice none 0 0] 29 (0,0)) bQk):gb227≠gb228));have NB228_227:=aK ((by rw [hg];exact Nat.ne_of_gt (dN (g:=gb227) (o:= .cells #[.slice none 0 0,.int .i64 0,.int .i64 0,.int .i64 0,.slice none 0 0] 29 (0,0)) bQk):gb228≠gb227));replace BK226:=aK (bS (g:=gb226) (o:= .cells #[.slice A0_0 l0_0.length c0_0,.int .i64 a0_1,.int .i64 a0_2,.int .i64 a0_3,.slice A0_4 l0_4.length c0_4] 29 (0,0)) bKy hb);replace BK227:=aK (bS (g:=gb227) (o:= .cells #[.slice none 0 0,.int .i64 0,.int .i64 0,.int .i64 0,.slice none 0 0] 29 (0,0)) bQk hb);replace HB:=aK (bK zz52 hb);clear hb hbox hg;have hnb9:=NB228_226.out;have hnc9:=NB226_228.out;have hnb10:=NB228_227.out;have hnc10:=NB227_228.out;obtain ⟨hcz11_0,hcz11_1,hcz11_2,hcz11_3,hcz11_4,hfz11_0,hfz11_1,hfz11_2,hfz11_3,hfz11_4⟩:=nP BK228)|((with_reducible refine dK (N:=5) rfl ?_);refine yI (Kd.int .i64) _ 3 ?hg (N:=5) ?hd (xs:=([]:List Int)) (inner:=[]) (ok:=fun _=>True) (okp:=fun _=>True) ?hr ?hp (fun _ hk=>hk) dT (bH _ _) (bV _) (by simp) ?_;(case hd=>rfl);(case hg=>rfl);(case hr=>first|(go_simp;done)|(go_simp;rfl));(case hp=>exact (pP.none _ _));intro v230 w12 ho13 hb hg_ hnew_;clear hg_ hnew_;(first|rw [←Ny229.out] at ho13|(simp only [Int.reduceToNat] at ho13;rw [←Ny229.out] at ho13));have HO231:=aK (dE ho13 (bW bLb));replace BK226:=aK (bS (g:=gb226) (o:= .cells #[.slice A0_0 l0_0.length c0_0,.int .i64 a0_1,.int .i64 a0_2,.int .i64 a0_3,.slice A0_4 l0_4.length c0_4] 29 (0,0)) (by (with_reducible repeat (first|refine bX ?_ _|refine bY ?_|refine bQ ?_ _));refine jG ?_ NB226_228.out _;(with_reducible repeat (first|refine bX ?_ _|refine bY ?_|refine bQ ?_ _));refine jG ?_ NB226_228.out _;(with_reducible repeat (first|refine bX ?_ _|refine bY ?_|refine bQ ?_ _));refine jG ?_ NB226_228.out _;(with_reducible repeat (first|refine bX ?_ _|refine bY ?_|refine bQ ?_ _));refine jG ?_ NB226_228.out _;(with_reducible repeat (first|refine bX ?_ _|refine bY ?_|refine bQ ?_ _));refine jG ?_ NB226_228.out _;(with_reducible repeat (first|refine bX ?_ _|refine bY ?_|refine bQ ?_ _));exact BK226.out) hb);replace BK227:=aK (bS (g:=gb227) (o:= .cells #[.slice none 0 0,.int .i64 0,.int .i64 0,.int .i64 0,.slice none 0 0] 29 (0,0)) (by (with_reducible repeat (first|refine bX ?_ _|refine bY ?_|refine bQ ?_ _));refine jG ?_ NB227_228.out _;(with_reducible repeat (first|refine bX ?_ _|refine bY ?_|refine bQ ?_ _));refine jG ?_ NB227_228.out _;(with_reducible repeat (first|refine bX ?_ _|refine bY ?_|refine bQ ?_ _));refine jG ?_ NB227_228.out _;(with_reducible repeat (first|refine bX ?_ _|refine bY ?_|refine bQ ?_ _));refine jG ?_ NB227_228.out _;(with_reducible repeat (first|refine bX ?_ _|refine bY ?_|refine bQ ?_ _));refine jG ?_ NB227_228.out _;(with_reducible repeat (first|refine bX ?_ _|refine bY ?_|refine bQ ?_ _));exact BK227.out) hb);replace BK228:=aK (bS (g:=gb228) (o:= .cells #[.slice A0_0 l0_0.length c0_0,.int .i64 a0_1,.int .i64 a0_2,.int .i64 a0_3,.slice A0_4 l0_4.length c0_4] 29 (0,0)) (by (with_reducible repeat (first|refine bX ?_ _|refine bY ?_|refine bQ ?_ _));refine fF (cs:= #[.slice A0_0 l0_0.length c0_0,.int .i64 a0_1,.int .i64 a0_2,.int .i64 a0_3,.slice none 0 0]) ?_ 4 _ rfl;(with_reducible repeat (first|refine bX ?_ _|refine bY ?_|refine bQ ?_ _));refine fF (cs:= #[.slice A0_0 l0_0.length c0_0,.int .i64 a0_1,.int .i64 a0_2,.int .i64 0,.slice none 0 0]) ?_ 3 _ rfl;(with_reducible repeat (first|refine bX ?_ _|refine bY ?_|refine bQ ?_ _));refine fF (cs:= #[.slice A0_0 l0_0.length c0_0,.int .i64 a0_1,.int .i64 0,.int .i64 0,.slice none 0 0]) ?_ 2 _ rfl;(with_reducible repeat (first|refine bX ?_ _|refine bY ?_|refine bQ ?_ _));refine fF (cs:= #[.slice A0_0 l0_0.length c0_0,.int .i64 0,.int .i64 0,.int .i64 0,.slice none 0 0]) ?_ 1 _ rfl;(with_reducible repeat (first|refine bX ?_ _|refine bY ?_|refine bQ ?_ _));refine fF (cs:= #[.slice none 0 0,.int .i64 0,.int .i64 0,.int .i64 0,.slice none 0 0]) ?_ 0 _ rfl;(with_reducible repeat (first|refine bX ?_ _|refine bY ?_|refine bQ ?_ _));exact BK228.out) hb);replace HB:=aK (bK bLb hb);clear hb ho13;obtain ⟨hcz14_0,hcz14_1,hcz14_2,hcz14_3,hcz14_4,hfz14_0,hfz14_1,hfz14_2,hfz14_3,hfz14_4⟩:=nP BK226)|((with_reducible refine jK (b:= .append) (xs:= #[.tmp 5,.tmp 7]) rfl ?_);at_builtin;refine xF (Kd.int .i64) (w0:=w) w.heap.size rfl (.tmp 5) (.tmp 7) 23 3 (.int .i64 0) 8 rfl Try.underlying23 qT rfl (by decide) (by omega) v230 y229 l0_0 _ _ _ (fun _=>True) (fun _=>False) rfl rfl ?aO ?aR (fun _ _ h=>h) (fun _ h=>h.elim) ?aF ?aB ?aS ?aL ?_;(case aR=>repeat (first|exact (cG HR0_0.out HB.out)|(with_reducible refine Kd.C_alloc ?_ _)|(with_reducible refine Kd.C_drewN ?_ _)|(with_reducible refine Kd.C_drew ?_)));(case aB=>exact bLb);(case aF=>exact (fun _ _=>trivial));(case aO=>exact (by (with_reducible repeat (first|apply Kd.R_alloc|apply dA|apply dC));exact HO231.out));(case aS=>exact (bW bLb));(case aL=>have:=LMc2.out;omega);intro v233 w15 ho hb hg hat;rw [←Ny232.out] at ho;have n0_:=aK (nE (g:=gb226) (o:= .cells #[.slice A0_0 l0_0.length c0_0,.int .i64 a0_1,.int .i64 a0_2,.int .i64 a0_3,.slice A0_4 l0_4.length c0_4] 29 (0,0)) bKy hg (qP HO231.out BK226.out (by decide)));have n1_:=aK (nE (g:=gb227) (o:= .cells #[.slice none 0 0,.int .i64 0,.int .i64 0,.int .i64 0,.slice none 0 0] 29 (0,0)) bQk hg (qP HO231.out BK227.out (by decide)));have n2_:=aK (nE (g:=gb228) (o:= .cells #[.slice A0_0 l0_0.length c0_0,.int .i64 a0_1,.int .i64 a0_2,.int .i64 a0_3,.slice A0_4 l0_4.length c0_4] 29 (0,0)) (by (with_reducible repeat (first|refine bX ?_ _|refine bY ?_|refine bQ ?_ _));exact BK228.out) hg (qP HO231.out BK228.out (by decide)));have n3_:=aK (hb);have n4_:=aK (ho);clear BK226;clear BK227;clear BK228;clear HB;clear HO231;have BK226:=n0_;have BK227:=n1_;have BK228:=n2_;have HB:=n3_;have HO234:=n4_;clear n0_ n1_ n2_ n3_ n4_;clear ho hb hg hat;obtain ⟨Ao16,co16,eo16⟩:=cL HO234.out;subst eo16;obtain ⟨hcz17_0,hcz17_1,hcz17_2,hcz17_3,hcz17_4,hfz17_0,hfz17_1,hfz17_2,hfz17_3,hfz17_4⟩:=nP BK228)|((with_reducible refine dK (N:=10) rfl ?_);refine yI Kd.bool _ 4 ?hg (N:=10) ?hd (xs:=([]:List Bool)) (inner:=[]) (ok:=fun _=>True) (okp:=fun _=>True) ?hr ?hp (fun _ hk=>hk) dT (bH _ _) (bV _) (by simp) ?_;(case hd=>rfl);(case hg=>rfl);(case hr=>first|(go_simp;done)|(go_simp;rfl));(case hp=>exact (pP.none _ _));intro v236 w18 ho19 hb hg_ hnew_;clear hg_ hnew_;(first|rw [←Ny235.out] at ho19|(simp only [Int.reduceToNat] at ho19;rw [←Ny235.out] at ho19));have HO237:=aK (dE ho19 (bW bLb));replace HO234:=aK (bZ (by (with_reducible repeat (first|apply Kd.R_alloc|apply dA|apply dC));exact (cI (jA (p:=⟨gb228,0,none⟩) (nJ HO234.out BK228.out (by decide)) (fun _ hk=>hk.2) (.slice Ao16 y232.length co16)) (fun _ h_=>h_.1))) hb);replace BK226:=aK (bS (g:=gb226) (o:= .cells #[.slice A0_0 l0_0.length c0_0,.int .i64 a0_1,.int .i64 a0_2,.int .i64 a0_3,.slice A0_4 l0_4.length c0_4] 29 (0,0)) (by (with_reducible repeat (first|refine bX ?_ _|refine bY ?_|refine bQ ?_ _));refine jG ?_ NB226_228.out _;(with_reducible repeat (first|refine bX ?_ _|refine bY ?_|refine bQ ?_ _));exact BK226.out) hb);replace BK227:=aK (bS (g:=gb227) (o:= .cells #[.slice none 0 0,.int .i64 0,.int .i64 0,.int .i64 0,.slice none 0 0] 29 (0,0)) (by (with_reducible repeat (first|refine bX ?_ _|refine bY ?_|refine bQ ?_ _));refine jG ?_ NB227_228.out _;(with_reducible repeat (first|refine bX ?_ _|refine bY ?_|refine bQ ?_ _));exact BK227.out) hb);replace BK228:=aK (bS (g:=gb228) (o:= .cells #[.slice Ao16 y232.length co16,.int .i64 a0_1,.int .i64 a0_2,.int .i64 a0_3,.slice A0_4 l0_4.length c0_4] 29 (0,0)) (by (with_reducible repeat (first|refine bX ?_ _|refine bY ?_|refine bQ ?_ _));refine fF (cs:= #[.slice A0_0 l0_0.length c0_0,.int .i64 a0_1,.int .i64 a0_2,.int .i64 a0_3,.slice A0_4 l0_4.length c0_4]) ?_ 0 _ rfl;(with_reducible repeat (first|refine bX ?_ _|refine bY ?_|refine bQ ?_ _));exact BK228.out) hb);replace HB:=aK (bK bLb hb);clear hb ho19;obtain ⟨hcz20_0,hcz20_1,hcz20_2,hcz20_3,hcz20_4,hfz20_0,hfz20_1,hfz20_2,hfz20_3,hfz20_4⟩:=nP BK226)|((with_reducible refine jK (b:= .append) (xs:= #[.tmp 10,.tmp 12]) rfl ?_);at_builtin;refine xF Kd.bool (w0:=w) w.heap.size rfl (.tmp 10) (.tmp 12) 24 4 (.bool false) 1 rfl Try.underlying24 bGa rfl (by decide) (by omega) v236 y235 l0_4 _ _ _ (fun _=>True) (fun _=>False) rfl rfl ?aO ?aR (fun _ _ h=>h) (fun _ h=>h.elim) ?aF ?aB ?aS ?aL ?_;(case aR=>repeat (first|exact (cG HR0_4.out HB.out)|(with_reducible refine Kd.C_alloc ?_ _)|(with_reducible refine Kd.C_drewN ?_ _)|(with_reducible refine Kd.C_drew ?_)));(case aB=>exact bLb);(case aF=>exact (fun _ _=>trivial));(case aO=>exact (by (with_reducible repeat (first|apply Kd.R_alloc|apply dA|apply dC));exact HO237.out));(case aS=>exact (bW bLb));(case aL=>have:=LMc3.out;omega);intro v239 w21 ho hb hg hat;rw [←Ny238.out] at ho;have n0_:=aK (nE (g:=gb226) (o:= .cells #[.slice A0_0 l0_0.length c0_0,.int .i64 a0_1,.int .i64 a0_2,.int .i64 a0_3,.slice A0_4 l0_4.length c0_4] 29 (0,0)) bKy hg (qP HO237.out BK226.out (by decide)));have n1_:=aK (nE (g:=gb227) (o:= .cells #[.slice none 0 0,.int .i64 0,.int .i64 0,.int .i64 0,.slice none 0 0] 29 (0,0)) bQk hg (qP HO237.out BK227.out (by decide)));have n2_:=aK (nE (g:=gb228) (o:= .cells #[.slice Ao16 y232.length co16,.int .i64 a0_1,.int .i64 a0_2,.int .i64 a0_3,.slice A0_4 l0_4.length c0_4] 29 (0,0)) (by (with_reducible repeat (first|refine bX ?_ _|refine bY ?_|refine bQ ?_ _));exact BK228.out) hg (qP HO237.out BK228.out (by decide)));have n3_:=aK (Kd.R_over' (by (with_reducible repeat (first|apply Kd.R_alloc|apply dA|apply dC));exact HO234.out) (Kd.R_typed (by (with_reducible repeat (first|apply Kd.R_alloc|apply dA|apply dC));exact HO237.out)) (by decide) hg);have n4_:=aK (hb);have n5_:=aK (ho);clear BK226;clear BK227;clear BK228;clear HO234;clear HB;clear HO237;have BK226:=n0_;have BK227:=n1_;have BK228:=n2_;have HO234:=n3_;have HB:=n4_;have HO240:=n5_;clear n0_ n1_ n2_ n3_ n4_ n5_;clear ho hb hg hat;obtain ⟨Ao22,co22,eo22⟩:=cL HO240.out;subst eo22;obtain ⟨hcz23_0,hcz23_1,hcz23_2,hcz23_3,hcz23_4,hfz23_0,hfz23_1,hfz23_2,hfz23_3,hfz23_4⟩:=nP BK228;obtain ⟨hcz24_0,hcz24_1,hcz24_2,hcz24_3,hcz24_4,hfz24_0,hfz24_1,hfz24_2,hfz24_3,hfz24_4⟩:=nP BK227))
   refine fM (jY rfl _ _ gb227 29 #[.slice Ao16 y232.length co16,.int .i64 a0_1,.int .i64 a0_2,.int .i64 a0_3,.slice Ao22 y238.length co22] (0,0) _ rfl (by (with_reducible repeat (first|refine bX ?_ _|refine bY ?_|refine bQ ?_ _));refine fF (cs:= #[.slice Ao16 y232.length co16,.int .i64 a0_1,.int .i64 a0_2,.int .i64 a0_3,.slice none 0 0]) ?_ 4 _ rfl;(with_reducible repeat (first|refine bX ?_ _|refine bY ?_|refine bQ ?_ _));refine fF (cs:= #[.slice Ao16 y232.length co16,.int .i64 a0_1,.int .i64 a0_2,.int .i64 0,.slice none 0 0]) ?_ 3 _ rfl;(with_reducible repeat (first|refine bX ?_ _|refine bY ?_|refine bQ ?_ _));refine fF (cs:= #[.slice Ao16 y232.length co16,.int .i64 a0_1,.int .i64 0,.int .i64 0,.slice none 0 0]) ?_ 2 _ rfl;(with_reducible repeat (first|refine bX ?_ _|refine bY ?_|refine bQ ?_ _));refine fF (cs:= #[.slice Ao16 y232.length co16,.int .i64 0,.int .i64 0,.int .i64 0,.slice none 0 0]) ?_ 1 _ rfl;(with_reducible repeat (first|refine bX ?_ _|refine bY ?_|refine bQ ?_ _));refine fF (cs:= #[.slice none 0 0,.int .i64 0,.int .i64 0,.int .i64 0,.slice none 0 0]) ?_ 0 _ rfl;(with_reducible repeat (first|refine bX ?_ _|refine bY ?_|refine bQ ?_ _));refine jG ?_ NB227_228.out _;(with_reducible repeat (first|refine bX ?_ _|refine bY ?_|refine bQ ?_ _));exact BK227.out) Try.underlying29 rfl (by kernel_rfl)) rfl ?_;exact ⟨_,_,by first|rfl|(simp [dS,dR]<;>rfl)|(simp [*,dS,dR]<;>rfl),by (with_reducible repeat (first|apply Kd.R_alloc|apply dA|apply dC));exact cI (jA (p:=⟨gb227,4,none⟩) (jA (p:=⟨gb227,3,none⟩) (jA (p:=⟨gb227,2,none⟩) (jA (p:=⟨gb227,1,none⟩) (jA (p:=⟨gb227,0,none⟩) (jA (p:=⟨gb228,4,none⟩) (nJ (nJ HO234.out BK228.out (by decide)) BK227.out (by decide)) (fun _ hk=>hk.1.2) (.slice Ao22 y238.length co22)) (fun _ hk=>hk.2) (.slice Ao16 y232.length co16)) (fun _ hk=>hk.2) (.int .i64 a0_1)) (fun _ hk=>hk.2) (.int .i64 a0_2)) (fun _ hk=>hk.2) (.int .i64 a0_3)) (fun _ hk=>hk.2) (.slice Ao22 y238.length co22)) (fun _ hk=>trivial),by (with_reducible repeat (first|apply Kd.R_alloc|apply dA|apply dC));exact cI (jA (p:=⟨gb227,4,none⟩) (jA (p:=⟨gb227,3,none⟩) (jA (p:=⟨gb227,2,none⟩) (jA (p:=⟨gb227,1,none⟩) (jA (p:=⟨gb227,0,none⟩) (jA (p:=⟨gb228,4,none⟩) (nJ (nJ HO240.out BK228.out (by decide)) BK227.out (by decide)) (fun _ hk=>hk.1.2) (.slice Ao22 y238.length co22)) (fun _ hk=>hk.2) (.slice Ao16 y232.length co16)) (fun _ hk=>hk.2) (.int .i64 a0_1)) (fun _ hk=>hk.2) (.int .i64 a0_2)) (fun _ hk=>hk.2) (.int .i64 a0_3)) (fun _ hk=>hk.2) (.slice Ao22 y238.length co22)) (fun _ hk=>trivial),by repeat (first|(with_reducible first|exact HB.out|apply bJ|apply bI|apply bG|refine cE ?_ GE226.out|refine cE ?_ GE227.out|refine cE ?_ GE228.out)|exact HB.out)⟩
  ·rw [if_neg c3] at H
   exact absurd H (by simp)
 ·rw [if_neg c2] at H
  exact absurd H (by simp)
end Go.Proofs.Ytbaklikaoleplaa.K
namespace Go.Proofs.Ytbaklikaoleplaa.K
open Go.RowKit Go.Proofs.YtbaklikaoleplaaW.PrintWords Go.Proofs.YtbaklikaoleplaaW.PrintLast Go.Proofs.YtbaklikaoleplaaW.PrintMore
attribute [local go_sem] gD gB gY gW fR fQ gC gA
set_option linter.unusedVariables false
set_option linter.unusedSimpArgs false
structure Xv where
 ws:List Int
 y:Int
 t:Int
 o:Int
 cd:List Bool
 nw:List Int
 ok:Bool
def bDv (A:Option Addr):Option Nat:=(Value.slice A 0 0).ownBlock
theorem yC (A:Option Addr) (n c:Nat):(Value.slice A n c).ownBlock=bDv A:=by cases A<;>rfl
def S3 (gx gw:Nat) (AT:Option Addr) (k:Nat):Prop:=k=gx∨k=gw∨some k=bDv AT
structure Xg (b:Nat) (w0:World) (gx gw:Nat) (AK:Option Addr) (nK cK cW:Nat) (AC:Option Addr) (cC:Nat) (AT:Option Addr) (cT:Nat) (w:World) (s:Xv):Prop where
 bx:w.heap[gx]? =some (.cells #[.slice AK nK cK,.slice (some ⟨gw,0,none⟩) s.ws.length cW,.int .i64 s.y,.int .i64 s.t,.int .i64 s.o,.slice AC s.cd.length cC,.slice AT s.nw.length cT,.bool s.ok] 77 (0,0))
 ge:b≤gx
 rw_:Kd.R (Kd.int .i64) 3 w b (fun k=>k≠gx∧some k≠bDv AT) (.slice (some ⟨gw,0,none⟩) s.ws.length cW) s.ws
 rt:Kd.R (Kd.int .i64) 3 w b (fun k=>k≠gx∧k≠gw) (.slice AT s.nw.length cT) s.nw
 rc:Kd.R Kd.bool 4 w b (fun k=>k≠gx∧k≠gw∧some k≠bDv AT) (.slice AC s.cd.length cC) s.cd
 be:Below b w0 w
 sz:b≤w.heap.size
section
variable {b gx gw nK cK cW cC cT:Nat} {w0 w w1:World} {AK AC AT:Option Addr} {s:Xv}
theorem Xg.below (h:Xg b w0 gx gw AK nK cK cW AC cC AT cT w s) (hb:Below w.heap.size w w1):Xg b w0 gx gw AK nK cK cW AC cC AT cT w1 s:=
  ⟨bS h.bx hb,h.ge,bZ h.rw_ hb,bZ h.rt hb,bZ h.rc hb,h.be.trans (hb.mono h.sz),dO h.sz hb.size⟩
theorem Xg.gwge (h:Xg b w0 gx gw AK nK cK cW AC cC AT cT w s):b≤gw:=nN h.rw_ gw rfl
theorem Xg.gwx (h:Xg b w0 gx gw AK nK cK cW AC cC AT cT w s):gw≠gx∧some gw≠bDv AT:=h.rw_.1 gw rfl
theorem Xg.step (h:Xg b w0 gx gw AK nK cK cW AC cC AT cT w s) {S:Nat→Prop} (hc:Ch S w w1) (hS: ∀k,S k→b≤k):Below b w0 w1∧b≤w1.heap.size:=⟨h.be.trans (hc.toBelow h.sz hS),dO h.sz hc.size⟩
theorem Xg.word (h:Xg b w0 gx gw AK nK cK cW AC cC AT cT w s) (i v:Int):
  Xg b w0 gx gw AK nK cK cW AC cC AT cT (w.setCell ⟨gw,i.toNat,none⟩ (.int .i64 v)) {s with ws:=s.ws.set i.toNat v}∧Ch (S3 gx gw AT) w (w.setCell ⟨gw,i.toNat,none⟩ (.int .i64 v)):=by
 have hc:Ch (fun k=>k=gw) w (w.setCell ⟨gw,i.toNat,none⟩ (.int .i64 v)):=(Ch.refl (fun k=>k=gw) w).set (p:=⟨gw,i.toNat,none⟩) (.inl rfl) _
 have hs:=h.step hc (fun k hk=>by rw [hk];exact h.gwge);have hl:(s.ws.set i.toNat v).length=s.ws.length:=dV
 refine ⟨⟨?_,h.ge,?_,hc.R h.rt (fun k hk=>hk.2),hc.R h.rc (fun k hk=>hk.2.1),hs.1,hs.2⟩,hc.mono (fun k hk=> .inr (.inl hk))⟩
 ·show (w.setCell ⟨gw, i.toNat, none⟩ (.int .i64 v)).heap[gx]? = some (.cells #[.slice AK nK cK, .slice (some ⟨gw, 0, none⟩) (s.ws.set i.toNat v).length cW, .int .i64 s.y, .int .i64 s.t, .int .i64 s.o, .slice AC s.cd.length cC, .slice AT s.nw.length cT, .bool s.ok] 77 (0, 0))
  rw [hl];exact hc.blk h.bx (fun e=>h.gwx.1 e.symm)
 ·show Kd.R (Kd.int .i64) 3 _ b _ (.slice (some ⟨gw, 0, none⟩) (s.ws.set i.toNat v).length cW) (s.ws.set i.toNat v)
  rw [hl];exact (Kd.R_put (enc:=Value.int .i64) (h1:=fun _=>rfl) h.rw_ i v).1
theorem Xg.told {gt:Nat} (h:Xg b w0 gx gw AK nK cK cW AC cC (some ⟨gt,0,none⟩) cT w s) (i v:Int):
  Xg b w0 gx gw AK nK cK cW AC cC (some ⟨gt,0,none⟩) cT (w.setCell ⟨gt,i.toNat,none⟩ (.int .i64 v)) {s with nw:=s.nw.set i.toNat v}∧Ch (S3 gx gw (some ⟨gt,0,none⟩)) w (w.setCell ⟨gt,i.toNat,none⟩ (.int .i64 v)):=by
 have hc:Ch (fun k=>k=gt) w (w.setCell ⟨gt,i.toNat,none⟩ (.int .i64 v)):=(Ch.refl (fun k=>k=gt) w).set (p:=⟨gt,i.toNat,none⟩) (.inl rfl) _
 have hn:=h.rt.1 gt rfl;have hs:=h.step hc (fun k hk=>by rw [hk];exact nN h.rt gt rfl);have hl:(s.nw.set i.toNat v).length=s.nw.length:=dV
 refine ⟨⟨?_,h.ge,hc.R h.rw_ (fun k hk e=>hk.2 (by rw [e];rfl)),?_,hc.R h.rc (fun k hk e=>hk.2.2 (by rw [e];rfl)),hs.1,hs.2⟩,hc.mono (fun k hk=> .inr (.inr (by rw [hk];rfl)))⟩
 ·show (w.setCell ⟨gt, i.toNat, none⟩ (.int .i64 v)).heap[gx]? = some (.cells #[.slice AK nK cK, .slice (some ⟨gw, 0, none⟩) s.ws.length cW, .int .i64 s.y, .int .i64 s.t, .int .i64 s.o, .slice AC s.cd.length cC, .slice (some ⟨gt, 0, none⟩) (s.nw.set i.toNat v).length cT, .bool s.ok] 77 (0, 0))
  rw [hl];exact hc.blk h.bx (fun e=>hn.1 e.symm)
 ·show Kd.R (Kd.int .i64) 3 _ b _ (.slice (some ⟨gt, 0, none⟩) (s.nw.set i.toNat v).length cT) (s.nw.set i.toNat v)
  rw [hl];exact (Kd.R_put (enc:=Value.int .i64) (h1:=fun _=>rfl) h.rt i v).1
theorem Xg.cell (h:Xg b w0 gx gw AK nK cK cW AC cC AT cT w s) {s':Xv} (hc:Ch (fun k=>k=gx) w w1) (hb:w1.heap[gx]? =some (.cells #[.slice AK nK cK,.slice (some ⟨gw,0,none⟩) s'.ws.length cW,.int .i64 s'.y,.int .i64 s'.t,.int .i64 s'.o,.slice AC s'.cd.length cC,.slice AT s'.nw.length cT,.bool s'.ok] 77 (0,0)))
  (e1:s'.ws=s.ws) (e2:s'.cd=s.cd) (e3:s'.nw=s.nw):Xg b w0 gx gw AK nK cK cW AC cC AT cT w1 s'∧Ch (S3 gx gw AT) w w1:=by
 have hs:=h.step hc (fun k hk=>by rw [hk];exact h.ge);exact ⟨⟨hb,h.ge,by rw [e1];exact hc.R h.rw_ (fun k hk=>hk.1),by rw [e3];exact hc.R h.rt (fun k hk=>hk.1),by rw [e2];exact hc.R h.rc (fun k hk=>hk.1),hs.1,hs.2⟩,hc.mono (fun k hk=> .inl hk)⟩
theorem Xg.chx (i:Nat) (v:Value) (w:World):Ch (fun k=>k=gx) w (w.setCell ⟨gx,i,none⟩ v):=(Ch.refl (fun k=>k=gx) w).set (p:=⟨gx,i,none⟩) (.inl rfl) _
theorem Xg.okS (h:Xg b w0 gx gw AK nK cK cW AC cC AT cT w s) (f:Bool):Xg b w0 gx gw AK nK cK cW AC cC AT cT (w.setCell ⟨gx,7,none⟩ (.bool f)) {s with ok:=f}∧Ch (S3 gx gw AT) w (w.setCell ⟨gx,7,none⟩ (.bool f)):=
  h.cell (Xg.chx 7 _ w) (fF h.bx 7 _ rfl) rfl rfl rfl
theorem Xg.oldS (h:Xg b w0 gx gw AK nK cK cW AC cC AT cT w s) (o:Int):Xg b w0 gx gw AK nK cK cW AC cC AT cT (w.setCell ⟨gx,4,none⟩ (.int .i64 o)) {s with o:=o}∧Ch (S3 gx gw AT) w (w.setCell ⟨gx,4,none⟩ (.int .i64 o)):=
  h.cell (Xg.chx 4 _ w) (fF h.bx 4 _ rfl) rfl rfl rfl
end
section
variable {b gx gw nK cK cW cC cT:Nat} {w0 w w1:World} {AK AC AT:Option Addr} {s:Xv}
theorem Xg.s3lt (h:Xg b w0 gx gw AK nK cK cW AC cC AT cT w s) (k:Nat) (hk:S3 gx gw AT k):k<w.heap.size:=by
 rcases hk with rfl|rfl|e
 ·exact dN h.bx
 ·exact pM h.rw_ _ rfl
 ·exact pM h.rt k (by rw [yC];exact e.symm)
theorem Xg.s3ge (h:Xg b w0 gx gw AK nK cK cW AC cC AT cT w s) (k:Nat) (hk:S3 gx gw AT k):b≤k:=by
 rcases hk with rfl|rfl|e
 ·exact h.ge
 ·exact h.gwge
 ·exact nN h.rt k (by rw [yC];exact e.symm)
theorem Xg.fresh {α:Type} {d:Kd α} {e:Nat} {ok:Nat→Prop} {v:Value} {xs:List α} (h:Xg b w0 gx gw AK nK cK cW AC cC AT cT w s) (hr:d.R e w1 w.heap.size ok v xs):d.R e w1 b (fun k=> ¬S3 gx gw AT k) v xs:=
  dE (cI (fZ hr) (fun k hk h3=>by have:=h.s3lt k h3;have:=hk.2.1;omega)) h.sz
end
theorem bBb {α β:Type} {d:Kd α} {d':Kd β} {e e' b b':Nat} {w:World} {ok ok':Nat→Prop} {v u:Value} {xs:List α} {ys:List β} (h:d.R e w b ok v xs) (h':d'.R e' w b' ok' u ys) (ht: ∀q,q∈e::d.E→q∉e'::d'.E): ∀k,v.ownBlock=some k→u.ownBlock≠some k:=fun k hk hk'=>by
 obtain ⟨_,_,_,q,hq,c,hc⟩:=(fZ h).1 k hk;obtain ⟨_,_,_,q',hq',c',hc'⟩:=(fZ h').1 k hk';rw [hc] at hc';injection hc' with hc';injection hc' with _ hc';exact ht q hq (by rw [hc'];exact hq')
section
variable {b gx gw nK cK cW cC cT:Nat} {w0 w w1:World} {AK AC AT:Option Addr} {s:Xv}
theorem Xg.other (h:Xg b w0 gx gw AK nK cK cW AC cC AT cT w s) {S:Nat→Prop} (hc:Ch S w w1) (h3: ∀k,S k→¬S3 gx gw AT k) (hC: ∀k,S k→(Value.slice AC s.cd.length cC).ownBlock≠some k) (hb: ∀k,S k→b≤k):Xg b w0 gx gw AK nK cK cW AC cC AT cT w1 s:=by
 have hs:=h.step hc hb;refine ⟨hc.blk h.bx (fun e=>h3 _ e (.inl rfl)),h.ge,?_,?_,?_,hs.1,hs.2⟩
 ·exact jC (enc:=Value.int .i64) (h1:=fun _=>rfl) (jO (enc:=Value.int .i64) (h1:=fun _=>rfl) (hc.R (ok:=fun k=>k=gw) (jC (enc:=Value.int .i64) (h1:=fun _=>rfl) (jO (enc:=Value.int .i64) (h1:=fun _=>rfl) h.rw_) (fun k hk=>by injection hk with hk;exact hk.symm)) (fun k hk e=>h3 k e (.inr (.inl hk))))) h.rw_.1
 ·exact jC (enc:=Value.int .i64) (h1:=fun _=>rfl) (jO (enc:=Value.int .i64) (h1:=fun _=>rfl) (hc.R (ok:=fun k=>some k=bDv AT) (jC (enc:=Value.int .i64) (h1:=fun _=>rfl) (jO (enc:=Value.int .i64) (h1:=fun _=>rfl) h.rt) (fun k hk=>by rw [yC] at hk;exact hk.symm)) (fun k hk e=>h3 k e (.inr (.inr hk))))) h.rt.1
 ·exact jC (enc:=Value.bool) (h1:=fun _=>rfl) (jO (enc:=Value.bool) (h1:=fun _=>rfl) (hc.R (ok:=fun k=>(Value.slice AC s.cd.length cC).ownBlock=some k) (jC (enc:=Value.bool) (h1:=fun _=>rfl) (jO (enc:=Value.bool) (h1:=fun _=>rfl) h.rc) (fun k hk=>hk)) (fun k hk e=>hC k e hk))) h.rc.1
end
end Go.Proofs.Ytbaklikaoleplaa.K
namespace Go.Proofs.Ytbaklikaoleplaa.K
open Go.RowKit Go.Proofs.YtbaklikaoleplaaW.PrintWords Go.Proofs.YtbaklikaoleplaaW.PrintLast Go.Proofs.YtbaklikaoleplaaW.PrintMore
attribute [local go_sem] gD gB gY gW fR fQ gC gA
set_option linter.unusedVariables false
set_option linter.unusedSimpArgs false
def bIl (ws:List Int) (o j:Int):Nat→List Int
  |0=>ws
  |k+1=>(bIl ws o j k).set (o+k).toNat (rd (bIl ws o j k) (j+k))
theorem bMf (ws:List Int) (o j:Int): ∀k,(bIl ws o j k).length=ws.length
  |0=>rfl
  |k+1=>by unfold bIl;rw [dV];exact bMf ws o j k
def bFw (k : Nat) (l0 : List S53) (s : Xv) (v : Int) : Option (Int × Xv) :=
 if v=0 then some (v,s) else if v>s.y then some (v,s) else if s.ok=false then some (v,s)
 else if (1≤v∧v≤s.nw.length)∧(s.nw.length≤2000000∧s.ws.length≤2000000)∧0≤s.o∧s.o≤2000000 then
  if rd s.nw (v - 1)>0 then some (rd s.nw (v - 1),s)
  else (jN k l0 s.ws (v - 1) s.y).bind fun n=>
   if 0≤n∧n≤2000000∧v - 1+n≤s.ws.length then
    if s.o+n>s.ws.length then some (v,{s with ok:=false})
    else some (s.o+1,{s with ws:=bIl s.ws s.o (v - 1) n.toNat,nw:=s.nw.set (v - 1).toNat (s.o+1),o:=s.o+n})
   else none
 else none
theorem tK (k b:Nat) (w0:World) (gx gw:Nat) (AK:Option Addr) (cK cW:Nat) (l0:List S53) (AC:Option Addr) (cC:Nat) (AT:Option Addr) (cT:Nat) (s s':Xv) (v r:Int) (w:World) (hc0:Kd.C tU w0 AK l0.length l0) (hcl:l0.length≤cK) (hb0:b=w0.heap.size) (hg:Xg b w0 gx gw AK l0.length cK cW AC cC AT cT w s) (h:bFw k l0 s v=some (r,s')):
  Calls Try.prog 46 #[.pointer (some ⟨gx,0,none⟩),.int .i64 v] w fun e w'=>e= .returned (.int .i64 r)∧Xg b w0 gx gw AK l0.length cK cW AC cC AT cT w' s'∧Ch (S3 gx gw AT) w w':=by
 subst hb0;have HG:=aK hg;have HC0:=aK hc0;have HCl:=aK hcl;have HCh:=aK (Ch.refl (S3 gx gw AT) w);have q0:=(bA HG.out.bx 0).trans rfl;have q1:=(bA HG.out.bx 1).trans rfl;have q2:=(bA HG.out.bx 2).trans rfl;have q3:=(bA HG.out.bx 3).trans rfl;have q4:=(bA HG.out.bx 4).trans rfl;have q5:=(bA HG.out.bx 5).trans rfl;have q6:=(bA HG.out.bx 6).trans rfl;have q7:=(bA HG.out.bx 7).trans rfl;clear hg hc0 hcl;unfold bFw at h;by_cases c0:v=0
 ·rw [if_pos c0] at h
  obtain ⟨rfl,rfl⟩:=Prod.mk.inj (bE h);have d0:decide (v=0)=true:=bD c0
  have d0b:(v==0)=true:=zH.mpr c0
  clear c0 h;go_enter Try.func46,Try.ntmps46;go_wp2;go_ret;exact ⟨rfl,HG.out,HCh.out⟩
 rw [if_neg c0] at h;have d0:decide (v=0)=false:=bM c0
 have d0b:(v==0)=false:=xP.mpr c0
 clear c0;by_cases c1:v>s.y
 ·rw [if_pos c1] at h
  obtain ⟨rfl,rfl⟩:=Prod.mk.inj (bE h);have d1:decide (v>s.y)=true:=bD c1
  clear c1 h;go_enter Try.func46,Try.ntmps46;go_wp2;go_ret;exact ⟨rfl,HG.out,HCh.out⟩
 rw [if_neg c1] at h;have d1:decide (v>s.y)=false:=bM c1
 clear c1
 cases hok:s.ok with
 |false=>
  rw [if_pos hok] at h;obtain ⟨rfl,rfl⟩:=Prod.mk.inj (bE h);rw [hok] at q7;clear h;go_enter Try.func46,Try.ntmps46;go_wp2;go_ret;exact ⟨rfl,HG.out,HCh.out⟩
 | true =>
  rw [if_neg (by rw [hok];simp)] at h
  split at h
  case isFalse=>simp at h
  case isTrue hx=>
  rw [hok] at q7;obtain ⟨gt,cT',eT,_,_,_⟩:=pG HG.out.rt (by omega);injection eT with e1 e2 e3;subst e1 e3;clear e2;have HX:=aK hx;have HOK:=aK hok;obtain ⟨j,hj⟩: ∃j,j=v - 1:=⟨_,rfl⟩;rw [←hj] at h;have v1:wrap64 (v - 1)=j:=by rw [hj];unfold wrap64;omega
  have u1:IntKind.i64.wrap (v - 1)=j:=by rw [hj];exact dD _ (by omega)
  have HJ:=aK (show 0≤j∧j<(s.nw.length:Int) by omega);have HJv:=aK hj;have i1:=bO HJ.out.1;have i2:=bO HJ.out.2;obtain ⟨u,hu⟩: ∃u,u=rd s.nw j:=⟨_,rfl⟩;have t0:w.cell? ⟨gt,j.toNat,none⟩=some (.int .i64 u):=by rw [hu];exact (kO (enc:=Value.int .i64) (h1:=fun _=>rfl) 0 HG.out.rt j HJ.out.1 HJ.out.2).1
  rw [←hu] at h;clear hx hok hj hu;by_cases cu:u>0
  ·rw [if_pos cu] at h
   obtain ⟨rfl,rfl⟩:=Prod.mk.inj (bE h);have d2:decide (u>0)=true:=bD cu
   clear cu h;go_enter Try.func46,Try.ntmps46;go_wp2;go_ret;exact ⟨rfl,HG.out,HCh.out⟩
  rw [if_neg cu] at h;have d2:decide (u>0)=false:=bM cu
  clear cu;obtain ⟨n,hn,h⟩:=Option.bind_eq_some_iff.mp h
  split at h
  case isFalse=>simp at h
  case isTrue hy=>
  have HN:=aK hn;have HY:=aK hy;have H:=aK h;clear hn hy h;go_enter Try.func46,Try.ntmps46;go_wp2;refine sT 18 (S:=fun w'=>w'.cell? ⟨gx,0,none⟩=some (.slice AK l0.length cK)∧w'.cell? ⟨gx,1,none⟩=some (.slice (some ⟨gw,0,none⟩) s.ws.length cW)∧w'.cell? ⟨gx,2,none⟩=some (.int .i64 s.y)) (ds:=[16]) ⟨(by go_simp),(by go_simp),(by go_simp)⟩ (fun hHeld=>?_);replace HG:=aK (HG.out.below (bG (bH w.heap.size w)));replace HCh:=aK (HCh.out.below (bG (bH w.heap.size w)));generalize World.drew w=wt at HG HCh hHeld ⊢;refine cJ 0 ?_;refine cJ 1 ?_;refine cJ 2 ?_;refine cJ 4 ?_;refine cJ 5 ?_;refine cJ 6 ?_;refine cJ 7 ?_;refine cJ 9 ?_;refine cJ 10 ?_;refine cJ 11 ?_;refine cJ 12 ?_;refine cJ 13 ?_;refine cJ 14 ?_;refine tS 3 46 (lA 18 32511) rfl rfl (by kernel_rfl) hHeld bBg ?_;refine tS 8 51 (lA 18 32767) rfl rfl (by kernel_rfl) hHeld bBg ?_;refine tS 15 58 (lA 18 65535) rfl rfl (by kernel_rfl) hHeld bBg ?_;refine qL (i:=16) (N:=some 59) (lA 18 131071) rfl rfl (by kernel_rfl) (by decide) (fun K hK=>?_);refine gO Try.func48 #[.slice AK l0.length cK,.slice (some ⟨gw,0,none⟩) s.ws.length cW,.int .i64 j,.int .i64 s.y] ?_;(with_reducible refine (pR k AK cK l0 (some ⟨gw,0,none⟩) cW s.ws j s.y n _ (cG HC0.out HG.out.be) HCl.out (cD HG.out.rw_).2.2 (cD HG.out.rw_).2.1 HN.out).mono ?_);rintro e w2 ⟨rfl,hb⟩;replace HG:=aK (HG.out.below hb);replace HCh:=aK (HCh.out.below hb);clear hb;refine ⟨_,rfl,?_⟩;refine hK.out _ _ ?_;clear hK K;refine nS 59 ?_;refine cJ 17 ?_;refine gT (by kernel_rfl) ?_;clear hHeld q0 q1 q2 q3 q4 q5 q6 q7 t0 d0 d0b d1 d2;have q0:=(bA HG.out.bx 0).trans rfl;have q1:=(bA HG.out.bx 1).trans rfl;have q2:=(bA HG.out.bx 2).trans rfl;have q3:=(bA HG.out.bx 3).trans rfl;have q4:=(bA HG.out.bx 4).trans rfl;have q5:=(bA HG.out.bx 5).trans rfl;have q6:=(bA HG.out.bx 6).trans rfl;have q7:=(bA HG.out.bx 7).trans rfl;obtain ⟨o1,ho⟩: ∃x,x=s.o+n:=⟨_,rfl⟩;have HO1:=aK ho;have v2:wrap64 (s.o+n)=o1:=by rw [ho];unfold wrap64;have:=HX.out;have:=HY.out;omega
  have u2:IntKind.i64.wrap (s.o+n)=o1:=by rw [ho];exact dD _ (by have:=HX.out;have:=HY.out;omega)
  have h:=H.out;rw [←ho] at h;clear ho;by_cases c1:o1>(s.ws.length:Int)
  ·rw [if_pos c1] at h
   obtain ⟨rfl,rfl⟩:=Prod.mk.inj (bE h);have d1:decide (o1>(s.ws.length:Int))=true:=bD c1
   clear c1 h H;go_wp2;refine sT 14 (S:=fun w'=>w'.cell? ⟨gx,1,none⟩=some (.slice (some ⟨gw,0,none⟩) s.ws.length cW)∧w'.cell? ⟨gx,4,none⟩=some (.int .i64 s.o)) (ds:=[]) ⟨(by go_simp),(by go_simp)⟩ (fun hHeld=>?_);replace HG:=aK (HG.out.below (bG (bH w2.heap.size w2)));replace HCh:=aK (HCh.out.below (bG (bH w2.heap.size w2)));generalize World.drew w2=wt at HG HCh hHeld ⊢;refine cJ 0 ?_;refine cJ 1 ?_;refine cJ 2 ?_;refine cJ 3 ?_;refine cJ 5 ?_;refine cJ 7 ?_;refine cJ 8 ?_;refine cJ 9 ?_;refine cJ 10 ?_;refine tS 4 64 (lA 14 1983) rfl rfl (by kernel_rfl) hHeld bAe ?_;refine cJ 6 ?_;refine tS 11 71 (lA 14 4095) rfl rfl (by kernel_rfl) hHeld bAe ?_;refine cJ 12 ?_;refine cJ 13 ?_;refine gT (by kernel_rfl) ?_;clear hHeld q0 q1 q2 q3 q4 q5 q6 q7;have q0:=(bA HG.out.bx 0).trans rfl;have q1:=(bA HG.out.bx 1).trans rfl;have q2:=(bA HG.out.bx 2).trans rfl;have q3:=(bA HG.out.bx 3).trans rfl;have q4:=(bA HG.out.bx 4).trans rfl;have q5:=(bA HG.out.bx 5).trans rfl;have q6:=(bA HG.out.bx 6).trans rfl;have q7:=(bA HG.out.bx 7).trans rfl;have f7:=bL HG.out.bx 7
   go_wp2_with ((with_reducible refine fX (t:=4) (p:=76) rfl ?_);refine bF (fun hng=>?_))
   refine hng ?_;clear hng;refine fN (t:=4) (p:=76) (v:=?vo8) (w1:=(wt.setCell ⟨gx,7,none⟩ (.bool false))) ?hg ?ho ?hn ?hr ?_
   (case ho=>rfl)
   (case hg=>rfl)
   (case hn=>rfl)
   (case hr=>first|(go_simp;done)|(go_simp;rfl))
   intro w4 hw;have hn:=HG.out.okS false;rw [←hw] at hn;clear hw f7 q0 q1 q2 q3 q4 q5 q6 q7;go_wp2;go_ret;exact ⟨rfl,hn.1,HCh.out.then_ hn.2⟩
  ·rw [if_neg c1] at h
   have HR_:=aK (Prod.mk.inj (bE h));have d1:decide (o1>(s.ws.length:Int))=false:=bM c1
   have HFI:=aK c1;clear c1 h H;go_wp2;refine sT 14 (S:=fun w'=>w'.cell? ⟨gx,1,none⟩=some (.slice (some ⟨gw,0,none⟩) s.ws.length cW)∧w'.cell? ⟨gx,4,none⟩=some (.int .i64 s.o)) (ds:=[]) ⟨(by go_simp),(by go_simp)⟩ (fun hHeld=>?_);replace HG:=aK (HG.out.below (bG (bH w2.heap.size w2)));replace HCh:=aK (HCh.out.below (bG (bH w2.heap.size w2)));generalize World.drew w2=wt at HG HCh hHeld ⊢;refine cJ 0 ?_;refine cJ 1 ?_;refine cJ 2 ?_;refine cJ 3 ?_;refine cJ 5 ?_;refine cJ 7 ?_;refine cJ 8 ?_;refine cJ 9 ?_;refine cJ 10 ?_;refine tS 4 64 (lA 14 1983) rfl rfl (by kernel_rfl) hHeld bAe ?_;refine cJ 6 ?_;refine tS 11 71 (lA 14 4095) rfl rfl (by kernel_rfl) hHeld bAe ?_;refine cJ 12 ?_;refine cJ 13 ?_;refine gT (by kernel_rfl) ?_;clear hHeld q0 q1 q2 q3 q4 q5 q6 q7;go_wp2
   go_loopw [6] (fun v6 wr=> ∃(k_:Nat) (t:Xv),v6= .int .i64 (k_:Int)∧Aside0 (k_≤n.toNat∧t={s with ws:=bIl s.ws s.o j k_})∧Aside0 (Xg w0.heap.size w0 gx gw AK l0.length cK cW AC cC (some ⟨gt,0,none⟩) cT wr t)∧Aside0 (Ch (S3 gx gw (some ⟨gt,0,none⟩)) w wr)) (fun v6 _=>n.toNat - (intOf v6).toNat)
   case atStart=>exact ⟨0,s,rfl,⟨hU _,rfl⟩,HG,HCh⟩
   case round=>
    clear HG HCh;obtain ⟨k_,t,rfl,HT0,HG,HCh⟩:=hrel;have q0:=(bA HG.out.bx 0).trans rfl;have q1:=(bA HG.out.bx 1).trans rfl;have q2:=(bA HG.out.bx 2).trans rfl;have q3:=(bA HG.out.bx 3).trans rfl;have q4:=(bA HG.out.bx 4).trans rfl;have q5:=(bA HG.out.bx 5).trans rfl;have q6:=(bA HG.out.bx 6).trans rfl;have q7:=(bA HG.out.bx 7).trans rfl;by_cases cx:(k_:Int)<n
    ·have d3 : decide ((k_ : Int) < n) = true := bD cx
     have HK1:=aK (show k_<n.toNat by omega);have hlen:t.ws.length=s.ws.length:=by rw [HT0.out.2];exact bMf _ _ _ _
     have ho:t.o=s.o:=by rw [HT0.out.2]
     have hy:=HY.out;have hx:=HX.out;have hj:=HJ.out;have hjv:=HJv.out;have hf:=HFI.out;have h1:=HO1.out;obtain ⟨a1,ha1⟩: ∃x,x=t.o+(k_:Int):=⟨_,rfl⟩;obtain ⟨a2,ha2⟩: ∃x,x=j+(k_:Int):=⟨_,rfl⟩;have v3:wrap64 (t.o+(k_:Int))=a1:=by rw [ha1,ho];unfold wrap64;omega
     have v4:wrap64 (j+(k_:Int))=a2:=by rw [ha2];unfold wrap64;omega
     have HT:=aK (show 0≤a1∧a1<(t.ws.length:Int) by omega);have HT2:=aK (show 0≤a2∧a2<(t.ws.length:Int) by omega);have i3:=bO HT.out.1;have i4:=bO HT.out.2;have i5:=bO HT2.out.1;have i6:=bO HT2.out.2;have HA:=aK (And.intro ha1 ha2);have HTo:=aK ho;obtain ⟨z,hz⟩: ∃z,z=rd t.ws a2:=⟨_,rfl⟩;have t0:wr.cell? ⟨gw,a2.toNat,none⟩=some (.int .i64 z):=by rw [hz];exact (kO (enc:=Value.int .i64) (h1:=fun _=>rfl) 0 HG.out.rw_ a2 HT2.out.1 HT2.out.2).1
     have HZ:=aK hz;have u3:IntKind.i64.wrap ((k_:Int)+1)=(k_:Int)+1:=dD _ (by omega)
     clear hlen ho hy hx hj hjv hf h1 ha1 ha2 hz cx;go_wp2;refine sT 25 (S:=fun w'=>w'.cell? ⟨gx,1,none⟩=some (.slice (some ⟨gw,0,none⟩) t.ws.length cW)∧w'.cell? ⟨gx,4,none⟩=some (.int .i64 t.o)∧w'.cell? ⟨gw,a2.toNat,none⟩=some (.int .i64 z)) (ds:=[24]) ⟨(by go_simp),(by go_simp),(by go_simp)⟩ (fun hHeld=>?_);replace HG:=aK (HG.out.below (bG (bH wr.heap.size wr)));replace HCh:=aK (HCh.out.below (bG (bH wr.heap.size wr)));generalize World.drew wr=wt at HG HCh hHeld ⊢;obtain ⟨xz,fz⟩:=kO (enc:=Value.int .i64) (h1:=fun _=>rfl) 0 HG.out.rw_ a1 HT.out.1 HT.out.2;refine cJ 0 ?_;refine cJ 1 ?_;refine cJ 2 ?_;refine cJ 3 ?_;refine cJ 5 ?_;refine cJ 6 ?_;refine cJ 7 ?_;refine cJ 8 ?_;refine cJ 10 ?_;refine cJ 12 ?_;refine cJ 13 ?_;refine cJ 14 ?_;refine cJ 15 ?_;refine cJ 17 ?_;refine cJ 18 ?_;refine cJ 19 ?_;refine cJ 20 ?_;refine tS 4 87 (lA 25 2029055) rfl rfl (by kernel_rfl) hHeld bBg ?_;refine tS 9 92 (lA 25 2029567) rfl rfl (by kernel_rfl) hHeld bBg ?_;refine cJ 11 ?_;refine tS 16 99 (lA 25 2097151) rfl rfl (by kernel_rfl) hHeld bBg ?_;refine cJ 21 ?_;refine tS 22 105 (lA 25 8388607) rfl rfl (by kernel_rfl) hHeld bBg ?_;refine cJ 23 ?_;refine qL (i:=24) (N:=none) (lA 25 33554431) rfl rfl (by kernel_rfl) (by decide) (fun K hK=>?_);refine vN (w1:=?_) (by rfl) rfl ?_ ?_;rotate_left
     ·go_simp
      rfl
     refine hK.out _ _ ?_;clear hK K;refine gT (by kernel_rfl) ?_;have hn:=HG.out.word a1 z;clear hHeld xz fz t0 q0 q1 q2 q3 q4 q5 q6 q7;generalize hw5:wt.setCell ⟨gw,a1.toNat,none⟩ (.int .i64 z)=w5 at hn ⊢;clear hw5;go_wp2
     go_roundw
     case rel=>exact ⟨k_+1,_,rfl,⟨HK1.out,by rw [HZ.out,HA.out.1,HA.out.2,HTo.out,HT0.out.2];rfl⟩,⟨hn.1⟩,⟨HCh.out.then_ hn.2⟩⟩
     case measure=>have:=HK1.out;simp only [intOf];omega
    ·have d3 : decide ((k_ : Int) < n) = false := bM cx
     have hk:k_=n.toNat:=by have:=HT0.out.1;omega
     have ho:t.o=s.o:=by rw [HT0.out.2]
     have hto:t.nw=s.nw:=by rw [HT0.out.2]
     have hx:=HX.out;have hy:=HY.out;have h1:=HO1.out;obtain ⟨o2,ho2⟩: ∃x,x=t.o+1:=⟨_,rfl⟩;have v3:wrap64 (t.o+1)=o2:=by rw [ho2,ho];unfold wrap64;omega
     have u3:IntKind.i64.wrap (t.o+n)=o1:=by rw [ho,h1];exact dD _ (by omega)
     have v4:wrap64 (t.o+n)=o1:=by rw [ho,h1];unfold wrap64;omega
     have HJ2:=aK (show 0≤j∧j<(t.nw.length:Int) by rw [hto];exact HJ.out);have i3:=bO HJ2.out.2;have HO2:=aK ho2;have HTo:=aK ho;have HK:=aK hk;clear cx hx hy h1 ho2 ho hto hk;go_wp2;refine sT 14 (S:=fun w'=>w'.cell? ⟨gx,4,none⟩=some (.int .i64 t.o)∧w'.cell? ⟨gx,6,none⟩=some (.slice (some ⟨gt,0,none⟩) t.nw.length cT)) (ds:=[13]) ⟨(by go_simp),(by go_simp)⟩ (fun hHeld=>?_);replace HG:=aK (HG.out.below (bG (bH wr.heap.size wr)));replace HCh:=aK (HCh.out.below (bG (bH wr.heap.size wr)));generalize World.drew wr=wt at HG HCh hHeld ⊢;obtain ⟨xz,fz⟩:=kO (enc:=Value.int .i64) (h1:=fun _=>rfl) 0 HG.out.rt j HJ2.out.1 HJ2.out.2;refine cJ 0 ?_;refine cJ 1 ?_;refine cJ 2 ?_;refine cJ 4 ?_;refine cJ 5 ?_;refine cJ 6 ?_;refine cJ 7 ?_;refine cJ 8 ?_;refine cJ 9 ?_;refine tS 3 110 (lA 14 1023) rfl rfl (by kernel_rfl) hHeld bAe ?_;refine tS 10 117 (lA 14 2047) rfl rfl (by kernel_rfl) hHeld bAe ?_;refine cJ 11 ?_;refine cJ 12 ?_;refine qL (i:=13) (N:=none) (lA 14 16383) rfl rfl (by kernel_rfl) (by decide) (fun K hK=>?_);refine vN (w1:=?_) (by rfl) rfl ?_ ?_;rotate_left
     ·go_simp
      rfl
     refine hK.out _ _ ?_;clear hK K;refine gT (by kernel_rfl) ?_;have hn:=HG.out.told j o2;clear hHeld xz fz i3 q0 q1 q2 q3 q4 q5 q6 q7;generalize wt.setCell ⟨gt,j.toNat,none⟩ (.int .i64 o2)=w5 at hn ⊢;have HG5:=aK hn.1;replace HCh:=aK (HCh.out.then_ hn.2);clear hn HG;have q4:w5.cell? ⟨gx,4,none⟩=some (.int .i64 t.o):=(bA HG5.out.bx 4).trans rfl
     have f4:=bL HG5.out.bx 4
     go_wp2_with ((with_reducible refine fX (t:=3) (p:=130) rfl ?_);refine bF (fun hng=>?_))
     refine hng ?_;clear hng;refine fN (t:=3) (p:=130) (v:=?vo9) (w1:=(w5.setCell ⟨gx,4,none⟩ (.int .i64 o1))) ?hg ?ho ?hn ?hr ?_
     (case ho=>rfl)
     (case hg=>rfl)
     (case hn=>rfl)
     (case hr=>first|(go_simp;done)|(go_simp;rfl))
     intro w6 hw;have hn:=HG5.out.oldS o1;rw [←hw] at hn;clear hw f4 q4;have HG:=aK hn.1;replace HCh:=aK (HCh.out.then_ hn.2);clear hn HG5;have q6:w6.cell? ⟨gx,6,none⟩=some (.slice (some ⟨gt,0,none⟩) (t.nw.set j.toNat o2).length cT):=(bA HG.out.bx 6).trans rfl
     have i3:=bO (show j<((t.nw.set j.toNat o2).length:Int) by rw [dV];exact HJ2.out.2)
     have t0:w6.cell? ⟨gt,j.toNat,none⟩=some (.int .i64 o2):=by
      have h_:=(kO (enc:=Value.int .i64) (h1:=fun _=>rfl) 0 HG.out.rt j HJ2.out.1 (of_eq_true i3)).1;have e_:kK 0 (t.nw.set j.toNat o2) j=o2:=by have hj:=HJ2.out;unfold kK;rw [bP,tP (by omega)];rfl
      exact h_.trans (gF (fun z=>some (Value.int .i64 z)) e_)
     have i4:=bO HJ2.out.2;go_wp2;go_ret;have e2:({t with nw:=t.nw.set j.toNat o2,o:=o1}:Xv)=s':=by rw [←HR_.out.2,HO2.out,HTo.out,HO1.out,HT0.out.2,HK.out]
     exact ⟨by rw [←HR_.out.1,HO2.out,HTo.out];rfl,by rw [←e2];exact HG.out,HCh.out⟩
end Go.Proofs.Ytbaklikaoleplaa.K
namespace Go.Proofs.Ytbaklikaoleplaa.K
open Go.RowKit Go.Proofs.YtbaklikaoleplaaW.PrintWords Go.Proofs.YtbaklikaoleplaaW.PrintLast Go.Proofs.YtbaklikaoleplaaW.PrintMore
attribute [local go_sem] gD gB gY gW fR fQ gC gA
set_option linter.unusedVariables false
set_option linter.unusedSimpArgs false
def bOd (s:Xv) (refs:List Bool) (i:Int) (cards:Bool) (k:Nat):Option Bool:=
  if kK false refs k=false then some false else if cards=false then some true
  else if 0≤Int.tdiv (i+k - s.y) 4∧Int.tdiv (i+k - s.y) 4<s.cd.length∧(-2000000≤s.y∧s.y≤2000000)∧s.cd.length≤2000000 then some (kK false s.cd (Int.tdiv (i+k - s.y) 4)) else none
def bBm (kf:Nat) (l0:List S53) (refs:List Bool) (i:Int) (cards:Bool):Nat→Nat→Xv→Option Xv
  |0,_,s=>some s
  | d + 1, k, s => (bOd s refs i cards k).bind fun b => if b = true then
      (if i+k<s.ws.length∧s.ws.length≤2000000 then (bFw kf l0 s (rd s.ws (i+k))).bind fun p=>if i+k<p.2.ws.length then bBm kf l0 refs i cards d (k+1) {p.2 with ws:=p.2.ws.set (i+k).toNat p.1} else none else none)
      else bBm kf l0 refs i cards d (k+1) s
def bFd (kf:Nat) (l0:List S53) (s:Xv) (i:Int) (cards:Bool):Option Xv:=
  if 0≤i∧i≤2000000 then (mQ kf l0 s.ws i).bind fun refs=>if refs.length≤4000000 then bBm kf l0 refs i cards refs.length 0 s else none else none
theorem xV (k b:Nat) (w0:World) (gx gw:Nat) (AK:Option Addr) (cK cW:Nat) (l0:List S53) (AC:Option Addr) (cC:Nat) (AT:Option Addr) (cT:Nat) (s s':Xv) (i:Int) (cards:Bool) (w:World) (hc0:Kd.C tU w0 AK l0.length l0) (hcl:l0.length≤cK) (hb0:b=w0.heap.size) (hg:Xg b w0 gx gw AK l0.length cK cW AC cC AT cT w s) (h:bFd k l0 s i cards=some s'):
  Calls Try.prog 47 #[.pointer (some ⟨gx,0,none⟩),.int .i64 i,.bool cards] w fun e w'=>e= .returned (.tuple #[])∧Xg b w0 gx gw AK l0.length cK cW AC cC AT cT w' s'∧Ch (S3 gx gw AT) w w':=by
 subst hb0;unfold bFd at h
 split at h
 case isFalse=>simp at h
 case isTrue hi0=>
 obtain ⟨refs,hn,h⟩:=Option.bind_eq_some_iff.mp h
 split at h
 case isFalse=>simp at h
 case isTrue hrl=>
 have HI:=aK hi0;have HRL:=aK hrl;have HN:=aK hn;have H:=aK h;have HG:=aK hg;have HC0:=aK hc0;have HCl:=aK hcl;have HCh:=aK (Ch.refl (S3 gx gw AT) w);have q0:=(bA HG.out.bx 0).trans rfl;have q1:=(bA HG.out.bx 1).trans rfl;have q2:=(bA HG.out.bx 2).trans rfl;have q3:=(bA HG.out.bx 3).trans rfl;have q4:=(bA HG.out.bx 4).trans rfl;have q5:=(bA HG.out.bx 5).trans rfl;have q6:=(bA HG.out.bx 6).trans rfl;have q7:=(bA HG.out.bx 7).trans rfl;clear hg hc0 hcl h hn hi0 hrl;go_enter Try.func47,Try.ntmps47;go_wp2;refine sT 12 (S:=fun w'=>w'.cell? ⟨gx,0,none⟩=some (.slice AK l0.length cK)∧w'.cell? ⟨gx,1,none⟩=some (.slice (some ⟨gw,0,none⟩) s.ws.length cW)) (ds:=[10]) ⟨(by go_simp),(by go_simp)⟩ (fun hHeld=>?_);replace HG:=aK (HG.out.below (bG (bH w.heap.size w)));replace HCh:=aK (HCh.out.below (bG (bH w.heap.size w)));generalize World.drew w=wt at HG HCh hHeld ⊢;refine cJ 0 ?_;refine cJ 1 ?_;refine cJ 2 ?_;refine cJ 4 ?_;refine cJ 5 ?_;refine cJ 6 ?_;refine cJ 7 ?_;refine cJ 9 ?_;refine tS 3 12 (lA 12 767) rfl rfl (by kernel_rfl) hHeld bAe ?_;refine tS 8 17 (lA 12 1023) rfl rfl (by kernel_rfl) hHeld bAe ?_;refine qL (i:=10) (N:=some 19) (lA 12 2047) rfl rfl (by kernel_rfl) (by decide) (fun K hK=>?_);refine gO Try.func74 #[.slice AK l0.length cK,.slice (some ⟨gw,0,none⟩) s.ws.length cW,.int .i64 i] ?_;(with_reducible refine (tH k AK cK l0 (some ⟨gw,0,none⟩) cW s.ws i refs _ (cG HC0.out HG.out.be) HCl.out (cD HG.out.rw_).2.2 (cD HG.out.rw_).2.1 HN.out).mono ?_);rintro e w2 ⟨vf,rfl,hf,hb⟩;have HRf:=aK (show Kd.R Kd.bool 4 w2 w0.heap.size (fun k_=> ¬S3 gx gw AT k_) vf refs from HG.out.fresh hf);replace HG:=aK (HG.out.below hb);replace HCh:=aK (HCh.out.below hb);clear hb hf;obtain ⟨AF,cF,rfl⟩:=cL HRf.out;refine ⟨_,rfl,?_⟩;refine hK.out _ _ ?_;clear hK K;refine nS 19 ?_;refine cJ 11 ?_;refine gT (by kernel_rfl) ?_;clear hHeld q0 q1 q2 q3 q4 q5 q6 q7;go_wp2
 go_loopw [7] (fun v7 wr=> ∃(k_:Nat) (t:Xv),v7= .int .i64 (k_:Int)∧Aside0 (k_≤refs.length∧bBm k l0 refs i cards (refs.length - k_) k_ t=some s')∧Aside0 (Xg w0.heap.size w0 gx gw AK l0.length cK cW AC cC AT cT wr t)∧Aside0 (Kd.R Kd.bool 4 wr w0.heap.size (fun k_=> ¬S3 gx gw AT k_) (.slice AF refs.length cF) refs)∧Aside0 (Ch (S3 gx gw AT) w wr)) (fun v7 _=>refs.length - (intOf v7).toNat)
 case atStart=>exact ⟨0,s,rfl,⟨hU _,H.out⟩,HG,HRf,HCh⟩
 case round =>
  clear HG HCh HRf H;obtain ⟨k_,t,rfl,HT0,HG,HRf,HCh⟩:=hrel;by_cases cx:(k_:Int)<(refs.length:Int)
  ·have d3 : decide ((k_ : Int) < (refs.length : Int)) = true := bD cx
   have d3b:=bO (show k_<refs.length by omega);have HK1:=aK (show k_<refs.length by omega);have h:=HT0.out.2;obtain ⟨d,hd⟩: ∃d,refs.length - k_=d+1:=⟨refs.length - k_ - 1,by omega⟩;have hd2:refs.length - (k_+1)=d:=by omega
   rw [hd] at h;unfold bBm at h;obtain ⟨bw,hw,h⟩:=Option.bind_eq_some_iff.mp h;have HD:=aK hd2;have H:=aK h;have u3:IntKind.i64.wrap ((k_:Int)+1)=(k_:Int)+1:=dD _ (by have:=HRL.out;omega)
   obtain ⟨af,e0,hcell⟩:=kN (cD HRf.out).2.2 k_ (by omega) (by omega)
   cases e0
   rw [dF] at hcell;have i1:=bO (show 0≤(k_:Int) by omega);have i2:=bO cx;unfold bOd at hw;clear h hd hd2 cx HT0
   cases hrb:kK false refs (k_:Int) with
   |false=>
    rw [hrb] at hw hcell;rw [if_pos rfl] at hw;obtain rfl:=bE hw;clear hw hrb;go_wp2;refine sT 27 (S:=fun w'=>w'.cell? (af.add k_)=some (.bool false)) (ds:=[]) ((by go_simp)) (fun hHeld=>?_);replace HG:=aK (HG.out.below (bG (bH wr.heap.size wr)));replace HCh:=aK (HCh.out.below (bG (bH wr.heap.size wr)));replace HRf:=aK (bZ HRf.out (bG (bH wr.heap.size wr)));generalize World.drew wr=wt at HG HCh HRf hHeld ⊢;refine cJ 0 ?_;refine cJ 1 ?_;refine cJ 2 ?_;refine tS 3 29 (lA 27 15) rfl rfl (by kernel_rfl) hHeld (by intro w' s0;go_simp;with_reducible rfl) ?_;refine cJ 4 ?_;refine fW 5 ?_;refine fW 6 ?_;refine fW 7 ?_;refine fW 8 ?_;refine fW 9 ?_;refine fW 10 ?_;refine fW 11 ?_;refine fW 12 ?_;refine fW 13 ?_;refine fW 14 ?_;refine fW 15 ?_;refine fW 16 ?_;refine fW 17 ?_;refine fW 18 ?_;refine fW 19 ?_;refine fW 20 ?_;refine fW 21 ?_;refine fW 22 ?_;refine fW 23 ?_;refine fW 24 ?_;refine fW 25 ?_;refine cJ 26 ?_;refine gT (by kernel_rfl) ?_;clear hHeld hcell;have h:=H.out;rw [if_neg (by simp)] at h;replace H:=aK h;clear h;go_wp2
    go_roundw
    case rel=>exact ⟨k_+1,_,rfl,⟨HK1.out,by rw [HD.out];exact H.out⟩,HG,HRf,HCh⟩
    case measure=>have:=HK1.out;simp only [intOf];omega
   | true =>
    rw [hrb] at hw hcell;rw [if_neg (by simp)] at hw;clear hrb
    cases cards with
    |false=>
     rw [if_pos rfl] at hw;obtain rfl:=bE hw;clear hw;go_wp2;refine sT 27 (S:=fun w'=>w'.cell? (af.add k_)=some (.bool true)) (ds:=[]) ((by go_simp)) (fun hHeld=>?_);replace HG:=aK (HG.out.below (bG (bH wr.heap.size wr)));replace HCh:=aK (HCh.out.below (bG (bH wr.heap.size wr)));replace HRf:=aK (bZ HRf.out (bG (bH wr.heap.size wr)));generalize World.drew wr=wt at HG HCh HRf hHeld ⊢;refine cJ 0 ?_;refine cJ 1 ?_;refine cJ 2 ?_;refine tS 3 29 (lA 27 15) rfl rfl (by kernel_rfl) hHeld (by intro w' s0;go_simp;with_reducible rfl) ?_;refine cJ 4 ?_;refine cJ 5 ?_;refine cJ 6 ?_;refine cJ 7 ?_;refine fW 8 ?_;refine fW 9 ?_;refine fW 10 ?_;refine fW 11 ?_;refine fW 12 ?_;refine fW 13 ?_;refine fW 14 ?_;refine fW 15 ?_;refine fW 16 ?_;refine fW 17 ?_;refine fW 18 ?_;refine fW 19 ?_;refine fW 20 ?_;refine fW 21 ?_;refine fW 22 ?_;refine fW 23 ?_;refine fW 24 ?_;refine cJ 25 ?_;refine cJ 26 ?_;refine gT (by kernel_rfl) ?_;clear hHeld hcell;have h:=H.out;first|rw [if_pos rfl] at h|rw [if_pos dT] at h
     split at h
     case isFalse=>simp at h
     case isTrue hx=>
     obtain ⟨⟨v,t1⟩,hm,h⟩:=Option.bind_eq_some_iff.mp h;dsimp only at h
     split at h
     case isFalse=>simp at h
     case isTrue hx2=>
     have HM:=aK hm;replace H:=aK h;obtain ⟨a1,ha1⟩: ∃x,x=i+(k_:Int):=⟨_,rfl⟩;have u4:IntKind.i64.wrap (i+(k_:Int))=a1:=by rw [ha1];exact dD _ (by have:=HI.out;omega)
     have HA:=aK ha1;have HT:=aK (show 0≤a1∧a1<(t.ws.length:Int) by have:=HI.out;omega);have HT2:=aK (show 0≤a1∧a1<(t1.ws.length:Int) by have:=HI.out;omega);obtain ⟨z,hz⟩: ∃z,z=rd t.ws (i+(k_:Int)):=⟨_,rfl⟩;rw [←hz] at HM;have t0:wt.cell? ⟨gw,a1.toNat,none⟩=some (.int .i64 z):=by rw [hz,←ha1];exact (kO (enc:=Value.int .i64) (h1:=fun _=>rfl) 0 HG.out.rw_ a1 HT.out.1 HT.out.2).1
     have q1:=(bA HG.out.bx 1).trans rfl;have i3:=bO HT.out.1;have i4:=bO HT.out.2;clear h hm hx hx2 ha1 hz
     go_wp2_with (go_at_call 46;refine bF (fun hng=>?_))
     refine hng ?_;clear hng;refine (tK k _ w0 gx gw AK cK cW l0 AC cC AT cT t t1 z v _ HC0.out HCl.out rfl HG.out HM.out).mono ?_;rintro e w5 ⟨rfl,hg,hc⟩;replace HG:=aK hg;replace HCh:=aK (HCh.out.then_ hc);replace HRf:=aK (hc.R HRf.out (fun _ h=>h));clear hg hc q1 t0 i4;have q1:=(bA HG.out.bx 1).trans rfl;have i4:=bO HT2.out.2;obtain ⟨xz,fz⟩:=kO (enc:=Value.int .i64) (h1:=fun _=>rfl) 0 HG.out.rw_ a1 HT2.out.1 HT2.out.2
     go_wp2_with ((with_reducible refine fX (t:=3) (p:=74) rfl ?_);refine bF (fun hng=>?_))
     refine hng ?_;clear hng;refine fN (t:=3) (p:=74) (v:=?vo9) (w1:=(w5.setCell ⟨gw,a1.toNat,none⟩ (.int .i64 v))) ?hg ?ho ?hn ?hr ?_
     (case ho=>rfl)
     (case hg=>rfl)
     (case hn=>rfl)
     (case hr=>first|(go_simp;done)|(go_simp;rfl))
     intro w6 hw;have hn:=HG.out.word a1 v;rw [←hw] at hn;clear hw xz fz q1;have HF6:=aK (hn.2.R HRf.out (fun _ h=>h));go_wp2
     go_roundw
     case rel=>exact ⟨k_+1,({t1 with ws:=t1.ws.set a1.toNat v}:Xv),rfl,⟨HK1.out,by rw [HD.out,HA.out];exact H.out⟩,⟨hn.1⟩,HF6,⟨HCh.out.then_ hn.2⟩⟩
     case measure=>have:=HK1.out;simp only [intOf];omega
    | true =>
     rw [if_neg (by simp)] at hw
     split at hw
     case isFalse=>simp at hw
     case isTrue hq=>
     obtain ⟨j,hj⟩: ∃j,j=i+(k_:Int) - t.y:=⟨_,rfl⟩;obtain ⟨q,hqq⟩: ∃q,q=Int.tdiv j 4:=⟨_,rfl⟩;rw [←hj,←hqq] at hw hq;have v0:wrap64 (i+(k_:Int))=i+(k_:Int):=by unfold wrap64;have:=HI.out;have:=HRL.out;have:=HK1.out;omega
     have v1:wrap64 (i+(k_:Int) - t.y)=j:=by rw [hj];unfold wrap64;have:=HI.out;have:=HRL.out;have:=HK1.out;omega
     have v2:wrap64 (Int.tdiv j 4)=q:=by rw [←hqq];unfold wrap64;have:=HI.out;have:=HRL.out;have:=HK1.out;omega
     obtain ⟨ac,e0,hc2⟩:=kN (cD HG.out.rc).2.2 q hq.1 hq.2.1
     cases e0
     rw [bE hw] at hc2;obtain ⟨bc,hbc⟩: ∃bc,bc=bw:=⟨_,rfl⟩;rw [←hbc] at hc2 H;have i5:=bO hq.1;have i6:=bO hq.2.1;have q2:=(bA HG.out.bx 2).trans rfl;have q5:=(bA HG.out.bx 5).trans rfl;clear hw hq hj hqq hbc;go_wp2;refine sT 27 (S:=fun w'=>w'.cell? ⟨gx,2,none⟩=some (.int .i64 t.y)∧w'.cell? ⟨gx,5,none⟩=some (.slice (some ac) t.cd.length cC)∧w'.cell? (af.add k_)=some (.bool true)∧w'.cell? (ac.add q.toNat)=some (.bool bc)) (ds:=[]) ⟨(by go_simp),(by go_simp),(by go_simp),(by go_simp)⟩ (fun hHeld=>?_);replace HG:=aK (HG.out.below (bG (bH wr.heap.size wr)));replace HCh:=aK (HCh.out.below (bG (bH wr.heap.size wr)));replace HRf:=aK (bZ HRf.out (bG (bH wr.heap.size wr)));generalize World.drew wr=wt at HG HCh HRf hHeld ⊢;refine cJ 0 ?_;refine cJ 1 ?_;refine cJ 2 ?_;refine tS 3 29 (lA 27 15) rfl rfl (by kernel_rfl) hHeld sM ?_;refine cJ 4 ?_;refine cJ 5 ?_;refine cJ 6 ?_;refine cJ 7 ?_;refine cJ 8 ?_;refine cJ 9 ?_;refine cJ 10 ?_;refine cJ 11 ?_;refine cJ 13 ?_;refine cJ 14 ?_;refine cJ 15 ?_;refine cJ 16 ?_;refine cJ 17 ?_;refine cJ 18 ?_;refine cJ 19 ?_;refine tS 12 38 (lA 27 1048575) rfl rfl (by kernel_rfl) hHeld sM ?_;refine tS 20 46 (lA 27 2097151) rfl rfl (by kernel_rfl) hHeld sM ?_;refine cJ 21 ?_;refine cJ 22 ?_;refine cJ 23 ?_;refine tS 24 50 (lA 27 33554431) rfl rfl (by kernel_rfl) hHeld sM ?_;refine cJ 25 ?_;refine cJ 26 ?_;refine gT (by kernel_rfl) ?_;clear hHeld hcell hc2 i5 i6 q2 q5
     cases bc with
     |false=>
      have h:=H.out;rw [if_neg (by simp)] at h;replace H:=aK h;clear h;go_wp2
      go_roundw
      case rel=>exact ⟨k_+1,_,rfl,⟨HK1.out,by rw [HD.out];exact H.out⟩,HG,HRf,HCh⟩
      case measure=>have:=HK1.out;simp only [intOf];omega
     |true=>
      have h:=H.out;first|rw [if_pos rfl] at h|rw [if_pos dT] at h
      split at h
      case isFalse=>simp at h
      case isTrue hx=>
      obtain ⟨⟨v,t1⟩,hm,h⟩:=Option.bind_eq_some_iff.mp h;dsimp only at h
      split at h
      case isFalse=>simp at h
      case isTrue hx2=>
      have HM:=aK hm;replace H:=aK h;obtain ⟨a1,ha1⟩: ∃x,x=i+(k_:Int):=⟨_,rfl⟩;have u4:IntKind.i64.wrap (i+(k_:Int))=a1:=by rw [ha1];exact dD _ (by have:=HI.out;omega)
      have HA:=aK ha1;have HT:=aK (show 0≤a1∧a1<(t.ws.length:Int) by have:=HI.out;omega);have HT2:=aK (show 0≤a1∧a1<(t1.ws.length:Int) by have:=HI.out;omega);obtain ⟨z,hz⟩: ∃z,z=rd t.ws (i+(k_:Int)):=⟨_,rfl⟩;rw [←hz] at HM;have t0:wt.cell? ⟨gw,a1.toNat,none⟩=some (.int .i64 z):=by rw [hz,←ha1];exact (kO (enc:=Value.int .i64) (h1:=fun _=>rfl) 0 HG.out.rw_ a1 HT.out.1 HT.out.2).1
      have q1:=(bA HG.out.bx 1).trans rfl;have i3:=bO HT.out.1;have i4:=bO HT.out.2;clear h hm hx hx2 ha1 hz
      go_wp2_with (go_at_call 46;refine bF (fun hng=>?_))
      refine hng ?_;clear hng;refine (tK k _ w0 gx gw AK cK cW l0 (some ac) cC AT cT t t1 z v _ HC0.out HCl.out rfl HG.out HM.out).mono ?_;rintro e w5 ⟨rfl,hg,hc⟩;replace HG:=aK hg;replace HCh:=aK (HCh.out.then_ hc);replace HRf:=aK (hc.R HRf.out (fun _ h=>h));clear hg hc q1 t0 i4;have q1:=(bA HG.out.bx 1).trans rfl;have i4:=bO HT2.out.2;obtain ⟨xz,fz⟩:=kO (enc:=Value.int .i64) (h1:=fun _=>rfl) 0 HG.out.rw_ a1 HT2.out.1 HT2.out.2
      go_wp2_with ((with_reducible refine fX (t:=3) (p:=74) rfl ?_);refine bF (fun hng=>?_))
      refine hng ?_;clear hng;refine fN (t:=3) (p:=74) (v:=?vo9) (w1:=(w5.setCell ⟨gw,a1.toNat,none⟩ (.int .i64 v))) ?hg ?ho ?hn ?hr ?_
      (case ho=>rfl)
      (case hg=>rfl)
      (case hn=>rfl)
      (case hr=>first|(go_simp;done)|(go_simp;rfl))
      intro w6 hw;have hn:=HG.out.word a1 v;rw [←hw] at hn;clear hw xz fz q1;have HF6:=aK (hn.2.R HRf.out (fun _ h=>h));go_wp2
      go_roundw
      case rel=>exact ⟨k_+1,({t1 with ws:=t1.ws.set a1.toNat v}:Xv),rfl,⟨HK1.out,by rw [HD.out,HA.out];exact H.out⟩,⟨hn.1⟩,HF6,⟨HCh.out.then_ hn.2⟩⟩
      case measure=>have:=HK1.out;simp only [intOf];omega
  ·have d3 : decide ((k_ : Int) < (refs.length : Int)) = false := bM cx
   have d3b:=pO (show¬k_<refs.length by omega);have h:=HT0.out.2;rw [show refs.length - k_=0 by omega] at h;unfold bBm at h;obtain rfl:=bE h;clear h cx;go_wp2
   go_end0
   exact ⟨rfl,HG.out,HCh.out⟩
end Go.Proofs.Ytbaklikaoleplaa.K
