import Derived.Test.YtbaklikaoleplaaGreatPl24
import Derived.BigQuiet
set_option maxHeartbeats 8000000
set_option maxRecDepth 100000
namespace Go.Proofs.YtbaklikaoleplaaGreat.K
open Go.RowKit Go.Proofs.YtbaklikaoleplaaGreatW.PrintWords Go.Proofs.YtbaklikaoleplaaGreatW.PrintLast Go.Proofs.YtbaklikaoleplaaGreatW.PrintMore
attribute [local go_sem] gV gT jT jS fY fX gU gR
set_option linter.unusedVariables false
set_option linter.unusedSimpArgs false
def jV:Nat→List Int→List Int→Int→Option (List Int)
  |0,_,_,_=>none
  |k+1,x0,x3,x4=>if x4<(x0.length:Int) then (if 0≤x4 then (if x4<(x3.length:Int) then (jV k x0 (x3.set (x4:Int).toNat (rd x0 x4)) (wrap64 (x4+1))) else (none)) else (none)) else (some x3)
def mZ (k:Nat) (l0:List Int):Option (List Int):=if 0≤(l0.length:Int) then (if ((l0.length:Int):Int).toNat≤35184372088832 then (jV k l0 (List.replicate ((l0.length:Int):Int).toNat 0) 0) else (none)) else (none)
theorem mP (k : Nat) (A0 : Option Addr) (c0 : Nat) (l0 : List Int) (r : List Int) (w : World) (hr0 : Kd.C (Kd.int .i64) w A0 l0.length l0) (hc0 : l0.length ≤ c0) (h : mZ k l0 = some r) :
  Calls Tryz.prog 21 #[.slice A0 l0.length c0] w fun e w'=> ∃v0_:Value,e= .returned (v0_)∧Kd.R (Kd.int .i64) 3 w' w.heap.size (fun _=>True) v0_ r∧Below w.heap.size w w':=by
 have HR0:=aK hr0;have HC0:=aK hc0;clear hr0 hc0;have HB:=aK (bQ w.heap.size w);have H:(if 0≤(l0.length:Int) then (if ((l0.length:Int):Int).toNat≤35184372088832 then (jV k l0 (List.replicate ((l0.length:Int):Int).toNat 0) 0) else (none)) else (none))=some r:=h
 clear h;by_cases c2:0≤(l0.length:Int)
 ·rw [if_pos c2] at H
  have c2b0:=bL c2;have c2b1:decide (0≤(l0.length:Int))=true:=bB c2
  clear c2;by_cases c3:((l0.length:Int):Int).toNat≤35184372088832
  ·rw [if_pos c3] at H
   have c3b0:=bL c3;have c3b1:decide (((l0.length:Int):Int).toNat≤35184372088832)=true:=bB c3
   clear c3;obtain ⟨y262,hy262⟩: ∃y_:List Int,y_=(List.replicate ((l0.length:Int):Int).toNat 0):=⟨_,rfl⟩;replace H:(jV k l0 y262 0)=some r:=by first|(rw [hy262];with_reducible exact H)|(have H2_:=(bD _ _).symm.trans H;rw [hy262];with_reducible exact H2_)|(have H2_:=(bD _ _).symm.trans H;with_reducible exact H2_)|with_reducible exact H|(rw [hy262];exact H)|exact H
   have Ny262:=aK hy262;clear hy262;have H':=aK H;clear H;go_enter Tryz.func21,Tryz.ntmps21
   go_wp2_with (first|((with_reducible refine dG (N:=7) rfl ?_);refine Kd.R_make (Kd.int .i64) _ 3 rfl (N:=7) rfl 24 _ _ rfl (l0.length:Int) rfl rfl Tryz.underlying24 (.int .i64 0) 8 tB rfl (by decide) (by omega) 0 (ok:=fun _=>True) (okp:=fun _=>True) rfl (fun _ hk=>hk) gG (bA fU) (dW (dU _ (bA fU:(l0.length:Int).toNat≤35184372088832)) (by omega)) (bQ _ _) (bV _) ?_;intro v263 w4 ho5 hb hg_ hnew_;clear hg_ hnew_;(first|rw [←Ny262.out] at ho5|(simp only [Int.reduceToNat] at ho5;rw [←Ny262.out] at ho5));have HO264:=aK (dR ho5 (bN jR));replace HB:=aK (bG jR hb);clear hb ho5))
   go_loopg [4] k (fun kq v4 w'=> ∃(x3_1:List Int) (x4_1:Int),v4= .int .i64 x4_1∧Aside0 (jV kq l0 x3_1 x4_1=some r)∧Aside0 (kq≤k)∧Aside0 (Kd.R (Kd.int .i64) 3 w' w.heap.size (fun _=>True) v263 x3_1)∧Aside0 (Below w.heap.size w w'))
   case atStart=>exact ⟨(y262),(0),kG,H',⟨bV _⟩,⟨by (with_reducible repeat (first|apply Kd.R_alloc|apply bZ|apply cE));exact HO264.out⟩,⟨by repeat (first|(with_reducible first|exact HB.out|apply bI|apply bF|apply bH)|exact HB.out)⟩⟩
   case round =>
    clear H';(try clear c2);(try clear c2b0);(try clear c2b1);(try clear p2);(try clear c3);(try clear c3b0);(try clear c3b1);obtain ⟨x3_1,x4_1,rfl,HA,HK1,HO_3,HB⟩:=hrel
    cases gk with
    |zero=>exact absurd HA.out (by simp [jV])
    | succ k1 =>
     have H:=HA.out;clear HA;simp only [jV] at H;by_cases c6:x4_1<(l0.length:Int)
     ·rw [if_pos c6] at H
      have c6b0:decide (x4_1<(l0.length:Int))=true:=bB c6
      clear c6;by_cases c7:0≤x4_1
      ·rw [if_pos c7] at H
       have c7b0:decide (0≤x4_1)=true:=bB c7
       clear c7;by_cases c8:x4_1<(x3_1.length:Int)
       ·rw [if_pos c8] at H
        have c8b0:decide (x4_1<(x3_1.length:Int))=true:=bB c8
        clear c8;obtain ⟨y266,hy266⟩: ∃y_:List Int,y_=(x3_1.set (x4_1:Int).toNat (rd l0 x4_1)):=⟨_,rfl⟩;replace H:(jV k1 l0 y266 (wrap64 (x4_1+1)))=some r:=by first|(rw [hy266];with_reducible exact H)|(have H2_:=(bD _ _).symm.trans H;rw [hy266];with_reducible exact H2_)|(have H2_:=(bD _ _).symm.trans H;with_reducible exact H2_)|with_reducible exact H|(rw [hy266];exact H)|exact H
        have Ny266:=aK hy266;clear hy266;have H':=aK H;clear H;have p265:0≤(x4_1:Int):=bA fU
        have q265:x4_1<(l0.length:Int):=bA fU
        obtain ⟨ad265,e265,hx265_0⟩:=dA HR0.out x4_1 p265 q265
        cases e265
        replace hx265_0:=(HB.out.cell (bE w _ hx265_0)).trans hx265_0;replace p265:=bL p265;replace q265:=bL q265;have p9:0≤(x4_1:Int):=bA fU
        have q9:(x4_1:Int)<((x3_1.length:Int):Int):=bA fU
        obtain ⟨go9,co9,eo9,gb9,gl9,cl9,HG9⟩:=rT HO_3.out (by omega)
        (first|cases eo9|(injection eo9 with ea_ en_ ec_;(first|subst ea_|(injection ea_ with ea_;subst ea_));subst ec_;clear en_))
        have GB9:=aK gb9;have GG9:=aK HG9;clear gb9 gl9 HG9;obtain ⟨hx9_0,hf9_0⟩:=sV 0 HO_3.out (x4_1:Int) p9 q9;replace p9:=bL p9;replace q9:=bL q9;have HP10:=Kd.R_putg HO_3.out (x4_1:Int) (rd l0 x4_1)
        go_wp2_with (first|((with_reducible refine kS (t:=3) (p:=20) rfl ?_);refine jU (t:=3) (p:=20) (v:=?vo_w11) (w1:=(wr.setCell ⟨go9,(x4_1:Int).toNat,none⟩ (.int .i64 (rd l0 x4_1)))) ?hg ?ho ?hn ?hr ?_;(case ho=>rfl);(case hg=>rfl);(case hn=>rfl);(case hr=>first|(go_simp;done)|(go_simp;rfl)|((try (first|(obtain ⟨_,_,rfl⟩:=cH HO_3.out)|(obtain ⟨_,_,rfl⟩:=jX HO_3.out)));first|(go_simp;done)|(go_simp;rfl)));intro w11 hw;have hg:wr.grownBy w11 (some go9):=(by rw [hw];exact HP10.2);have hp_:Kd.R (Kd.int .i64) 3 w11 w.heap.size (fun _=>True) (.slice (some ⟨go9,0,none⟩) x3_1.length co9) y266:=(by rw [hw,Ny266.out];exact HP10.1);clear HP10;replace HO_3:=aK (hp_);replace HB:=aK ((by rw [hw];exact bY (HB.out) GB9.out:Below w.heap.size w w11));clear hg hw hp_))
        go_roundg k1
        case measure=>have:=HK1.out;omega
        case rel=>exact ⟨(y266),(wrap64 (x4_1+1)),kG,H',⟨by have:=HK1.out;omega⟩,⟨by (with_reducible repeat (first|apply Kd.R_alloc|apply bZ|apply cE));exact HO_3.out⟩,⟨by repeat (first|(with_reducible first|exact HB.out|apply bI|apply bF|apply bH)|exact HB.out)⟩⟩
       ·rw [if_neg c8] at H
        exact absurd H (by simp)
      ·rw [if_neg c7] at H
       exact absurd H (by simp)
     ·rw [if_neg c6] at H
      have c6b0:decide (x4_1<(l0.length:Int))=false:=bJ c6
      clear c6;obtain rfl:=bC H;go_wp2;go_ret;exact ⟨_,by first|rfl|(simp [dF,dE]<;>rfl)|(simp [*,dF,dE]<;>rfl),by (with_reducible repeat (first|apply Kd.R_alloc|apply bZ|apply cE));exact HO_3.out,by repeat (first|(with_reducible first|exact HB.out|apply bI|apply bF|apply bH)|exact HB.out)⟩
  ·rw [if_neg c3] at H
   exact absurd H (by simp)
 ·rw [if_neg c2] at H
  exact absurd H (by simp)
def vQ (k:Nat) (a0_0:Int) (l0_1:List Int):Option (Int×List Int):=(mZ k l0_1).bind fun t270=>(some (a0_0,t270))
theorem bAw (k:Nat) (a0_0:Int) (A0_1:Option Addr) (c0_1:Nat) (l0_1:List Int) (r1:Int) (r2:List Int) (w:World) (hr0_1:Kd.C (Kd.int .i64) w A0_1 l0_1.length l0_1) (hc0_1:l0_1.length≤c0_1) (h:vQ k a0_0 l0_1=some (r1,r2)):
  Calls Tryz.prog 51 #[.agg #[.int .i64 a0_0,.slice A0_1 l0_1.length c0_1]] w fun e w'=> ∃v1_:Value,e= .returned (.agg #[.int .i64 r1,v1_])∧Kd.R (Kd.int .i64) 3 w' w.heap.size (fun _=>True) v1_ r2∧Below w.heap.size w w':=by
 have hu75:=Tryz.underlying75;have hu78:=Tryz.underlying78;have HR0_1:=aK hr0_1;have HC0_1:=aK hc0_1;clear hr0_1 hc0_1;have HB:=aK (bQ w.heap.size w);have H:((mZ k l0_1).bind fun t270=>(some (a0_0,t270)))=some (r1,r2):=h
 clear h;replace H:=Option.bind_eq_some_iff.mp H;obtain ⟨t270,A20,H⟩:=H;(try dsimp only at H);have A2:=aK A20;clear A20;simp only [fE,Prod.mk.injEq] at H;obtain ⟨rfl,rfl⟩:=H;go_enter Tryz.func51,Tryz.ntmps51
 go_wp2_with (first|((with_reducible refine dG (N:=1) rfl ?_);refine dN ?hg (N:=1) ?hd (cs:= #[.int .i64 a0_0,.slice A0_1 l0_1.length c0_1]) (t:=75) ?hr ?_;(case hd=>rfl);(case hg=>rfl);(case hr=>first|(go_simp;done)|(go_simp;rfl));intro gb267 hg w3 hbox hb;have BK267:=aK (hbox);have GW267:=aK ((by rw [hg];exact (bN jR):w.heap.size≤gb267));have GE267:=aK ((by rw [hg];exact (bN jR):w.heap.size≤gb267));replace HB:=aK (bG jR hb);clear hb hbox hg)|((with_reducible refine dG (N:=2) rfl ?_);refine dN ?hg (N:=2) ?hd (cs:= #[.int .i64 0,.slice none 0 0]) (t:=78) ?hr ?_;(case hd=>rfl);(case hg=>rfl);(case hr=>first|(go_simp;done)|(go_simp;rfl));intro gb268 hg w4 hbox hb;have BK268:=aK (hbox);have GW268:=aK ((by rw [hg];exact (bN (by repeat (first|(with_reducible first|exact HB.out|apply bI|apply bF|apply bH|refine bY ?_ GE267.out)|exact HB.out))):w.heap.size≤gb268));have GE268:=aK ((by rw [hg];exact (bN (by repeat (first|(with_reducible first|exact HB.out|apply bI|apply bF|apply bH|refine bY ?_ GE267.out)|exact HB.out))):w.heap.size≤gb268));have NB267_268:=aK ((by rw [hg];exact mW (cK (g:=gb267) (o:= .cells #[.int .i64 a0_0,.slice A0_1 l0_1.length c0_1] 75 (0,0)) bKd):gb267≠gb268));have NB268_267:=aK ((by rw [hg];exact nJ (cK (g:=gb267) (o:= .cells #[.int .i64 a0_0,.slice A0_1 l0_1.length c0_1] 75 (0,0)) bKd):gb268≠gb267));replace BK267:=aK (cJ (g:=gb267) (o:= .cells #[.int .i64 a0_0,.slice A0_1 l0_1.length c0_1] 75 (0,0)) bKd hb);replace HB:=aK (bG (by repeat (first|(with_reducible first|exact HB.out|apply bI|apply bF|apply bH|refine bY ?_ GE267.out)|exact HB.out)) hb);clear hb hbox hg)|((with_reducible refine dG (N:=3) rfl ?_);refine dN ?hg (N:=3) ?hd (cs:= #[.int .i64 0,.slice none 0 0]) (t:=78) ?hr ?_;(case hd=>rfl);(case hg=>rfl);(case hr=>first|(go_simp;done)|(go_simp;rfl));intro gb269 hg w5 hbox hb;have BK269:=aK (hbox);have GW269:=aK ((by rw [hg];exact (bN zz51):w.heap.size≤gb269));have GE269:=aK ((by rw [hg];exact (bN zz51):w.heap.size≤gb269));have NB267_269:=aK ((by rw [hg];exact mW (cK (g:=gb267) (o:= .cells #[.int .i64 a0_0,.slice A0_1 l0_1.length c0_1] 75 (0,0)) bKd):gb267≠gb269));have NB269_267:=aK ((by rw [hg];exact nJ (cK (g:=gb267) (o:= .cells #[.int .i64 a0_0,.slice A0_1 l0_1.length c0_1] 75 (0,0)) bKd):gb269≠gb267));have NB268_269:=aK ((by rw [hg];exact mW (cK (g:=gb268) (o:= .cells #[.int .i64 0,.slice none 0 0] 78 (0,0)) (by (with_reducible repeat (first|refine bU ?_ _|refine bW ?_|refine bT ?_ _));exact BK268.out)):gb268≠gb269));have NB269_268:=aK ((by rw [hg];exact nJ (cK (g:=gb268) (o:= .cells #[.int .i64 0,.slice none 0 0] 78 (0,0)) (by (with_reducible repeat (first|refine bU ?_ _|refine bW ?_|refine bT ?_ _));exact BK268.out)):gb269≠gb268));replace BK267:=aK (cJ (g:=gb267) (o:= .cells #[.int .i64 a0_0,.slice A0_1 l0_1.length c0_1] 75 (0,0)) bKd hb);replace BK268:=aK (cJ (g:=gb268) (o:= .cells #[.int .i64 0,.slice none 0 0] 78 (0,0)) (by (with_reducible repeat (first|refine bU ?_ _|refine bW ?_|refine bT ?_ _));exact BK268.out) hb);replace HB:=aK (bG zz51 hb);clear hb hbox hg;have hnb6:=NB267_268.out;have hnc6:=NB268_267.out;have hnb7:=NB267_269.out;have hnc7:=NB269_267.out;obtain ⟨hcz8_0,hcz8_1,hfz8_0,hfz8_1⟩:=rL BK267;have hnb9:=NB269_268.out;have hnc9:=NB268_269.out;obtain ⟨hcz10_0,hcz10_1,hfz10_0,hfz10_1⟩:=rL BK269)|((with_reducible refine cD (f:=21) rfl ?_);refine dT (some 9) rfl rfl Tryz.func21 (by kernel_rfl) rfl #[.slice A0_1 l0_1.length c0_1] rfl mO ?_;(with_reducible refine (mP k _ _ l0_1 t270 _ ?side1 ?side2 A2.out).mono ?_);(case side1=>exact bS HR0_1.out zz46);(case side2=>exact HC0_1.out);rintro e w11 ⟨v271,rfl,ho0,hb⟩;refine ⟨_,rfl,?_⟩;have HO272:=aK (dR ho0 (bN zz46));replace BK267:=aK (cJ (g:=gb267) (o:= .cells #[.int .i64 a0_0,.slice A0_1 l0_1.length c0_1] 75 (0,0)) (by (with_reducible repeat (first|refine bU ?_ _|refine bW ?_|refine bT ?_ _));refine mQ ?_ NB267_269.out _;(with_reducible repeat (first|refine bU ?_ _|refine bW ?_|refine bT ?_ _));exact BK267.out) hb);replace BK268:=aK (cJ (g:=gb268) (o:= .cells #[.int .i64 0,.slice none 0 0] 78 (0,0)) (by (with_reducible repeat (first|refine bU ?_ _|refine bW ?_|refine bT ?_ _));refine mQ ?_ NB268_269.out _;(with_reducible repeat (first|refine bU ?_ _|refine bW ?_|refine bT ?_ _));exact BK268.out) hb);replace BK269:=aK (cJ (g:=gb269) (o:= .cells #[.int .i64 a0_0,.slice none 0 0] 78 (0,0)) (by (with_reducible repeat (first|refine bU ?_ _|refine bW ?_|refine bT ?_ _));refine gC (cs:= #[.int .i64 0,.slice none 0 0]) ?_ 0 _ rfl;(with_reducible repeat (first|refine bU ?_ _|refine bW ?_|refine bT ?_ _));exact BK269.out) hb);replace HB:=aK (bG zz46 hb);(try clear hb);(try clear hb2);(try clear hk);(try clear hi);(try clear ho0);obtain ⟨Ao12,co12,eo12⟩:=cH HO272.out;subst eo12;obtain ⟨hcz13_0,hcz13_1,hfz13_0,hfz13_1⟩:=rL BK269;obtain ⟨hcz14_0,hcz14_1,hfz14_0,hfz14_1⟩:=rL BK268))
 refine tD (results_cell_row rfl _ _ gb268 78 #[.int .i64 a0_0,.slice Ao12 t270.length co12] (0,0) _ rfl (by (with_reducible repeat (first|refine bU ?_ _|refine bW ?_|refine bT ?_ _));refine gC (cs:= #[.int .i64 a0_0,.slice none 0 0]) ?_ 1 _ rfl;(with_reducible repeat (first|refine bU ?_ _|refine bW ?_|refine bT ?_ _));refine gC (cs:= #[.int .i64 0,.slice none 0 0]) ?_ 0 _ rfl;(with_reducible repeat (first|refine bU ?_ _|refine bW ?_|refine bT ?_ _));refine mQ ?_ NB268_269.out _;(with_reducible repeat (first|refine bU ?_ _|refine bW ?_|refine bT ?_ _));exact BK268.out) Tryz.underlying78 rfl (by kernel_rfl)) rfl ?_;exact ⟨_,by first|rfl|(simp [dF,dE]<;>rfl)|(simp [*,dF,dE]<;>rfl),by (with_reducible repeat (first|apply Kd.R_alloc|apply bZ|apply cE));exact fG (mL (p:=⟨gb268,1,none⟩) (mL (p:=⟨gb268,0,none⟩) (mL (p:=⟨gb269,1,none⟩) (sU (sU HO272.out BK269.out (by decide)) BK268.out (by decide)) (fun _ hk=>hk.1.2) (.slice Ao12 t270.length co12)) (fun _ hk=>hk.2) (.int .i64 a0_0)) (fun _ hk=>hk.2) (.slice Ao12 t270.length co12)) (fun _ hk=>trivial),by repeat (first|(with_reducible first|exact HB.out|apply bI|apply bF|apply bH|refine bY ?_ GE267.out|refine bY ?_ GE268.out|refine bY ?_ GE269.out)|exact HB.out)⟩
def gI:Nat→List (S75)→List (S78)→Int→Option ((List (S78)))
  |0,_,_,_=>none
  |k+1,x0,x3,x4=>if x4<(x0.length:Int) then (if 0≤x4 then ((vQ k ((mT x0 x4).f0) ((mT x0 x4).f1)).bind fun bt277=>(if x4<(x3.length:Int) then (gI k x0 (x3.set (x4:Int).toNat (⟨bt277.1,bt277.2⟩:S78)) (wrap64 (x4+1))) else (none))) else (none)) else (some x3)
def qD (k:Nat) (l0:List (S75)):Option ((List (S78))):=if 0≤(l0.length:Int) then (if ((l0.length:Int):Int).toNat≤8796093022208 then (gI k l0 (List.replicate ((l0.length:Int):Int).toNat bHy) 0) else (none)) else (none)
theorem pE (k : Nat) (A0 : Option Addr) (c0 : Nat) (l0 : List (S75)) (r : List (S78)) (w : World) (hr0 : Kd.C k75 w A0 l0.length l0) (hc0 : l0.length ≤ c0) (h : qD k l0 = some r) :
  Calls Tryz.prog 19 #[.slice A0 l0.length c0] w fun e w'=> ∃v0_:Value,e= .returned (v0_)∧Kd.S yD 78 w' w.heap.size (fun _=>True) v0_ r∧Below w.heap.size w w':=by
 have hu75:=Tryz.underlying75;have hu78:=Tryz.underlying78;have HR0:=aK hr0;have HC0:=aK hc0;clear hr0 hc0;have HB:=aK (bQ w.heap.size w);have H:(if 0≤(l0.length:Int) then (if ((l0.length:Int):Int).toNat≤8796093022208 then (gI k l0 (List.replicate ((l0.length:Int):Int).toNat bHy) 0) else (none)) else (none))=some r:=h
 clear h;by_cases c2:0≤(l0.length:Int)
 ·rw [if_pos c2] at H
  have c2b0:=bL c2;have c2b1:decide (0≤(l0.length:Int))=true:=bB c2
  clear c2;by_cases c3:((l0.length:Int):Int).toNat≤8796093022208
  ·rw [if_pos c3] at H
   have c3b0:=bL c3;have c3b1:decide (((l0.length:Int):Int).toNat≤8796093022208)=true:=bB c3
   clear c3;obtain ⟨y273,hy273⟩: ∃y_:List (S78),y_=(List.replicate ((l0.length:Int):Int).toNat bHy):=⟨_,rfl⟩;replace H:(gI k l0 y273 0)=some r:=by first|(rw [hy273];with_reducible exact H)|(have H2_:=(bD _ _).symm.trans H;rw [hy273];with_reducible exact H2_)|(have H2_:=(bD _ _).symm.trans H;with_reducible exact H2_)|with_reducible exact H|(rw [hy273];exact H)|exact H
   have Ny273:=aK hy273;clear hy273;have H':=aK H;clear H;go_enter Tryz.func19,Tryz.ntmps19
   go_wp2_with (first|((with_reducible refine dG (N:=7) rfl ?_);refine Kd.S_make yD _ 78 rfl (N:=7) rfl 23 _ _ rfl (l0.length:Int) rfl rfl Tryz.underlying23 (.agg #[(.int .i64 0),(.slice none 0 0)]) 32 info78 rfl (by decide) (by omega) bHy (ok:=fun _=>True) (okp:=fun _=>True) (bDi _ _ _ bHy (Kd.R_nil _ _ _ _ _)) (fun _ hk=>hk) gG (bA fU) (dW (dU _ (bA fU:(l0.length:Int).toNat≤8796093022208)) (by omega)) (bQ _ _) (bV _) ?_;intro v274 w4 ho5 hb hg_ hnew_;clear hg_ hnew_;(first|rw [←Ny273.out] at ho5|(simp only [Int.reduceToNat] at ho5;rw [←Ny273.out] at ho5));have HO275:=aK (Kd.S_lower ho5 (bN jR));replace HB:=aK (bG jR hb);clear hb ho5))
   go_loopg [4] k (fun kq v4 w'=> ∃(x3_1:List (S78)) (x4_1:Int),v4= .int .i64 x4_1∧Aside0 (gI kq l0 x3_1 x4_1=some r)∧Aside0 (kq≤k)∧Aside0 (Kd.S yD 78 w' w.heap.size (fun _=>True) v274 x3_1)∧Aside0 (Below w.heap.size w w'))
   case atStart=>exact ⟨(y273),(0),kG,H',⟨bV _⟩,⟨by (with_reducible repeat (first|apply Kd.S_alloc|apply Kd.S_drewN|apply Kd.S_drew));exact HO275.out⟩,⟨by repeat (first|(with_reducible first|exact HB.out|apply bI|apply bF|apply bH)|exact HB.out)⟩⟩
   case round =>
    clear H';(try clear c1);(try clear c2);(try clear c2b0);(try clear c2b1);(try clear p2);(try clear c3);(try clear c3b0);(try clear c3b1);obtain ⟨x3_1,x4_1,rfl,HA,HK1,HO_3,HB⟩:=hrel
    cases gk with
    |zero=>exact absurd HA.out (by simp [gI])
    | succ k1 =>
     have H:=HA.out;clear HA;simp only [gI] at H;by_cases c6:x4_1<(l0.length:Int)
     ·rw [if_pos c6] at H
      have c6b0:decide (x4_1<(l0.length:Int))=true:=bB c6
      clear c6;by_cases c7:0≤x4_1
      ·rw [if_pos c7] at H
       have c7b0:decide (0≤x4_1)=true:=bB c7
       clear c7;replace H:=Option.bind_eq_some_iff.mp H;obtain ⟨⟨t277,t278⟩,A80,H⟩:=H;(try dsimp only at H);have A8:=aK A80;clear A80;by_cases c9:x4_1<(x3_1.length:Int)
       ·rw [if_pos c9] at H
        have c9b0:decide (x4_1<(x3_1.length:Int))=true:=bB c9
        clear c9;obtain ⟨y281,hy281⟩: ∃y_:List (S78),y_=(x3_1.set (x4_1:Int).toNat (⟨t277,t278⟩:S78)):=⟨_,rfl⟩;replace H:(gI k1 l0 y281 (wrap64 (x4_1+1)))=some r:=by first|(rw [hy281];with_reducible exact H)|(have H2_:=(bD _ _).symm.trans H;rw [hy281];with_reducible exact H2_)|(have H2_:=(bD _ _).symm.trans H;with_reducible exact H2_)|with_reducible exact H|(rw [hy281];exact H)|exact H
        have Ny281:=aK hy281;clear hy281;have H':=aK H;clear H;have p276:0≤(x4_1:Int):=bA fU
        have q276:x4_1<(l0.length:Int):=bA fU
        obtain ⟨ad276,A276_1,c276_1,e276,hx276_0,hx276_1,hl276_1,hi276_1⟩:=bIz HR0.out x4_1 p276 q276
        cases e276
        replace hx276_0:=(HB.out.cell (bE w _ hx276_0)).trans hx276_0;replace hx276_1:=(HB.out.cell (bE w _ hx276_1)).trans hx276_1;have HR276_1:=aK hi276_1;have HC276_1:=aK hl276_1;clear hi276_1 hl276_1;replace p276:=bL p276;replace q276:=bL q276
        go_wp2_with (first|((with_reducible refine cD (f:=51) rfl ?_);refine dT (some 20) rfl rfl Tryz.func51 (by kernel_rfl) rfl #[.agg #[.int .i64 ((mT l0 x4_1).f0),.slice A276_1 ((mT l0 x4_1).f1).length c276_1]] rfl mO ?_;(with_reducible refine (bAw k1 ((mT l0 x4_1).f0) _ _ ((mT l0 x4_1).f1) t277 t278 _ ?side1 ?side2 A8.out).mono ?_);(case side1=>exact (by repeat (first|exact (bS HR276_1.out HB.out)|(with_reducible refine Kd.C_alloc ?_ _)|(with_reducible refine Kd.C_drewN ?_ _)|(with_reducible refine Kd.C_drew ?_))));(case side2=>exact HC276_1.out);rintro e w11 ⟨v279,rfl,ho0,hb⟩;refine ⟨_,rfl,?_⟩;have HO280:=aK (dR ho0 (bN jR));replace HO_3:=aK (Kd.S_elder' (by (with_reducible repeat (first|apply Kd.S_alloc|apply Kd.S_drewN|apply Kd.S_drew));exact HO_3.out) (rU ho0) hb);replace HB:=aK (bG jR hb);(try clear hb);(try clear hb2);(try clear hk);(try clear hi);(try clear ho0);have p10:0≤(x4_1:Int):=bA fU;have q10:(x4_1:Int)<((x3_1.length:Int):Int):=bA fU;obtain ⟨go10,co10,eo10,gb10,gl10,cl10,HG10⟩:=Kd.S_form HO_3.out (by omega);(first|cases eo10|(injection eo10 with ea_ en_ ec_;(first|subst ea_|(injection ea_ with ea_;subst ea_));subst ec_;clear en_));have GB10:=aK gb10;have GG10:=aK HG10;clear gb10 gl10 HG10;obtain ⟨_,ce10,hcl10,hM10,hcc10,hfr10,_,_⟩:=Kd.S_elem HO_3.out bHy (x4_1:Int) p10 q10;obtain ⟨ve10_1,rfl,ge10_1⟩:=bAa hM10;have hx10_0:w11.cell? ⟨go10,(x4_1:Int).toNat*2,none⟩=some (.int .i64 ((bX x3_1 x4_1).f0)):=hcc10 0 _ rfl;have hx10_1:w11.cell? ⟨go10,(x4_1:Int).toNat*2+1,none⟩=some (ve10_1):=hcc10 1 _ rfl;have hf10_0:w11.frozen? ⟨go10,(x4_1:Int).toNat*2,none⟩=false:=hfr10 0;have hf10_1:w11.frozen? ⟨go10,(x4_1:Int).toNat*2+1,none⟩=false:=hfr10 1;clear hcl10 hcc10 hfr10 hM10;replace p10:=bL p10;replace q10:=bL q10;have n_:=aK (Kd.S_mono (ok':=(fun k_=>some k_≠(v279:Value).ownBlock)) HO_3.out (fun k_ hk=>hk.2));clear HO_3;have HO_3:=n_;clear n_;have HX12:=aK (show Kd.S yD 78 w11 w.heap.size (fun k_=>((fun _=>True)) k_∧¬((fun k_=>some k_=(v279:Value).ownBlock)) k_) (.slice (some ⟨go10,0,none⟩) x3_1.length co10) x3_1 from (by (with_reducible repeat (first|apply Kd.S_alloc|apply Kd.S_drewN|apply Kd.S_drew));exact Kd.S_mono HO_3.out (fun k_ hk=>⟨gG,fun e_=>hk e_⟩)));obtain ⟨oki12,ce12,hcl12,hM12,hcc12,hfr12,hoki12,hH12⟩:=Kd.S_elem HX12.out bHy (x4_1:Int) (bA fU) (by have h_:(x4_1:Int)<((x3_1.length:Int):Int):=bA fU;first|exact h_|(have e_:=(Kd.S_reads' HO_3.out).1;omega)|simpa using h_);obtain ⟨ve12_1,rfl,ge12_1⟩:=bAa hM12;have HP12:=Kd.S_seg hH12 (bA fU) (by have h_:(x4_1:Int)<((x3_1.length:Int):Int):=bA fU;first|exact h_|(have e_:=(Kd.S_reads' HO_3.out).1;omega)|simpa using h_) (seg:=[.int .i64 t277,v279]) (j:=0) (show 2≤2 from by decide) (x':=(⟨t277,t278⟩:S78)) (bDi _ _ _ (⟨t277,t278⟩:S78) (fG (Kd.R_tight rfl (fG (ok':=fun k_=>((fun _=>True)) k_∧k_≠go10) (Kd.R_apart' (HO280.out) (Kd.S_typed HO_3.out) (by decide)) (fun k_ hk=>⟨gG,fun e_=>(hk.2) (by rw [e_];rfl)⟩))) (fun _ h_=>Or.inr (h_)))) (fun _ hk=>hk) (fun k_ hk_=>((fG (ok':=fun k_=>((fun _=>True)) k_∧k_≠go10) (Kd.R_apart' (HO280.out) (Kd.S_typed HO_3.out) (by decide)) (fun k_ hk=>⟨gG,fun e_=>(hk.2) (by rw [e_];rfl)⟩))).1 k_ hk_.symm);have hx12_0:=hcc12 0 _ rfl;(try simp only [show (yD).sz=2 from rfl,nL,tG] at hx12_0);have hf12_0:=hfr12 0;(try simp only [show (yD).sz=2 from rfl,nL,tG] at hf12_0);have hx12_1:=hcc12 1 _ rfl;(try simp only [show (yD).sz=2 from rfl,nL,tG] at hx12_1);have hf12_1:=hfr12 1;(try simp only [show (yD).sz=2 from rfl,nL,tG] at hf12_1);clear hcl12 hcc12 hfr12 hM12 hoki12 hH12)|((with_reducible refine kS (t:=78) (p:=21) rfl ?_);refine jU (t:=78) (p:=21) (v:=?vo_w13) (w1:=((w11.setCell ⟨go10,(x4_1:Int).toNat*2,none⟩ (.int .i64 t277)).setCell ⟨go10,(x4_1:Int).toNat*2+1,none⟩ (v279))) ?hg ?ho ?hn ?hr ?_;(case ho=>rfl);(case hg=>rfl);(case hn=>rfl);(case hr=>first|(go_simp;done)|(go_simp;rfl)|((try (first|(obtain ⟨_,_,rfl⟩:=cH HO280.out)|(obtain ⟨_,_,rfl⟩:=jX HO280.out)));(try (first|(obtain ⟨_,_,rfl⟩:=cH HO_3.out)|(obtain ⟨_,_,rfl⟩:=jX HO_3.out)));(try (first|(obtain ⟨_,_,rfl⟩:=cH ge10_1)|(obtain ⟨_,_,rfl⟩:=jX ge10_1)));(try (first|(obtain ⟨_,_,rfl⟩:=cH ge12_1)|(obtain ⟨_,_,rfl⟩:=jX ge12_1)));first|(go_simp;done)|(go_simp;rfl)));intro w13 hw;have hg:w11.grownBy w13 (some go10):=(by rw [hw];exact HP12.2);have hp_:Kd.S yD 78 w13 w.heap.size (fun _=>True) (.slice (some ⟨go10,0,none⟩) x3_1.length co10) y281:=(by rw [hw,Ny281.out];exact HP12.1);clear HP12;have n0_:=aK (hp_);have n1_:=aK ((by rw [hw];exact bY (bY (HB.out) GB10.out) GB10.out:Below w.heap.size w w13));clear HO_3;clear HB;clear HO280;have HO_3:=n0_;have HB:=n1_;clear n0_ n1_;clear hg hw hp_))
        go_roundg k1
        case measure=>have:=HK1.out;omega
        case rel=>exact ⟨(y281),(wrap64 (x4_1+1)),kG,H',⟨by have:=HK1.out;omega⟩,⟨by (with_reducible repeat (first|apply Kd.S_alloc|apply Kd.S_drewN|apply Kd.S_drew));exact HO_3.out⟩,⟨by repeat (first|(with_reducible first|exact HB.out|apply bI|apply bF|apply bH)|exact HB.out)⟩⟩
       ·rw [if_neg c9] at H
        exact absurd H (by simp)
      ·rw [if_neg c7] at H
       exact absurd H (by simp)
     ·rw [if_neg c6] at H
      have c6b0:decide (x4_1<(l0.length:Int))=false:=bJ c6
      clear c6;obtain rfl:=bC H;go_wp2;go_ret;exact ⟨_,by first|rfl|(simp [dF,dE]<;>rfl)|(simp [*,dF,dE]<;>rfl),by (with_reducible repeat (first|apply Kd.S_alloc|apply Kd.S_drewN|apply Kd.S_drew));exact HO_3.out,by repeat (first|(with_reducible first|exact HB.out|apply bI|apply bF|apply bH)|exact HB.out)⟩
  ·rw [if_neg c3] at H
   exact absurd H (by simp)
 ·rw [if_neg c2] at H
  exact absurd H (by simp)
def jI:Nat→List Bool→List Bool→Int→Option (List Bool)
  |0,_,_,_=>none
  |k+1,x0,x3,x4=>if x4<(x0.length:Int) then (if 0≤x4 then (if x4<(x3.length:Int) then (jI k x0 (x3.set (x4:Int).toNat (fW false x0 x4)) (wrap64 (x4+1))) else (none)) else (none)) else (some x3)
def qP (k:Nat) (l0:List Bool):Option (List Bool):=if 0≤(l0.length:Int) then (if ((l0.length:Int):Int).toNat≤281474976710656 then (jI k l0 (List.replicate ((l0.length:Int):Int).toNat false) 0) else (none)) else (none)
theorem bAx (k : Nat) (A0 : Option Addr) (c0 : Nat) (l0 : List Bool) (r : List Bool) (w : World) (hr0 : Kd.C Kd.bool w A0 l0.length l0) (hc0 : l0.length ≤ c0) (h : qP k l0 = some r) :
  Calls Tryz.prog 52 #[.slice A0 l0.length c0] w fun e w'=> ∃v0_:Value,e= .returned (v0_)∧Kd.R Kd.bool 4 w' w.heap.size (fun _=>True) v0_ r∧Below w.heap.size w w':=by
 have HR0:=aK hr0;have HC0:=aK hc0;clear hr0 hc0;have HB:=aK (bQ w.heap.size w);have H:(if 0≤(l0.length:Int) then (if ((l0.length:Int):Int).toNat≤281474976710656 then (jI k l0 (List.replicate ((l0.length:Int):Int).toNat false) 0) else (none)) else (none))=some r:=h
 clear h;by_cases c2:0≤(l0.length:Int)
 ·rw [if_pos c2] at H
  have c2b0:=bL c2;have c2b1:decide (0≤(l0.length:Int))=true:=bB c2
  clear c2;by_cases c3:((l0.length:Int):Int).toNat≤281474976710656
  ·rw [if_pos c3] at H
   have c3b0:=bL c3;have c3b1:decide (((l0.length:Int):Int).toNat≤281474976710656)=true:=bB c3
   clear c3;obtain ⟨y282,hy282⟩: ∃y_:List Bool,y_=(List.replicate ((l0.length:Int):Int).toNat false):=⟨_,rfl⟩;replace H:(jI k l0 y282 0)=some r:=by first|(rw [hy282];with_reducible exact H)|(have H2_:=(bD _ _).symm.trans H;rw [hy282];with_reducible exact H2_)|(have H2_:=(bD _ _).symm.trans H;with_reducible exact H2_)|with_reducible exact H|(rw [hy282];exact H)|exact H
   have Ny282:=aK hy282;clear hy282;have H':=aK H;clear H;go_enter Tryz.func52,Tryz.ntmps52
   go_wp2_with (first|((with_reducible refine dG (N:=7) rfl ?_);refine Kd.R_make Kd.bool _ 4 rfl (N:=7) rfl 25 _ _ rfl (l0.length:Int) rfl rfl Tryz.underlying25 (.bool false) 1 bFi rfl (by decide) (by omega) false (ok:=fun _=>True) (okp:=fun _=>True) rfl (fun _ hk=>hk) gG (bA fU) (dW (dU _ (bA fU:(l0.length:Int).toNat≤281474976710656)) (by omega)) (bQ _ _) (bV _) ?_;intro v283 w4 ho5 hb hg_ hnew_;clear hg_ hnew_;(first|rw [←Ny282.out] at ho5|(simp only [Int.reduceToNat] at ho5;rw [←Ny282.out] at ho5));have HO284:=aK (dR ho5 (bN jR));replace HB:=aK (bG jR hb);clear hb ho5))
   go_loopg [4] k (fun kq v4 w'=> ∃(x3_1:List Bool) (x4_1:Int),v4= .int .i64 x4_1∧Aside0 (jI kq l0 x3_1 x4_1=some r)∧Aside0 (kq≤k)∧Aside0 (Kd.R Kd.bool 4 w' w.heap.size (fun _=>True) v283 x3_1)∧Aside0 (Below w.heap.size w w'))
   case atStart=>exact ⟨(y282),(0),kG,H',⟨bV _⟩,⟨by (with_reducible repeat (first|apply Kd.R_alloc|apply bZ|apply cE));exact HO284.out⟩,⟨by repeat (first|(with_reducible first|exact HB.out|apply bI|apply bF|apply bH)|exact HB.out)⟩⟩
   case round =>
    clear H';(try clear c2);(try clear c2b0);(try clear c2b1);(try clear p2);(try clear c3);(try clear c3b0);(try clear c3b1);(try clear c5);obtain ⟨x3_1,x4_1,rfl,HA,HK1,HO_3,HB⟩:=hrel
    cases gk with
    |zero=>exact absurd HA.out (by simp [jI])
    | succ k1 =>
     have H:=HA.out;clear HA;simp only [jI] at H;by_cases c6:x4_1<(l0.length:Int)
     ·rw [if_pos c6] at H
      have c6b0:decide (x4_1<(l0.length:Int))=true:=bB c6
      clear c6;by_cases c7:0≤x4_1
      ·rw [if_pos c7] at H
       have c7b0:decide (0≤x4_1)=true:=bB c7
       clear c7;by_cases c8:x4_1<(x3_1.length:Int)
       ·rw [if_pos c8] at H
        have c8b0:decide (x4_1<(x3_1.length:Int))=true:=bB c8
        clear c8;obtain ⟨y286,hy286⟩: ∃y_:List Bool,y_=(x3_1.set (x4_1:Int).toNat (fW false l0 x4_1)):=⟨_,rfl⟩;replace H:(jI k1 l0 y286 (wrap64 (x4_1+1)))=some r:=by first|(rw [hy286];with_reducible exact H)|(have H2_:=(bD _ _).symm.trans H;rw [hy286];with_reducible exact H2_)|(have H2_:=(bD _ _).symm.trans H;with_reducible exact H2_)|with_reducible exact H|(rw [hy286];exact H)|exact H
        have Ny286:=aK hy286;clear hy286;have H':=aK H;clear H;have p285:0≤(x4_1:Int):=bA fU
        have q285:x4_1<(l0.length:Int):=bA fU
        obtain ⟨ad285,e285,hx285_0⟩:=gQ HR0.out x4_1 p285 q285
        cases e285
        replace hx285_0:=(HB.out.cell (bE w _ hx285_0)).trans hx285_0;replace p285:=bL p285;replace q285:=bL q285;have p9:0≤(x4_1:Int):=bA fU
        have q9:(x4_1:Int)<((x3_1.length:Int):Int):=bA fU
        obtain ⟨go9,co9,eo9,gb9,gl9,cl9,HG9⟩:=rT HO_3.out (by omega)
        (first|cases eo9|(injection eo9 with ea_ en_ ec_;(first|subst ea_|(injection ea_ with ea_;subst ea_));subst ec_;clear en_))
        have GB9:=aK gb9;have GG9:=aK HG9;clear gb9 gl9 HG9;obtain ⟨hx9_0,hf9_0⟩:=sV false HO_3.out (x4_1:Int) p9 q9;replace p9:=bL p9;replace q9:=bL q9;have HP10:=Kd.R_putg HO_3.out (x4_1:Int) (fW false l0 x4_1)
        go_wp2_with (first|((with_reducible refine kS (t:=4) (p:=20) rfl ?_);refine jU (t:=4) (p:=20) (v:=?vo_w11) (w1:=(wr.setCell ⟨go9,(x4_1:Int).toNat,none⟩ (.bool (fW false l0 x4_1)))) ?hg ?ho ?hn ?hr ?_;(case ho=>rfl);(case hg=>rfl);(case hn=>rfl);(case hr=>first|(go_simp;done)|(go_simp;rfl)|((try (first|(obtain ⟨_,_,rfl⟩:=cH HO_3.out)|(obtain ⟨_,_,rfl⟩:=jX HO_3.out)));first|(go_simp;done)|(go_simp;rfl)));intro w11 hw;have hg:wr.grownBy w11 (some go9):=(by rw [hw];exact HP10.2);have hp_:Kd.R Kd.bool 4 w11 w.heap.size (fun _=>True) (.slice (some ⟨go9,0,none⟩) x3_1.length co9) y286:=(by rw [hw,Ny286.out];exact HP10.1);clear HP10;replace HO_3:=aK (hp_);replace HB:=aK ((by rw [hw];exact bY (HB.out) GB9.out:Below w.heap.size w w11));clear hg hw hp_))
        go_roundg k1
        case measure=>have:=HK1.out;omega
        case rel=>exact ⟨(y286),(wrap64 (x4_1+1)),kG,H',⟨by have:=HK1.out;omega⟩,⟨by (with_reducible repeat (first|apply Kd.R_alloc|apply bZ|apply cE));exact HO_3.out⟩,⟨by repeat (first|(with_reducible first|exact HB.out|apply bI|apply bF|apply bH)|exact HB.out)⟩⟩
       ·rw [if_neg c8] at H
        exact absurd H (by simp)
      ·rw [if_neg c7] at H
       exact absurd H (by simp)
     ·rw [if_neg c6] at H
      have c6b0:decide (x4_1<(l0.length:Int))=false:=bJ c6
      clear c6;obtain rfl:=bC H;go_wp2;go_ret;exact ⟨_,by first|rfl|(simp [dF,dE]<;>rfl)|(simp [*,dF,dE]<;>rfl),by (with_reducible repeat (first|apply Kd.R_alloc|apply bZ|apply cE));exact HO_3.out,by repeat (first|(with_reducible first|exact HB.out|apply bI|apply bF|apply bH)|exact HB.out)⟩
  ·rw [if_neg c3] at H
   exact absurd H (by simp)
 ·rw [if_neg c2] at H
  exact absurd H (by simp)
def vF (k:Nat) (l0_0:List Int) (a0_1:Int) (a0_2:Int) (a0_3:Int) (l0_4:List Bool):Option (List Int×Int×Int×Int×List Bool):=(mZ k l0_0).bind fun t290=>((qP k l0_4).bind fun t293=>(some (t290,a0_1,a0_2,a0_3,t293)))
theorem qU (k:Nat) (A0_0:Option Addr) (c0_0:Nat) (l0_0:List Int) (a0_1:Int) (a0_2:Int) (a0_3:Int) (A0_4:Option Addr) (c0_4:Nat) (l0_4:List Bool) (r1:List Int) (r2:Int) (r3:Int) (r4:Int) (r5:List Bool) (w:World) (hr0_0:Kd.C (Kd.int .i64) w A0_0 l0_0.length l0_0) (hc0_0:l0_0.length≤c0_0) (hr0_4:Kd.C Kd.bool w A0_4 l0_4.length l0_4) (hc0_4:l0_4.length≤c0_4) (h:vF k l0_0 a0_1 a0_2 a0_3 l0_4=some (r1,r2,r3,r4,r5)):
  Calls Tryz.prog 20 #[.agg #[.slice A0_0 l0_0.length c0_0,.int .i64 a0_1,.int .i64 a0_2,.int .i64 a0_3,.slice A0_4 l0_4.length c0_4]] w fun e w'=> ∃v0_ v4_:Value,e= .returned (.agg #[v0_,.int .i64 r2,.int .i64 r3,.int .i64 r4,v4_])∧Kd.R (Kd.int .i64) 3 w' w.heap.size (fun _=>True) v0_ r1∧Kd.R Kd.bool 4 w' w.heap.size (fun _=>True) v4_ r5∧Below w.heap.size w w':=by
 have hu43:=Tryz.underlying43;have hu27:=Tryz.underlying27;have HR0_0:=aK hr0_0;have HC0_0:=aK hc0_0;clear hr0_0 hc0_0;have HR0_4:=aK hr0_4;have HC0_4:=aK hc0_4;clear hr0_4 hc0_4;have HB:=aK (bQ w.heap.size w);have H:((mZ k l0_0).bind fun t290=>((qP k l0_4).bind fun t293=>(some (t290,a0_1,a0_2,a0_3,t293))))=some (r1,r2,r3,r4,r5):=h
 clear h;replace H:=Option.bind_eq_some_iff.mp H;obtain ⟨t290,A20,H⟩:=H;(try dsimp only at H);have A2:=aK A20;clear A20;replace H:=Option.bind_eq_some_iff.mp H;obtain ⟨t293,A30,H⟩:=H;(try dsimp only at H);have A3:=aK A30;clear A30;simp only [fE,Prod.mk.injEq] at H;obtain ⟨rfl,rfl,rfl,rfl,rfl⟩:=H;go_enter Tryz.func20,Tryz.ntmps20
 go_wp2_with (first|((with_reducible refine dG (N:=1) rfl ?_);refine dN ?hg (N:=1) ?hd (cs:= #[.slice A0_0 l0_0.length c0_0,.int .i64 a0_1,.int .i64 a0_2,.int .i64 a0_3,.slice A0_4 l0_4.length c0_4]) (t:=43) ?hr ?_;(case hd=>rfl);(case hg=>rfl);(case hr=>first|(go_simp;done)|(go_simp;rfl));intro gb287 hg w4 hbox hb;have BK287:=aK (hbox);have GW287:=aK ((by rw [hg];exact (bN jR):w.heap.size≤gb287));have GE287:=aK ((by rw [hg];exact (bN jR):w.heap.size≤gb287));replace HB:=aK (bG jR hb);clear hb hbox hg)|((with_reducible refine dG (N:=2) rfl ?_);refine dN ?hg (N:=2) ?hd (cs:= #[.slice none 0 0,.int .i64 0,.int .i64 0,.int .i64 0,.slice none 0 0]) (t:=27) ?hr ?_;(case hd=>rfl);(case hg=>rfl);(case hr=>first|(go_simp;done)|(go_simp;rfl));intro gb288 hg w5 hbox hb;have BK288:=aK (hbox);have GW288:=aK ((by rw [hg];exact (bN (by repeat (first|(with_reducible first|exact HB.out|apply bI|apply bF|apply bH|refine bY ?_ GE287.out)|exact HB.out))):w.heap.size≤gb288));have GE288:=aK ((by rw [hg];exact (bN (by repeat (first|(with_reducible first|exact HB.out|apply bI|apply bF|apply bH|refine bY ?_ GE287.out)|exact HB.out))):w.heap.size≤gb288));have NB287_288:=aK ((by rw [hg];exact mW (cK (g:=gb287) (o:= .cells #[.slice A0_0 l0_0.length c0_0,.int .i64 a0_1,.int .i64 a0_2,.int .i64 a0_3,.slice A0_4 l0_4.length c0_4] 43 (0,0)) bHx):gb287≠gb288));have NB288_287:=aK ((by rw [hg];exact nJ (cK (g:=gb287) (o:= .cells #[.slice A0_0 l0_0.length c0_0,.int .i64 a0_1,.int .i64 a0_2,.int .i64 a0_3,.slice A0_4 l0_4.length c0_4] 43 (0,0)) bHx):gb288≠gb287));replace BK287:=aK (cJ (g:=gb287) (o:= .cells #[.slice A0_0 l0_0.length c0_0,.int .i64 a0_1,.int .i64 a0_2,.int .i64 a0_3,.slice A0_4 l0_4.length c0_4] 43 (0,0)) bHx hb);replace HB:=aK (bG (by repeat (first|(with_reducible first|exact HB.out|apply bI|apply bF|apply bH|refine bY ?_ GE287.out)|exact HB.out)) hb);clear hb hbox hg)|((with_reducible refine dG (N:=3) rfl ?_);refine dN ?hg (N:=3) ?hd (cs:= #[.slice none 0 0,.int .i64 0,.int .i64 0,.int .i64 0,.slice none 0 0]) (t:=27) ?hr ?_;(case hd=>rfl);(case hg=>rfl);(case hr=>first|(go_simp;done)|(go_simp;rfl));intro gb289 hg w6 hbox hb;have BK289:=aK (hbox);have GW289:=aK ((by rw [hg];exact (bN zz50):w.heap.size≤gb289));have GE289:=aK ((by rw [hg];exact (bN zz50):w.heap.size≤gb289));have NB287_289:=aK ((by rw [hg];exact mW (cK (g:=gb287) (o:= .cells #[.slice A0_0 l0_0.length c0_0,.int .i64 a0_1,.int .i64 a0_2,.int .i64 a0_3,.slice A0_4 l0_4.length c0_4] 43 (0,0)) bHx):gb287≠gb289));have NB289_287:=aK ((by rw [hg];exact nJ (cK (g:=gb287) (o:= .cells #[.slice A0_0 l0_0.length c0_0,.int .i64 a0_1,.int .i64 a0_2,.int .i64 a0_3,.slice A0_4 l0_4.length c0_4] 43 (0,0)) bHx):gb289≠gb287));have NB288_289:=aK ((by rw [hg];exact mW (cK (g:=gb288) (o:= .cells #[.slice none 0 0,.int .i64 0,.int .i64 0,.int .i64 0,.slice none 0 0] 27 (0,0)) zz53):gb288≠gb289));have NB289_288:=aK ((by rw [hg];exact nJ (cK (g:=gb288) (o:= .cells #[.slice none 0 0,.int .i64 0,.int .i64 0,.int .i64 0,.slice none 0 0] 27 (0,0)) zz53):gb289≠gb288));replace BK287:=aK (cJ (g:=gb287) (o:= .cells #[.slice A0_0 l0_0.length c0_0,.int .i64 a0_1,.int .i64 a0_2,.int .i64 a0_3,.slice A0_4 l0_4.length c0_4] 43 (0,0)) bHx hb);replace BK288:=aK (cJ (g:=gb288) (o:= .cells #[.slice none 0 0,.int .i64 0,.int .i64 0,.int .i64 0,.slice none 0 0] 27 (0,0)) zz53 hb);replace HB:=aK (bG zz50 hb);clear hb hbox hg;have hnb7:=NB287_288.out;have hnc7:=NB288_287.out;have hnb8:=NB287_289.out;have hnc8:=NB289_287.out;obtain ⟨hcz9_0,hcz9_1,hcz9_2,hcz9_3,hcz9_4,hfz9_0,hfz9_1,hfz9_2,hfz9_3,hfz9_4⟩:=mG BK287)|((with_reducible refine cD (f:=21) rfl ?_);refine dT (some 6) rfl rfl Tryz.func21 (by kernel_rfl) rfl #[.slice A0_0 l0_0.length c0_0] rfl mO ?_;(with_reducible refine (mP k _ _ l0_0 t290 _ ?side1 ?side2 A2.out).mono ?_);(case side1=>exact bEt);(case side2=>exact HC0_0.out);rintro e w10 ⟨v291,rfl,ho0,hb⟩;refine ⟨_,rfl,?_⟩;have HO292:=aK (dR ho0 (bN bLg));replace BK287:=aK (cJ (g:=gb287) (o:= .cells #[.slice A0_0 l0_0.length c0_0,.int .i64 a0_1,.int .i64 a0_2,.int .i64 a0_3,.slice A0_4 l0_4.length c0_4] 43 (0,0)) bHx hb);replace BK288:=aK (cJ (g:=gb288) (o:= .cells #[.slice none 0 0,.int .i64 0,.int .i64 0,.int .i64 0,.slice none 0 0] 27 (0,0)) zz53 hb);replace BK289:=aK (cJ (g:=gb289) (o:= .cells #[.slice none 0 0,.int .i64 0,.int .i64 0,.int .i64 0,.slice none 0 0] 27 (0,0)) (by (with_reducible repeat (first|refine bU ?_ _|refine bW ?_|refine bT ?_ _));exact BK289.out) hb);replace HB:=aK (bG bLg hb);(try clear hb);(try clear hb2);(try clear hk);(try clear hi);(try clear ho0);obtain ⟨Ao11,co11,eo11⟩:=cH HO292.out;subst eo11;have hnb12:=NB289_288.out;have hnc12:=NB288_289.out;obtain ⟨hcz13_0,hcz13_1,hcz13_2,hcz13_3,hcz13_4,hfz13_0,hfz13_1,hfz13_2,hfz13_3,hfz13_4⟩:=mG BK289;obtain ⟨hcz14_0,hcz14_1,hcz14_2,hcz14_3,hcz14_4,hfz14_0,hfz14_1,hfz14_2,hfz14_3,hfz14_4⟩:=mG BK287)|((with_reducible refine cD (f:=52) rfl ?_);refine dT (some 19) rfl rfl Tryz.func52 (by kernel_rfl) rfl #[.slice A0_4 l0_4.length c0_4] rfl mO ?_;(with_reducible refine (bAx k _ _ l0_4 t293 _ ?side1 ?side2 A3.out).mono ?_);(case side1=>exact bS HR0_4.out bLg);(case side2=>exact HC0_4.out);rintro e w15 ⟨v294,rfl,ho0,hb⟩;refine ⟨_,rfl,?_⟩;have HO295:=aK (dR ho0 (bN bLg));replace HO292:=aK (cA (by (with_reducible repeat (first|apply Kd.R_alloc|apply bZ|apply cE));exact (fG (mL (p:=⟨gb289,3,none⟩) (mL (p:=⟨gb289,2,none⟩) (mL (p:=⟨gb289,1,none⟩) (mL (p:=⟨gb289,0,none⟩) (sU HO292.out BK289.out (by decide)) (fun _ hk=>hk.2) (.slice Ao11 t290.length co11)) (fun _ hk=>hk.2) (.int .i64 a0_1)) (fun _ hk=>hk.2) (.int .i64 a0_2)) (fun _ hk=>hk.2) (.int .i64 a0_3)) (fun _ h_=>h_.1))) hb);replace BK287:=aK (cJ (g:=gb287) (o:= .cells #[.slice A0_0 l0_0.length c0_0,.int .i64 a0_1,.int .i64 a0_2,.int .i64 a0_3,.slice A0_4 l0_4.length c0_4] 43 (0,0)) (by (with_reducible repeat (first|refine bU ?_ _|refine bW ?_|refine bT ?_ _));refine mQ ?_ NB287_289.out _;(with_reducible repeat (first|refine bU ?_ _|refine bW ?_|refine bT ?_ _));refine mQ ?_ NB287_289.out _;(with_reducible repeat (first|refine bU ?_ _|refine bW ?_|refine bT ?_ _));refine mQ ?_ NB287_289.out _;(with_reducible repeat (first|refine bU ?_ _|refine bW ?_|refine bT ?_ _));refine mQ ?_ NB287_289.out _;(with_reducible repeat (first|refine bU ?_ _|refine bW ?_|refine bT ?_ _));exact BK287.out) hb);replace BK288:=aK (cJ (g:=gb288) (o:= .cells #[.slice none 0 0,.int .i64 0,.int .i64 0,.int .i64 0,.slice none 0 0] 27 (0,0)) (by (with_reducible repeat (first|refine bU ?_ _|refine bW ?_|refine bT ?_ _));refine mQ ?_ NB288_289.out _;(with_reducible repeat (first|refine bU ?_ _|refine bW ?_|refine bT ?_ _));refine mQ ?_ NB288_289.out _;(with_reducible repeat (first|refine bU ?_ _|refine bW ?_|refine bT ?_ _));refine mQ ?_ NB288_289.out _;(with_reducible repeat (first|refine bU ?_ _|refine bW ?_|refine bT ?_ _));refine mQ ?_ NB288_289.out _;(with_reducible repeat (first|refine bU ?_ _|refine bW ?_|refine bT ?_ _));exact BK288.out) hb);replace BK289:=aK (cJ (g:=gb289) (o:= .cells #[.slice Ao11 t290.length co11,.int .i64 a0_1,.int .i64 a0_2,.int .i64 a0_3,.slice none 0 0] 27 (0,0)) (by (with_reducible repeat (first|refine bU ?_ _|refine bW ?_|refine bT ?_ _));refine gC (cs:= #[.slice Ao11 t290.length co11,.int .i64 a0_1,.int .i64 a0_2,.int .i64 0,.slice none 0 0]) ?_ 3 _ rfl;(with_reducible repeat (first|refine bU ?_ _|refine bW ?_|refine bT ?_ _));refine gC (cs:= #[.slice Ao11 t290.length co11,.int .i64 a0_1,.int .i64 0,.int .i64 0,.slice none 0 0]) ?_ 2 _ rfl;(with_reducible repeat (first|refine bU ?_ _|refine bW ?_|refine bT ?_ _));refine gC (cs:= #[.slice Ao11 t290.length co11,.int .i64 0,.int .i64 0,.int .i64 0,.slice none 0 0]) ?_ 1 _ rfl;(with_reducible repeat (first|refine bU ?_ _|refine bW ?_|refine bT ?_ _));refine gC (cs:= #[.slice none 0 0,.int .i64 0,.int .i64 0,.int .i64 0,.slice none 0 0]) ?_ 0 _ rfl;(with_reducible repeat (first|refine bU ?_ _|refine bW ?_|refine bT ?_ _));exact BK289.out) hb);replace HB:=aK (bG bLg hb);(try clear hb);(try clear hb2);(try clear hk);(try clear hi);(try clear ho0);obtain ⟨Ao16,co16,eo16⟩:=cH HO295.out;subst eo16;obtain ⟨hcz17_0,hcz17_1,hcz17_2,hcz17_3,hcz17_4,hfz17_0,hfz17_1,hfz17_2,hfz17_3,hfz17_4⟩:=mG BK289;obtain ⟨hcz18_0,hcz18_1,hcz18_2,hcz18_3,hcz18_4,hfz18_0,hfz18_1,hfz18_2,hfz18_3,hfz18_4⟩:=mG BK288))
 refine tD (results_cell_row rfl _ _ gb288 27 #[.slice Ao11 t290.length co11,.int .i64 a0_1,.int .i64 a0_2,.int .i64 a0_3,.slice Ao16 t293.length co16] (0,0) _ rfl (by (with_reducible repeat (first|refine bU ?_ _|refine bW ?_|refine bT ?_ _));refine gC (cs:= #[.slice Ao11 t290.length co11,.int .i64 a0_1,.int .i64 a0_2,.int .i64 a0_3,.slice none 0 0]) ?_ 4 _ rfl;(with_reducible repeat (first|refine bU ?_ _|refine bW ?_|refine bT ?_ _));refine gC (cs:= #[.slice Ao11 t290.length co11,.int .i64 a0_1,.int .i64 a0_2,.int .i64 0,.slice none 0 0]) ?_ 3 _ rfl;(with_reducible repeat (first|refine bU ?_ _|refine bW ?_|refine bT ?_ _));refine gC (cs:= #[.slice Ao11 t290.length co11,.int .i64 a0_1,.int .i64 0,.int .i64 0,.slice none 0 0]) ?_ 2 _ rfl;(with_reducible repeat (first|refine bU ?_ _|refine bW ?_|refine bT ?_ _));refine gC (cs:= #[.slice Ao11 t290.length co11,.int .i64 0,.int .i64 0,.int .i64 0,.slice none 0 0]) ?_ 1 _ rfl;(with_reducible repeat (first|refine bU ?_ _|refine bW ?_|refine bT ?_ _));refine gC (cs:= #[.slice none 0 0,.int .i64 0,.int .i64 0,.int .i64 0,.slice none 0 0]) ?_ 0 _ rfl;(with_reducible repeat (first|refine bU ?_ _|refine bW ?_|refine bT ?_ _));refine mQ ?_ NB288_289.out _;(with_reducible repeat (first|refine bU ?_ _|refine bW ?_|refine bT ?_ _));exact BK288.out) Tryz.underlying27 rfl (by kernel_rfl)) rfl ?_;exact ⟨_,_,by first|rfl|(simp [dF,dE]<;>rfl)|(simp [*,dF,dE]<;>rfl),by (with_reducible repeat (first|apply Kd.R_alloc|apply bZ|apply cE));exact fG (mL (p:=⟨gb288,4,none⟩) (mL (p:=⟨gb288,3,none⟩) (mL (p:=⟨gb288,2,none⟩) (mL (p:=⟨gb288,1,none⟩) (mL (p:=⟨gb288,0,none⟩) (mL (p:=⟨gb289,4,none⟩) (sU (sU HO292.out BK289.out (by decide)) BK288.out (by decide)) (fun _ hk=>hk.1.2) (.slice Ao16 t293.length co16)) (fun _ hk=>hk.2) (.slice Ao11 t290.length co11)) (fun _ hk=>hk.2) (.int .i64 a0_1)) (fun _ hk=>hk.2) (.int .i64 a0_2)) (fun _ hk=>hk.2) (.int .i64 a0_3)) (fun _ hk=>hk.2) (.slice Ao16 t293.length co16)) (fun _ hk=>trivial),by (with_reducible repeat (first|apply Kd.R_alloc|apply bZ|apply cE));exact fG (mL (p:=⟨gb288,4,none⟩) (mL (p:=⟨gb288,3,none⟩) (mL (p:=⟨gb288,2,none⟩) (mL (p:=⟨gb288,1,none⟩) (mL (p:=⟨gb288,0,none⟩) (mL (p:=⟨gb289,4,none⟩) (sU (sU HO295.out BK289.out (by decide)) BK288.out (by decide)) (fun _ hk=>hk.1.2) (.slice Ao16 t293.length co16)) (fun _ hk=>hk.2) (.slice Ao11 t290.length co11)) (fun _ hk=>hk.2) (.int .i64 a0_1)) (fun _ hk=>hk.2) (.int .i64 a0_2)) (fun _ hk=>hk.2) (.int .i64 a0_3)) (fun _ hk=>hk.2) (.slice Ao16 t293.length co16)) (fun _ hk=>trivial),by repeat (first|(with_reducible first|exact HB.out|apply bI|apply bF|apply bH|refine bY ?_ GE287.out|refine bY ?_ GE288.out|refine bY ?_ GE289.out)|exact HB.out)⟩
structure Mm where
 words:List Int
 young:Int
 top:Int
 old:Int
 cards:List Bool
 fields:List (List Int)
 begins:List Int
def MV (w:World) (g:Nat) (m:Mm):Prop:= ∃AW cW AC cC AF cF AB cB,
 w.heap[g]? =some (.cells #[.slice AW m.words.length cW,.int .i64 m.young,.int .i64 m.top,.int .i64 m.old,.slice AC m.cards.length cC,.slice AF m.fields.length cF,.slice AB m.begins.length cB] 85 (0,0))∧
 Kd.C (Kd.int .i64) w AW m.words.length m.words∧Kd.C Kd.bool w AC m.cards.length m.cards∧Kd.C (Kd.slice 3 (Kd.int .i64)) w AF m.fields.length m.fields∧Kd.C (Kd.int .i64) w AB m.begins.length m.begins∧
 m.words.length≤cW∧m.cards.length≤cC∧m.fields.length≤cF∧m.begins.length≤cB
theorem cP {w w':World} {g:Nat} {m:Mm} (h:MV w g m) (hb:Below w.heap.size w w'):MV w' g m:=by
  obtain ⟨AW,cW,AC,cC,AF,cF,AB,cB,h0,h1,h2,h3,h4,h5⟩:=h;exact ⟨AW,cW,AC,cC,AF,cF,AB,cB,(hb.block g (cK h0)).trans h0,bS h1 hb,bS h2 hb,bS h3 hb,bS h4 hb,h5⟩
def bFu (g:Nat) (at_:Int):Value:= .agg #[.pointer (some ⟨g,0,none⟩),.int .i64 at_]
def kY (m:Mm) (at_:Int):Option Int:=if 1≤at_∧at_≤m.words.length∧m.words.length≤281474976710656 then some (rd m.words (at_ - 1)) else none
theorem jN (g:Nat) (m:Mm) (at_ r:Int) (w:World) (hm:MV w g m) (h:kY m at_=some r):
  Calls Tryz.prog 102 #[bFu g at_] w fun e w'=>e= .returned (.int .i64 r)∧Below w.heap.size w w':=by
 unfold kY at h
 split at h
 case isFalse=>simp at h
 case isTrue hb=>
 have HR:=aK (bC h);clear h;obtain ⟨AW,cW,AC,cC,AF,cF,AB,cB,h0,h1,h2,h3,h4,h5⟩:=hm;have HG:=cK h0;obtain ⟨j,hj⟩: ∃j,j=at_ - 1:=⟨_,rfl⟩;have q:IntKind.i64.wrap (at_ - 1)=j:=by rw [hj];exact hZ _ ⟨by omega,by omega⟩
 have p1:=bL (show 0≤j by omega);have p2:=bL (show j<(m.words.length:Int) by omega);obtain ⟨ad,e0,hx⟩:=dA h1 j (by omega) (by omega)
 cases e0
 have x0: ∀o,(w.alloc o).cell? (ad.add j.toNat)=some (.int .i64 (rd m.words j)):=fun o=>((bI (bQ _ _) o).cell (bE w _ hx)).trans hx
 rw [←hj] at HR;have c0: ∀o,(w.alloc o).cell? ⟨g,0,none⟩=_:=fun o=>(bK (bT h0 o) 0).trans rfl
 clear h1 h2 h3 h4 h5 hb hj;unfold bFu;go_enter Tryz.func102,Tryz.ntmps102;go_wp2
 go_quiet (fail)
 go_wp2;go_ret;exact ⟨by rw [←HR.out];rfl,by repeat (first|exact bQ _ _|apply bI|apply bF|(refine bY ?_ (by simp)))⟩
theorem bAb {w w':World} {cs:Array Value} {t:TypeId} (hb:Below (w.alloc (.cells cs t (0,0))).heap.size (w.alloc (.cells cs t (0,0))) w'):w'.heap[w.heap.size]? =some (.cells cs t (0,0)):=(hb.block w.heap.size (cK (pX w _))).trans (pX w _)
def bEp (xs:List (List Int)) (i:Int):List Int:=xs.getD i.toNat []
theorem bJw {w:World} {A:Option Addr} {n:Nat} {xs:List (List Int)} (h:Kd.C (Kd.slice 3 (Kd.int .i64)) w A n xs) (i:Int) (h0:0≤i) (h1:i<n): ∃ad A1 c1,A=some ad∧w.cell? (ad.add i.toNat)=some (.slice A1 (bEp xs i).length c1)∧(bEp xs i).length≤c1∧Kd.C (Kd.int .i64) w A1 (bEp xs i).length (bEp xs i):=by
  obtain ⟨ad,c,e,_,⟨A1,c1,rfl,l1,g1⟩,hc⟩:=Kd.C_get h [] i h0 h1;exact ⟨ad,A1,c1,e,by have:=hc 0 _ rfl;rw [show i.toNat*(Kd.slice 3 (Kd.int .i64)).sz+0=i.toNat from by show i.toNat*1+0=_;omega] at this;exact this,l1,g1⟩
def tK (l0:List Int):Option (List Int):=if l0.length≤17592186044416 then some l0 else none
theorem bEj (n c:Nat) (W:World):(binOp .eql 24 (.slice none n c) (.slice none 0 0)).run Tryz.prog W= .ok (.bool true) W:=by kernel_rfl
theorem bCv (ad:Addr) (n c:Nat) (W:World):(binOp .eql 24 (.slice (some ad) n c) (.slice none 0 0)).run Tryz.prog W= .ok (.bool false) W:=by kernel_rfl
theorem bAh (A0:Option Addr) (c0:Nat) (l0 r:List Int) (w:World) (hr0:Kd.C (Kd.int .i64) w A0 l0.length l0) (hc0:l0.length≤c0) (h:tK l0=some r):
  Calls Tryz.prog 122 #[.slice A0 l0.length c0] w fun e w'=> ∃v,e= .returned v∧Kd.R (Kd.int .i64) 3 w' w.heap.size (fun _=>True) v r∧Below w.heap.size w w':=by
 unfold tK at h
 split at h
 case isFalse=>simp at h
 case isTrue hl=>
 obtain rfl:=bC h;have HR0:=aK hr0;have HC0:=aK hc0;have HL:=aK hl;clear h hl hc0
 cases A0 with
 | none =>
  have hz:l0=[]:=by
   cases l0 with
   |nil=>rfl
   |cons x xs=>obtain ⟨ad,_,e,_⟩:=Kd.C_get hr0 x 0 (by omega) (by simp);cases e
  subst hz;clear hr0;have N1:=bEj;have N2:=bCv;go_enter Tryz.func122,Tryz.ntmps122;go_wp2;go_ret;exact ⟨_,rfl,Kd.R_nil _ _ _ _ _,by repeat (first|exact bQ _ _|apply bI|apply bF|apply bH)⟩
 | some ad =>
  clear hr0;have N1:=bEj;have N2:=bCv;go_enter Tryz.func122,Tryz.ntmps122
  go_wp2_with (first
   |((with_reducible refine dG (N:=5) rfl ?_);refine Kd.R_lit (Kd.int .i64) _ 3 ?hg (N:=5) ?hd (xs:=([]:List Int)) (inner:=[]) (ok:=fun _=>True) (okp:=fun _=>True) ?hr ?hp (fun _ hk=>hk) gG (bQ _ _) (bV _) (by simp) ?_;(case hd=>rfl);(case hg=>rfl);(case hr=>first|(go_simp;done)|(go_simp;rfl));(case hp=>exact (pB.none _ _));intro v5 w5 ho5 hb5 hg5 hn5;have HO5:=aK ho5;have HB5:=aK hb5;clear ho5 hb5 hg5 hn5)
   |((with_reducible refine kR (b:= .append) (xs:= #[.tmp 5,.tmp 6]) rfl ?_);at_builtin;refine Kd.R_append_rows (Kd.int .i64) (w0:=w) w.heap.size rfl (.tmp 5) (.tmp 6) 24 3 (.int .i64 0) 8 rfl Tryz.underlying24 tB rfl (by decide) (by omega) v5 [] l0 _ _ _ (fun _=>True) (fun _=>False) rfl rfl ?aO ?aR (fun _ _ h=>h) (fun _ h=>h.elim) (fun _ _=>trivial) ?aB ?aS ?aL ?_;(case aR=>exact bS HR0.out HB5.out);(case aB=>exact HB5.out);(case aO=>exact HO5.out);(case aS=>exact bN HB5.out);(case aL=>have:=HL.out;simp;omega);intro v7 w7 ho7 hb7 hg7 hn7;have HO7:=aK ho7;have HB7:=aK hb7;clear ho7 hb7 hg7 hn7))
  go_ret;exact ⟨_,rfl,HO7.out,HB7.out⟩
theorem bCg (W:World) (o o':Obj):((W.alloc o).alloc o').heap[W.heap.size]? =some o∧((W.alloc o).alloc o').heap[W.heap.size+1]? =some o':=
  ⟨bT (pX W o) o',by simpa using pX (W.alloc o) o'⟩
def tL (l0:List Bool):Option (List Bool):=if l0.length≤17592186044416 then some l0 else none
theorem bEk (n c:Nat) (W:World):(binOp .eql 25 (.slice none n c) (.slice none 0 0)).run Tryz.prog W= .ok (.bool true) W:=by kernel_rfl
theorem bCw (ad:Addr) (n c:Nat) (W:World):(binOp .eql 25 (.slice (some ad) n c) (.slice none 0 0)).run Tryz.prog W= .ok (.bool false) W:=by kernel_rfl
theorem bAi (A0:Option Addr) (c0:Nat) (l0 r:List Bool) (w:World) (hr0:Kd.C (Kd.bool) w A0 l0.length l0) (hc0:l0.length≤c0) (h:tL l0=some r):
  Calls Tryz.prog 123 #[.slice A0 l0.length c0] w fun e w'=> ∃v,e= .returned v∧Kd.R (Kd.bool) 4 w' w.heap.size (fun _=>True) v r∧Below w.heap.size w w':=by
 unfold tL at h
 split at h
 case isFalse=>simp at h
 case isTrue hl=>
 obtain rfl:=bC h;have HR0:=aK hr0;have HC0:=aK hc0;have HL:=aK hl;clear h hl hc0
 cases A0 with
 | none =>
  have hz:l0=[]:=by
   cases l0 with
   |nil=>rfl
   |cons x xs=>obtain ⟨ad,_,e,_⟩:=Kd.C_get hr0 x 0 (by omega) (by simp);cases e
  subst hz;clear hr0;have N1:=bEk;have N2:=bCw;go_enter Tryz.func123,Tryz.ntmps123;go_wp2;go_ret;exact ⟨_,rfl,Kd.R_nil _ _ _ _ _,by repeat (first|exact bQ _ _|apply bI|apply bF|apply bH)⟩
 | some ad =>
  clear hr0;have N1:=bEk;have N2:=bCw;go_enter Tryz.func123,Tryz.ntmps123
  go_wp2_with (first
   |((with_reducible refine dG (N:=5) rfl ?_);refine Kd.R_lit (Kd.bool) _ 4 ?hg (N:=5) ?hd (xs:=([]:List Bool)) (inner:=[]) (ok:=fun _=>True) (okp:=fun _=>True) ?hr ?hp (fun _ hk=>hk) gG (bQ _ _) (bV _) (by simp) ?_;(case hd=>rfl);(case hg=>rfl);(case hr=>first|(go_simp;done)|(go_simp;rfl));(case hp=>exact (pB.none _ _));intro v5 w5 ho5 hb5 hg5 hn5;have HO5:=aK ho5;have HB5:=aK hb5;clear ho5 hb5 hg5 hn5)
   |((with_reducible refine kR (b:= .append) (xs:= #[.tmp 5,.tmp 6]) rfl ?_);at_builtin;refine Kd.R_append_rows (Kd.bool) (w0:=w) w.heap.size rfl (.tmp 5) (.tmp 6) 25 4 (.bool false) 1 rfl Tryz.underlying25 bFi rfl (by decide) (by omega) v5 [] l0 _ _ _ (fun _=>True) (fun _=>False) rfl rfl ?aO ?aR (fun _ _ h=>h) (fun _ h=>h.elim) (fun _ _=>trivial) ?aB ?aS ?aL ?_;(case aR=>exact bS HR0.out HB5.out);(case aB=>exact HB5.out);(case aO=>exact HO5.out);(case aS=>exact bN HB5.out);(case aL=>have:=HL.out;simp;omega);intro v7 w7 ho7 hb7 hg7 hn7;have HO7:=aK ho7;have HB7:=aK hb7;clear ho7 hb7 hg7 hn7))
  go_ret;exact ⟨_,rfl,HO7.out,HB7.out⟩
theorem bAl (A0:Option Addr) (c0:Nat) (l0:List Int) (a1 a2 a3:Int) (A4:Option Addr) (c4:Nat) (l4:List Bool) (w:World) (hr0:Kd.C (Kd.int .i64) w A0 l0.length l0) (hc0:l0.length≤c0) (hr4:Kd.C Kd.bool w A4 l4.length l4) (hc4:l4.length≤c4) (h0:l0.length≤17592186044416) (h4:l4.length≤17592186044416):
  Calls Tryz.prog 69 #[.agg #[.slice A0 l0.length c0,.int .i64 a1,.int .i64 a2,.int .i64 a3,.slice A4 l4.length c4]] w fun e w'=> ∃u v,e= .returned (.agg #[u,.int .i64 a1,.int .i64 a2,.int .i64 a3,v])∧Kd.R (Kd.int .i64) 3 w' w.heap.size (fun k=>some k≠v.ownBlock) u l0∧Kd.R Kd.bool 4 w' w.heap.size (fun k=>some k≠u.ownBlock) v l4∧Below w.heap.size w w':=by
 have HR0:=aK hr0;have HC0:=aK hc0;have HR4:=aK hr4;have HC4:=aK hc4;have HL0:=aK h0;have HL4:=aK h4;clear hr0 hc0 hr4 hc4 h0 h4;go_enter Tryz.func69,Tryz.ntmps69
 go_wp2_with fail
 go_at_call 122;have HB1:=aK (show Below w.heap.size w ((w.alloc (.cells #[.slice A0 l0.length c0,.int .i64 a1,.int .i64 a2,.int .i64 a3,.slice A4 l4.length c4] 27 (0,0))).alloc (.cells #[.slice none 0 0,.int .i64 0,.int .i64 0,.int .i64 0,.slice none 0 0] 27 (0,0))) by repeat (first|exact bQ _ _|apply bI));refine (bAh A0 c0 l0 l0 _ (bS HR0.out HB1.out) HC0.out (by unfold tK;rw [if_pos HL0.out])).mono ?_;rintro e w2 ⟨u,rfl,hu,hb⟩;have HB2:=aK (bG HB1.out hb);have X1:=aK ((hb.block w.heap.size (by simp;omega)).trans (bCg w _ _).1);have X2:=aK ((hb.block (w.heap.size+1) (by simp)).trans (bCg w _ _).2);have HU:=aK (show Kd.R (Kd.int .i64) 3 w2 (w.heap.size+2) (fun _=>True) u l0 by simpa using hu);have hS2:w.heap.size+2≤w2.heap.size:=by have:=bN hb;simpa using this
 obtain ⟨AU,cU,rfl⟩:=cH hu;clear hu hb HB1;have c0':=(bK X1.out 0).trans rfl;have f0':=fK X1.out 0;have c4':=(bK X1.out 4).trans rfl
 go_wp2_with fail
 go_at_call 123;have HB3:=aK (show Below w.heap.size w (w2.setCell ⟨w.heap.size,0,none⟩ (.slice AU l0.length cU)) from bY HB2.out (bV _));have Y1:=aK (gC X1.out 0 (.slice AU l0.length cU) rfl);have Y2:=aK (mQ X2.out (show w.heap.size+1≠w.heap.size by omega) (p:=⟨w.heap.size,0,none⟩) (.slice AU l0.length cU));clear c0' f0' c4' X1 X2;generalize hW3:w2.setCell ⟨w.heap.size,0,none⟩ (.slice AU l0.length cU)=W3 at HB3 Y1 Y2 ⊢;refine (bAi A4 c4 l4 l4 _ (bS HR4.out HB3.out) HC4.out (by unfold tL;rw [if_pos HL4.out])).mono ?_;rintro e w4 ⟨v,rfl,hv,hb⟩;have HB4:=aK (bG HB3.out hb);have Z1:=aK ((hb.block _ (cK Y1.out)).trans Y1.out);have Z2:=aK ((hb.block _ (cK Y2.out)).trans Y2.out);have HV:=aK hv;obtain ⟨AV,cV,rfl⟩:=cH hv;have Z3:w4.heap[w.heap.size]? =some (.cells #[.slice AU l0.length cU,.int .i64 a1,.int .i64 a2,.int .i64 a3,.slice A4 l4.length c4] 27 (0,0)):=Z1.out
 have Z4:=Z2.out;have c0':=(bK Z3 0).trans rfl;have f0':=fK Z3 0;have d0':=(bK Z4 0).trans rfl;have e0':=fK Z4 0;have c1':=(bK Z3 1).trans rfl;have f1':=fK Z3 1;have d1':=(bK Z4 1).trans rfl;have e1':=fK Z4 1;have c2':=(bK Z3 2).trans rfl;have f2':=fK Z3 2;have d2':=(bK Z4 2).trans rfl;have e2':=fK Z4 2;have c3':=(bK Z3 3).trans rfl;have f3':=fK Z3 3;have d3':=(bK Z4 3).trans rfl;have e3':=fK Z4 3;have c4':=(bK Z3 4).trans rfl;have f4':=fK Z3 4;have d4':=(bK Z4 4).trans rfl;have e4':=fK Z4 4;have Z5:=aK Z4;have HS3:=aK (show W3.heap.size=w2.heap.size by rw [←hW3];simp);have HS2:=aK (show w.heap.size+2≤w2.heap.size from hS2);have K3:=aK (show∀k,k≠w.heap.size→W3.heap[k]? =w2.heap[k]? from fun k hk=>by rw [←hW3];exact gF w2 ⟨w.heap.size,0,none⟩ _ k hk);have HBb:=aK hb;clear hv hb Z1 Z3 Z4 Y1 Y2 HB3 hW3 Z2;go_wp2;refine tD (results_cell_row rfl _ _ (w.heap.size+1) 27 #[.slice AU l0.length cU,.int .i64 a1,.int .i64 a2,.int .i64 a3,.slice AV l4.length cV] (0,0) _ rfl (gC (gC (gC (gC (gC (mQ Z5.out (show w.heap.size+1≠w.heap.size by omega) (p:=⟨w.heap.size,4,none⟩) _) 0 _ rfl) 1 _ rfl) 2 _ rfl) 3 _ rfl) 4 _ rfl) Tryz.underlying27 rfl (by kernel_rfl)) rfl ?_
 have KF: ∀k,k≠w.heap.size→k≠w.heap.size+1→((((((w4.setCell ⟨w.heap.size,4,none⟩ (.slice AV l4.length cV)).setCell ⟨w.heap.size+1,0,none⟩ (.slice AU l0.length cU)).setCell ⟨w.heap.size+1,1,none⟩ (.int .i64 a1)).setCell ⟨w.heap.size+1,2,none⟩ (.int .i64 a2)).setCell ⟨w.heap.size+1,3,none⟩ (.int .i64 a3)).setCell ⟨w.heap.size+1,4,none⟩ (.slice AV l4.length cV)).heap[k]? =w4.heap[k]? :=by
  intro k h1 h2;rw [gF _ _ _ k h2,gF _ _ _ k h2,gF _ _ _ k h2,gF _ _ _ k h2,gF _ _ _ k h2,gF _ _ _ k h1]
 have s3:=HS3.out;have s2:=HS2.out;refine ⟨_,_,rfl,?_,?_,?_⟩
 ·refine dR (fG (Kd.R_step (qT HU.out) (fun k hk hlt => ?_)) (fun k hk he => ?_)) (by omega)
  ·obtain ⟨_, h1, h2, _⟩ := hk
   exact (KF k (by omega) (by omega)).trans ((HBb.out.block k (by omega)).trans (K3.out k (by omega)))
  ·have h1 := rU HV.out k he.symm
   have h2:=hk.2.2.1;omega
 ·refine dR (fG (Kd.R_step (qT HV.out) (fun k hk hlt => ?_)) (fun k hk he => ?_)) (by omega)
  ·obtain ⟨_, h1, h2, _⟩ := hk
   exact KF k (by omega) (by omega)
  ·have h1 := rN HU.out k he.symm
   have h2:=hk.2.1;omega
 ·repeat (refine bY ?_ (by simp))
  exact HB4.out
def bDg (t:Int):Value:=
 if t=0 then .iface 183 (.agg #[])
 else if t=1 then .iface 166 (.agg #[])
 else if t=2 then .iface 184 (.agg #[])
 else if t=3 then .iface 168 (.agg #[.bool false])
 else if t=4 then .iface 168 (.agg #[.bool true])
 else .iface 170 (.agg #[.int .i64 (t - 8)])
def kv (t:Int):Prop:=(0≤t∧t≤4)∨8≤t
def bJs (n t:Int):Bool:=decide ((0≤t∧t≤4)∨(8≤t∧t<8+n))
def bEf (n t:Int):Value:=if bJs n t=true then bDg t else .nilIface
theorem bEe {t:Int} (h:kv t):t=0∨t=1∨t=2∨t=3∨t=4∨8≤t:=by unfold kv at h;omega
theorem bBq {t:Int} (h:8≤t):bDg t= .iface 170 (.agg #[.int .i64 (t - 8)]):=by
  unfold bDg;rw [if_neg (by omega),if_neg (by omega),if_neg (by omega),if_neg (by omega),if_neg (by omega)]
theorem bMb {s:Int} (hs:kv s) (W:World):(Instr.typeAssert (bDg s) 163 166 true).run Tryz.prog W= .ok (.tuple #[.agg #[],.bool (decide (s=1))]) W:=by
 rcases bEe hs with rfl|rfl|rfl|rfl|rfl|hs
 all_goals first
  |(rw [bBq hs,bJ (by omega)];kernel_rfl)
  |kernel_rfl
theorem bMc {s:Int} (hs:kv s) (W:World):(Instr.typeAssert (bDg s) 163 168 true).run Tryz.prog W= .ok (.tuple #[.agg #[.bool (decide (s=4))],.bool (decide (s=3∨s=4))]) W:=by
 rcases bEe hs with rfl|rfl|rfl|rfl|rfl|hs
 all_goals first
  |(rw [bBq hs,bJ (p:=s=4) (by omega),bJ (by omega)];kernel_rfl)
  |kernel_rfl
def clsOf (t:Int):Int:=if 8≤t then t - 8 else 0
theorem bIq {s:Int} (hs:kv s) (W:World):(Instr.typeAssert (bDg s) 163 170 true).run Tryz.prog W= .ok (.tuple #[.agg #[.int .i64 (clsOf s)],.bool (decide (8≤s))]) W:=by
 rcases bEe hs with rfl|rfl|rfl|rfl|rfl|hs
 all_goals first
  |(rw [bBq hs,bB hs,show clsOf s=s - 8 from if_pos hs];kernel_rfl)
  |kernel_rfl
theorem nil_int (W:World):(Instr.typeAssert .nilIface 163 166 true).run Tryz.prog W= .ok (.tuple #[.agg #[],.bool false]) W:=by kernel_rfl
theorem nil_arr (W:World):(Instr.typeAssert .nilIface 163 168 true).run Tryz.prog W= .ok (.tuple #[.agg #[.bool false],.bool false]) W:=by kernel_rfl
theorem bKq (W:World):(Instr.typeAssert .nilIface 163 170 true).run Tryz.prog W= .ok (.tuple #[.agg #[.int .i64 0],.bool false]) W:=by kernel_rfl
theorem xO (a0 a1:Int) (w:World) (h0:0≤a0) (h1:a0≤281474976710656):
  Calls Tryz.prog 156 #[.int .i64 a0,.int .i64 a1] w fun e w'=>e= .returned (bEf a0 a1)∧Drawn0 w w':=by
 by_cases c0:a1=0
 ·subst c0
  have HF:=aK (show bEf a0 0=bDg 0 from if_pos (by simp [bJs]));go_enter Tryz.func156,Tryz.ntmps156;go_wp2;go_ret;exact ⟨by rw [HF.out];rfl,Drawn0.refl _⟩
 by_cases c1:a1=1
 ·subst c1
  have HF:=aK (show bEf a0 1=bDg 1 from if_pos (by simp [bJs]));go_enter Tryz.func156,Tryz.ntmps156;go_wp2;go_ret;exact ⟨by rw [HF.out];rfl,Drawn0.refl _⟩
 by_cases c2:a1=2
 ·subst c2
  have HF:=aK (show bEf a0 2=bDg 2 from if_pos (by simp [bJs]));go_enter Tryz.func156,Tryz.ntmps156;go_wp2;go_ret;exact ⟨by rw [HF.out];rfl,Drawn0.refl _⟩
 by_cases c3:a1=3
 ·subst c3
  have HF:=aK (show bEf a0 3=bDg 3 from if_pos (by simp [bJs]));go_enter Tryz.func156,Tryz.ntmps156;go_wp2;go_ret;exact ⟨by rw [HF.out];rfl,Drawn0.refl _⟩
 by_cases c4:a1=4
 ·subst c4
  have HF:=aK (show bEf a0 4=bDg 4 from if_pos (by simp [bJs]));go_enter Tryz.func156,Tryz.ntmps156;go_wp2;go_ret;exact ⟨by rw [HF.out];rfl,Drawn0.refl _⟩
 have d0:(a1==0)=false:=tP.2 c0
 have d1:(a1==1)=false:=tP.2 c1
 have d2:(a1==2)=false:=tP.2 c2
 have d3:(a1==3)=false:=tP.2 c3
 have d4:(a1==4)=false:=tP.2 c4
 by_cases c5:8≤a1
 ·by_cases c6 : a1 < 8 + a0
  ·have HF := aK (show bEf a0 a1 = .iface 170 (.agg #[.int .i64 (a1 - 8)]) from (if_pos (by simp [bJs]; omega)).trans (bBq c5))
   have d5:decide (8≤a1)=true:=bB c5
   have d6:decide (a1<8+a0)=true:=bB c6
   clear c0 c1 c2 c3 c4;go_enter Tryz.func156,Tryz.ntmps156;go_wp2;go_ret;exact ⟨by rw [HF.out];rfl,Drawn0.refl _⟩
  ·have HF := aK (show bEf a0 a1 = .nilIface from if_neg (by simp [bJs]; omega))
   have d5:decide (8≤a1)=true:=bB c5
   have d6:decide (a1<8+a0)=false:=bJ c6
   clear c0 c1 c2 c3 c4;go_enter Tryz.func156,Tryz.ntmps156;go_wp2;go_ret;exact ⟨by rw [HF.out];rfl,Drawn0.refl _⟩
 ·have HF := aK (show bEf a0 a1 = .nilIface from if_neg (by simp [bJs]; omega))
  have d5:decide (8≤a1)=false:=bJ c5
  clear c0 c1 c2 c3 c4;go_enter Tryz.func156,Tryz.ntmps156;go_wp2;go_ret;exact ⟨by rw [HF.out];rfl,Drawn0.refl _⟩
def kOkF.f (n t:Int):Option Bool:=if 0≤n∧n≤281474976710656 then some (bJs n t) else none
def pJ (a0 a1:Int):Option Bool:=if 0≤a0∧a0≤281474976710656 then some (bJs a0 a1&&decide (a1=1∨a1=3∨a1=4∨8≤a1)) else none
theorem tC (a0:Int) (a1:Int) (r:Bool) (w:World) (h:pJ a0 a1=some r):
  Calls Tryz.prog 134 #[.int .i64 a0,.int .i64 a1] w fun e w'=>e= .returned (.bool r)∧Drawn0 w w':=by
 unfold pJ at h
 split at h
 case isFalse=>simp at h
 case isTrue hb=>
  obtain ⟨h0,h1⟩:=hb;have HR:=aK (bC h);clear h;by_cases hk:bJs a0 a1=true
  ·have hv : kv a1 := by simp [bJs] at hk; unfold kv; omega
   have HO:=aK (show bEf a0 a1=bDg a1 from if_pos hk);have t1:=bMb hv;have t2:=bMc hv;have t3:=bIq hv;have HK:=aK hk;clear hk hv;go_enter Tryz.func134,Tryz.ntmps134
   go_wp2_with (go_at_call 156;refine (xO a0 a1 _ h0 h1).mono ?_;rintro e w' ⟨rfl,⟨n,rfl⟩⟩;rw [HO.out])
   ·go_ret
    exact ⟨by show Ending.returned (.bool true)=_;rw [←HR.out,HK.out,bB (by omega)];rfl,Drawn0.step (Drawn0.refl _) _⟩
   ·go_ret
    exact ⟨by show Ending.returned (.bool false)=_;rw [←HR.out,HK.out,bJ (by omega)];rfl,Drawn0.step (Drawn0.refl _) _⟩
  ·have HO := aK (show bEf a0 a1 = .nilIface from if_neg hk)
   have HK:=aK (Bool.not_eq_true _ |>.mp hk);have t1:=nil_int;have t2:=nil_arr;have t3:=bKq;clear hk;go_enter Tryz.func134,Tryz.ntmps134
   go_wp2_with (go_at_call 156;refine (xO a0 a1 _ h0 h1).mono ?_;rintro e w' ⟨rfl,⟨n,rfl⟩⟩;rw [HO.out])
   go_ret;exact ⟨by show Ending.returned (.bool false)=_;rw [←HR.out,HK.out];rfl,Drawn0.step (Drawn0.refl _) _⟩
end Go.Proofs.YtbaklikaoleplaaGreat.K
