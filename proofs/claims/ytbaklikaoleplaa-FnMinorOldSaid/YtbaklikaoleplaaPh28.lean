import Derived.Test.YtbaklikaoleplaaPh24
import Derived.Test.YtbaklikaoleplaaPh26
set_option maxHeartbeats 16000000
set_option maxRecDepth 100000
namespace Go.Proofs.Ytbaklikaoleplaa.K
open Go.RowKit Go.Proofs.YtbaklikaoleplaaW.PrintWords Go.Proofs.YtbaklikaoleplaaW.PrintLast Go.Proofs.YtbaklikaoleplaaW.PrintMore
attribute [local go_sem] gD gB gY gW fR fQ gC gA
set_option linter.unusedVariables false
set_option linter.unusedSimpArgs false
def vA (k:Nat) (s0_0:List Int) (s0_1:Int):Option (Int×Int):=(jM k s0_0 s0_1 3).bind fun bt348=>(if bt348.1=0 then ((some (([0,1,2,(-1),(-128),127]:List Int):List Int)).bind fun y350=>((jM k s0_0 bt348.2 6).bind fun bt353=>(if 0≤bt353.1 then (if bt353.1<(y350.length:Int) then (some (rd y350 bt353.1,bt353.2)) else (none)) else (none)))) else ((jM k s0_0 bt348.2 12).bind fun bt356=>(some (wrap64 (bt356.1 - 3),bt356.2))))
theorem bDo (k:Nat) (g:Nat) (s0_0:List Int) (s0_1:Int) (r1:Int) (r2:Int) (w0 w:World) (hI:IsS96 w0 w g s0_0 s0_1) (hB:Below w0.heap.size w0 w) (h:vA k s0_0 s0_1=some (r1,r2)):
  Calls Try.prog 112 #[.pointer (some ⟨g,0,none⟩)] w fun e w'=>e= .returned (.int .i64 r1)∧IsS96 w0 w' g s0_0 r2∧Below w0.heap.size w0 w'∧gZ w w' g none:=by
 have HI0:=aK hI;have HK:=aK (gZ.refl w g none);have HL:=aK hB.size;clear hI;have HW0:=aK hB.size;have HB:=aK hB;clear hB;have H:((jM k s0_0 s0_1 3).bind fun bt348=>(if bt348.1=0 then ((some (([0,1,2,(-1),(-128),127]:List Int):List Int)).bind fun y350=>((jM k s0_0 bt348.2 6).bind fun bt353=>(if 0≤bt353.1 then (if bt353.1<(y350.length:Int) then (some (rd y350 bt353.1,bt353.2)) else (none)) else (none)))) else ((jM k s0_0 bt348.2 12).bind fun bt356=>(some (wrap64 (bt356.1 - 3),bt356.2)))))=some (r1,r2):=h
 clear h;replace H:=Option.bind_eq_some_iff.mp H;obtain ⟨⟨t348,t349⟩,A20,H⟩:=H;(try dsimp only at H);have A2:=aK A20;clear A20;by_cases c3:t348=0
 ·rw [if_pos c3] at H
  have c3b0:(t348==0)=true:=zH.mpr c3
  have c3b1:(t348 !=0)=false:=bne_eq_false_iff_eq.mpr c3
  clear c3;obtain ⟨y350,hy350⟩: ∃y_:List Int,y_=(([0,1,2,(-1),(-128),127]:List Int)):=⟨_,rfl⟩;replace H:((jM k s0_0 t349 6).bind fun bt353=>(if 0≤bt353.1 then (if bt353.1<(y350.length:Int) then (some (rd y350 bt353.1,bt353.2)) else (none)) else (none)))=some (r1,r2):=by first|(rw [hy350];with_reducible exact H)|(have H2_:=(bC _ _).symm.trans H;rw [hy350];with_reducible exact H2_)|(have H2_:=(bC _ _).symm.trans H;with_reducible exact H2_)|with_reducible exact H|(rw [hy350];exact H)|exact H
  have Ny350:=aK hy350;clear hy350;replace H:=Option.bind_eq_some_iff.mp H;obtain ⟨⟨t353,t354⟩,A40,H⟩:=H;(try dsimp only at H);have A4:=aK A40;clear A40;by_cases c5:0≤t353
  ·rw [if_pos c5] at H
   have c5b0:decide (0≤t353)=true:=bD c5
   clear c5;by_cases c6:t353<(y350.length:Int)
   ·rw [if_pos c6] at H
    have c6b0:decide (t353<(y350.length:Int))=true:=bD c6
    clear c6;simp only [fB,Prod.mk.injEq] at H;obtain ⟨rfl,rfl⟩:=H;go_enter Try.func112,Try.ntmps112
    go_wp2_with (first|((with_reducible refine dG (f:=63) rfl ?_);refine gE (some 4) rfl rfl Try.func63 (by kernel_rfl) rfl #[.pointer (some ⟨g,0,none⟩),.int .i64 3] rfl qD ?_;(with_reducible refine (kW k g s0_0 s0_1 3 t348 t349 w0 _ ?side1 ?side2 A2.out).mono ?_);(case side1=>exact bMw);(case side2=>exact bMx);rintro e w7 ⟨rfl,hi,hb,hk⟩;refine ⟨_,rfl,?_⟩;replace HK:=aK (gZ.trans bKz hk (.inl rfl));replace HB:=aK (hb);replace HI0:=aK (hi);(try clear hb);(try clear hb2);(try clear hk);(try clear hi))|((with_reducible refine dK (N:=6) rfl ?_);refine yI (Kd.int .i64) _ 3 ?hg (N:=6) ?hd (xs:=([0,1,2,(-1),(-128),127]:List Int)) (inner:=[.int .i64 0,.int .i64 1,.int .i64 2,.int .i64 (-1),.int .i64 (-128),.int .i64 127]) (ok:=fun _=>True) (okp:=fun _=>True) ?hr ?hp (fun _ hk=>hk) dT (bH _ _) (bV _) (by simp) ?_;(case hd=>rfl);(case hg=>rfl);(case hr=>first|(go_simp;done)|(go_simp;rfl));(case hp=>exact (pP.one (show Kd.M (Kd.int .i64) _ _ _ 0 [.int .i64 0] from rfl) (pP.one (show Kd.M (Kd.int .i64) _ _ _ 1 [.int .i64 1] from rfl) (pP.one (show Kd.M (Kd.int .i64) _ _ _ 2 [.int .i64 2] from rfl) (pP.one (show Kd.M (Kd.int .i64) _ _ _ (-1) [.int .i64 (-1)] from rfl) (pP.one (show Kd.M (Kd.int .i64) _ _ _ (-128) [.int .i64 (-128)] from rfl) (pP.one (show Kd.M (Kd.int .i64) _ _ _ 127 [.int .i64 127] from rfl) (pP.none _ _))))))));intro v351 w8 ho9 hb hg_ hnew_;clear hg_ hnew_;(first|rw [←Ny350.out] at ho9|(simp only [Int.reduceToNat] at ho9;rw [←Ny350.out] at ho9));have HO352:=aK (dE ho9 (tT (w:=w) (g:=g) (row:=none) bKz));replace HK:=aK (gZ.trans bKz (gZ.of_below hb g none) (.inl rfl));replace HB:=aK (bK bMx hb);replace HI0:=aK (IsS96.below bMw hb);clear hb ho9)|((with_reducible refine dG (f:=63) rfl ?_);refine gE (some 8) rfl rfl Try.func63 (by kernel_rfl) rfl #[.pointer (some ⟨g,0,none⟩),.int .i64 6] rfl qD ?_;(with_reducible refine (kW k g s0_0 t349 6 t353 t354 w0 _ ?side1 ?side2 A4.out).mono ?_);(case side1=>exact bMw);(case side2=>exact bMx);rintro e w10 ⟨rfl,hi,hb,hk⟩;refine ⟨_,rfl,?_⟩;replace HO352:=aK (cI (Kd.R_keep (IsS96.apart (show IsS96 w0 _ g s0_0 t349 from by repeat (first|(with_reducible first|exact HI0.out|apply IsS96.alloc|apply IsS96.drewN|apply IsS96.drew|apply IsS96.set_1)|exact HI0.out)) (by (with_reducible repeat (first|apply Kd.R_alloc|apply dA|apply dC));exact HO352.out) (by decide)) hk (fun _ h=>h.2)) (fun _ h=>h.1));replace HK:=aK (gZ.trans bKz hk (.inl rfl));replace HB:=aK (hb);replace HI0:=aK (hi);(try clear hb);(try clear hb2);(try clear hk);(try clear hi);obtain ⟨Ao11,co11,eo11⟩:=cL HO352.out;subst eo11;have p355:0≤(t353:Int):=bB jX;have q355:t353<(y350.length:Int):=bB jX;obtain ⟨ad355,e355,hx355_0⟩:=dL (cD HO352.out).2.2 t353 p355 q355;cases e355;replace p355:=bO p355;replace q355:=bO q355))
    go_ret;exact ⟨by first|rfl|(simp [dS,dR]<;>rfl)|(simp [*,dS,dR]<;>rfl),by repeat (first|(with_reducible first|exact HI0.out|apply IsS96.alloc|apply IsS96.drewN|apply IsS96.drew|apply IsS96.set_1)|exact HI0.out),by repeat (first|(with_reducible first|exact HB.out|apply bJ|apply bI|apply bG|refine cE ?_ (IsS96.ge HI0.out))|exact HB.out),by repeat (first|(with_reducible first|exact HK.out|apply gZ.set_|apply nI|apply nD|apply kM)|exact HK.out)⟩
   ·rw [if_neg c6] at H
    exact absurd H (by simp)
  ·rw [if_neg c5] at H
   exact absurd H (by simp)
 ·rw [if_neg c3] at H
  have c3b0:(t348==0)=false:=xP.mpr c3
  have c3b1:(t348 !=0)=true:=bne_iff_ne.mpr c3
  replace H:=Option.bind_eq_some_iff.mp H;obtain ⟨⟨t356,t357⟩,A120,H⟩:=H;(try dsimp only at H);have A12:=aK A120;clear A120;simp only [fB,Prod.mk.injEq] at H;obtain ⟨rfl,rfl⟩:=H;go_enter Try.func112,Try.ntmps112
  go_wp2_with (first|((with_reducible refine dG (f:=63) rfl ?_);refine gE (some 4) rfl rfl Try.func63 (by kernel_rfl) rfl #[.pointer (some ⟨g,0,none⟩),.int .i64 3] rfl qD ?_;(with_reducible refine (kW k g s0_0 s0_1 3 t348 t349 w0 _ ?side1 ?side2 A2.out).mono ?_);(case side1=>exact bMw);(case side2=>exact bMx);rintro e w13 ⟨rfl,hi,hb,hk⟩;refine ⟨_,rfl,?_⟩;replace HK:=aK (gZ.trans bKz hk (.inl rfl));replace HB:=aK (hb);replace HI0:=aK (hi);(try clear hb);(try clear hb2);(try clear hk);(try clear hi))|((with_reducible refine dG (f:=63) rfl ?_);refine gE (some 12) rfl rfl Try.func63 (by kernel_rfl) rfl #[.pointer (some ⟨g,0,none⟩),.int .i64 12] rfl qD ?_;(with_reducible refine (kW k g s0_0 t349 12 t356 t357 w0 _ ?side1 ?side2 A12.out).mono ?_);(case side1=>exact bMw);(case side2=>exact bMx);rintro e w14 ⟨rfl,hi,hb,hk⟩;refine ⟨_,rfl,?_⟩;replace HK:=aK (gZ.trans bKz hk (.inl rfl));replace HB:=aK (hb);replace HI0:=aK (hi);(try clear hb);(try clear hb2);(try clear hk);(try clear hi)))
  go_ret;exact ⟨by first|rfl|(simp [dS,dR]<;>rfl)|(simp [*,dS,dR]<;>rfl),by repeat (first|(with_reducible first|exact HI0.out|apply IsS96.alloc|apply IsS96.drewN|apply IsS96.drew|apply IsS96.set_1)|exact HI0.out),by repeat (first|(with_reducible first|exact HB.out|apply bJ|apply bI|apply bG|refine cE ?_ (IsS96.ge HI0.out))|exact HB.out),by repeat (first|(with_reducible first|exact HK.out|apply gZ.set_|apply nI|apply nD|apply kM)|exact HK.out)⟩
def mD:Nat→Int→Int→Bool→List Int→Int→Option (Int×Int)
  |0,_,_,_,_,_=>none
  |k+1,x1,x6,x7,x1000,x1001=>if x7=true then (some (1,x1001)) else (if x6=2 then (some (3,x1001)) else (if x6=3 then (some (4,x1001)) else ((jM k x1000 x1001 x1).bind fun bt346=>(some (wrap64 (8+bt346.1),bt346.2)))))
def tB (k:Nat) (s0_0:List Int) (s0_1:Int) (a1:Int):Option (Int×Int):=(jM k s0_0 s0_1 6).bind fun bt344=>(if bt344.1=0 then (mD k a1 bt344.1 (bt344.1==0) s0_0 bt344.2) else (mD k a1 bt344.1 (bt344.1==1) s0_0 bt344.2))
theorem bCx (k:Nat) (g:Nat) (s0_0:List Int) (s0_1:Int) (a1:Int) (r1:Int) (r2:Int) (w0 w:World) (hI:IsS96 w0 w g s0_0 s0_1) (hB:Below w0.heap.size w0 w) (h:tB k s0_0 s0_1 a1=some (r1,r2)):
  Calls Try.prog 90 #[.pointer (some ⟨g,0,none⟩),.int .i64 a1] w fun e w'=>e= .returned (.int .i64 r1)∧IsS96 w0 w' g s0_0 r2∧Below w0.heap.size w0 w'∧gZ w w' g none:=by
 have HI0:=aK hI;have HK:=aK (gZ.refl w g none);have HL:=aK hB.size;clear hI;have HW0:=aK hB.size;have HB:=aK hB;clear hB;have H:((jM k s0_0 s0_1 6).bind fun bt344=>(if bt344.1=0 then (mD k a1 bt344.1 (bt344.1==0) s0_0 bt344.2) else (mD k a1 bt344.1 (bt344.1==1) s0_0 bt344.2)))=some (r1,r2):=h
 clear h;replace H:=Option.bind_eq_some_iff.mp H;obtain ⟨⟨t344,t345⟩,A30,H⟩:=H;(try dsimp only at H);have A3:=aK A30;clear A30;have HC4:=aK H;clear H;go_enter Try.func90,Try.ntmps90
 go_upto_if 7 with (first|((with_reducible refine dG (f:=63) rfl ?_);refine gE (some 6) rfl rfl Try.func63 (by kernel_rfl) rfl #[.pointer (some ⟨g,0,none⟩),.int .i64 6] rfl qD ?_;(with_reducible refine (kW k g s0_0 s0_1 6 t344 t345 w0 _ ?side1 ?side2 A3.out).mono ?_);(case side1=>exact bMw);(case side2=>exact bMx);rintro e w5 ⟨rfl,hi,hb,hk⟩;refine ⟨_,rfl,?_⟩;replace HK:=aK (gZ.trans bKz hk (.inl rfl));replace HB:=aK (hb);replace HI0:=aK (hi);(try clear hb);(try clear hb2);(try clear hk);(try clear hi)))
 (try simp only [Act.put,dU,fY,fT])
 go_cut [7] (fun v7 wc=> ∃(kq:Nat) (x7_3:Bool),v7= .bool x7_3∧Aside0 (mD kq a1 t344 x7_3 s0_0 t345=some (r1,r2))∧Aside0 (kq≤k)∧Aside0 (IsS96 w0 wc g s0_0 t345)∧Aside0 (gZ w wc g none)∧Aside0 (Below w0.heap.size w0 wc))
 case first=>
  have H:=HC4.out;clear HC4;by_cases c6:t344=0
  ·rw [if_pos c6] at H
   have c6b0:(t344==0)=true:=zH.mpr c6
   have c6b1:(t344 !=0)=false:=bne_eq_false_iff_eq.mpr c6
   clear c6
   (first|rw [c6b0]|(simp only [mN,qN];rw [c6b0])|skip)
   have H':=aK H;clear H;go_wp2;go_meet
   case rel=>exact ⟨_,((t344==0)),nR,H',⟨by first|omega|exact bV _⟩,⟨by repeat (first|(with_reducible first|exact HI0.out|apply IsS96.alloc|apply IsS96.drewN|apply IsS96.drew|apply IsS96.set_1)|exact HI0.out)⟩,⟨by repeat (first|(with_reducible first|exact HK.out|apply gZ.set_|apply nI|apply nD|apply kM)|exact HK.out)⟩,⟨by repeat (first|(with_reducible first|exact HB.out|apply bJ|apply bI|apply bG|refine cE ?_ (IsS96.ge HI0.out))|exact HB.out)⟩⟩
  ·rw [if_neg c6] at H
   have c6b0:(t344==0)=false:=xP.mpr c6
   have c6b1:(t344 !=0)=true:=bne_iff_ne.mpr c6
   (first|rw [c6b0]|(simp only [mN,qN];rw [c6b0])|skip)
   have H':=aK H;clear H;go_wp2;go_meet
   case rel=>exact ⟨_,((t344==1)),nR,H',⟨by first|omega|exact bV _⟩,⟨by repeat (first|(with_reducible first|exact HI0.out|apply IsS96.alloc|apply IsS96.drewN|apply IsS96.drew|apply IsS96.set_1)|exact HI0.out)⟩,⟨by repeat (first|(with_reducible first|exact HK.out|apply gZ.set_|apply nI|apply nD|apply kM)|exact HK.out)⟩,⟨by repeat (first|(with_reducible first|exact HB.out|apply bJ|apply bI|apply bG|refine cE ?_ (IsS96.ge HI0.out))|exact HB.out)⟩⟩
 case rest =>
  clear HC4;(try clear p2);(try clear c6);(try clear c6b0);(try clear c6b1);obtain ⟨kq,x7_3,rfl,HA,HJ3,HI0,HK,HB⟩:=hcut
  cases kq with
  |zero=>exact absurd HA.out (by simp [mD])
  | succ kj3 =>
   have H:=HA.out;clear HA;simp only [mD] at H;by_cases c7:x7_3=true
   ·subst c7
    rw [if_pos rfl] at H;simp only [fB,Prod.mk.injEq] at H;obtain ⟨rfl,rfl⟩:=H;go_wp2;go_ret;exact ⟨by first|rfl|(simp [dS,dR]<;>rfl)|(simp [*,dS,dR]<;>rfl),by repeat (first|(with_reducible first|exact HI0.out|apply IsS96.alloc|apply IsS96.drewN|apply IsS96.drew|apply IsS96.set_1)|exact HI0.out),by repeat (first|(with_reducible first|exact HB.out|apply bJ|apply bI|apply bG|refine cE ?_ (IsS96.ge HI0.out))|exact HB.out),by repeat (first|(with_reducible first|exact HK.out|apply gZ.set_|apply nI|apply nD|apply kM)|exact HK.out)⟩
   ·replace c7 := Bool.eq_false_iff.mpr c7
    subst c7;rw [if_neg (show¬(false=true) by decide)] at H;by_cases c8:t344=2
    ·rw [if_pos c8] at H
     have c8b0:(t344==2)=true:=zH.mpr c8
     have c8b1:(t344 !=2)=false:=bne_eq_false_iff_eq.mpr c8
     clear c8;simp only [fB,Prod.mk.injEq] at H;obtain ⟨rfl,rfl⟩:=H;go_wp2;go_ret;exact ⟨by first|rfl|(simp [dS,dR]<;>rfl)|(simp [*,dS,dR]<;>rfl),by repeat (first|(with_reducible first|exact HI0.out|apply IsS96.alloc|apply IsS96.drewN|apply IsS96.drew|apply IsS96.set_1)|exact HI0.out),by repeat (first|(with_reducible first|exact HB.out|apply bJ|apply bI|apply bG|refine cE ?_ (IsS96.ge HI0.out))|exact HB.out),by repeat (first|(with_reducible first|exact HK.out|apply gZ.set_|apply nI|apply nD|apply kM)|exact HK.out)⟩
    ·rw [if_neg c8] at H
     have c8b0:(t344==2)=false:=xP.mpr c8
     have c8b1:(t344 !=2)=true:=bne_iff_ne.mpr c8
     by_cases c9:t344=3
     ·rw [if_pos c9] at H
      have c9b0:(t344==3)=true:=zH.mpr c9
      have c9b1:(t344 !=3)=false:=bne_eq_false_iff_eq.mpr c9
      clear c9;simp only [fB,Prod.mk.injEq] at H;obtain ⟨rfl,rfl⟩:=H;go_wp2;go_ret;exact ⟨by first|rfl|(simp [dS,dR]<;>rfl)|(simp [*,dS,dR]<;>rfl),by repeat (first|(with_reducible first|exact HI0.out|apply IsS96.alloc|apply IsS96.drewN|apply IsS96.drew|apply IsS96.set_1)|exact HI0.out),by repeat (first|(with_reducible first|exact HB.out|apply bJ|apply bI|apply bG|refine cE ?_ (IsS96.ge HI0.out))|exact HB.out),by repeat (first|(with_reducible first|exact HK.out|apply gZ.set_|apply nI|apply nD|apply kM)|exact HK.out)⟩
     ·rw [if_neg c9] at H
      have c9b0:(t344==3)=false:=xP.mpr c9
      have c9b1:(t344 !=3)=true:=bne_iff_ne.mpr c9
      replace H:=Option.bind_eq_some_iff.mp H;obtain ⟨⟨t346,t347⟩,A100,H⟩:=H;(try dsimp only at H);have A10:=aK A100;clear A100;simp only [fB,Prod.mk.injEq] at H;obtain ⟨rfl,rfl⟩:=H
      go_wp2_with (first|((with_reducible refine dG (f:=63) rfl ?_);refine gE (some 16) rfl rfl Try.func63 (by kernel_rfl) rfl #[.pointer (some ⟨g,0,none⟩),.int .i64 a1] rfl qD ?_;(with_reducible refine (kW kj3 g s0_0 t345 a1 t346 t347 w0 _ ?side1 ?side2 A10.out).mono ?_);(case side1=>exact bMw);(case side2=>exact bMx);rintro e w11 ⟨rfl,hi,hb,hk⟩;refine ⟨_,rfl,?_⟩;replace HK:=aK (gZ.trans bKz hk (.inl rfl));replace HB:=aK (hb);replace HI0:=aK (hi);(try clear hb);(try clear hb2);(try clear hk);(try clear hi)))
      go_ret;exact ⟨by first|rfl|(simp [dS,dR]<;>rfl)|(simp [*,dS,dR]<;>rfl),by repeat (first|(with_reducible first|exact HI0.out|apply IsS96.alloc|apply IsS96.drewN|apply IsS96.drew|apply IsS96.set_1)|exact HI0.out),by repeat (first|(with_reducible first|exact HB.out|apply bJ|apply bI|apply bG|refine cE ?_ (IsS96.ge HI0.out))|exact HB.out),by repeat (first|(with_reducible first|exact HK.out|apply gZ.set_|apply nI|apply nD|apply kM)|exact HK.out)⟩
end Go.Proofs.Ytbaklikaoleplaa.K
namespace Go.Proofs.Ytbaklikaoleplaa.Pure
open Go.RowKit Go.Proofs.Ytbaklikaoleplaa.K Go.Proofs.YtbaklikaoleplaaW.PrintWords Go.Proofs.YtbaklikaoleplaaW.PrintLast Go.Proofs.YtbaklikaoleplaaW.PrintMore
set_option linter.unusedVariables false
set_option linter.unusedSimpArgs false
abbrev Cs:=List S53
def bBn (cs:Cs) (c:Int):Int:=(cY cs c).f0
def rU (cs:Cs) (c:Int):List Int:=(cY cs c).f1
def tV (n t:Int):Bool:=decide (t=1∨t=3∨t=4∨(8≤t∧t<8+n))
def zF (cs : Cs) (i : Int) : Bool :=
  (rU cs i).all (tV cs.length)&&
    (if i=0 then decide (bBn cs 0= -1∧rU cs 0=[]) else if i=1 then decide (bBn cs 1=0∧rU cs 1=[1]) else decide ((0≤bBn cs i∧bBn cs i<i)∧(rU cs i).length≤2))
def rP (cs:Cs):Bool:=decide (2≤cs.length∧cs.length≤5)&&(List.range cs.length).all (fun i:Nat=>zF cs i)
theorem sL {cs:Cs} (h:rP cs=true):2≤cs.length∧cs.length≤5:=by
  simp only [rP,dY,dI] at h;exact h.1
theorem bKi {cs:Cs} (h:rP cs=true) {i:Int} (h0:0≤i) (h1:i<cs.length):zF cs i=true:=by
 simp only [rP,dY,dI,nY,List.mem_range] at h;have:=h.2 i.toNat (by omega)
 rwa [xS h0] at this
theorem bHs {cs:Cs} (h:rP cs=true) {i:Int} (h0:0<i) (h1:i<cs.length):0≤bBn cs i∧bBn cs i<i:=by
 have:=bKi h (i:=i) (by omega) h1
 simp only [zF,dY] at this;have h2:=this.2;rw [if_neg (by omega)] at h2;by_cases h3:i=1
 ·subst h3
  simp only [yL,dI] at h2;omega
 ·rw [if_neg h3, dI] at h2
  exact h2.1
def upN (cs:Cs):Nat→Int→Int→Bool
  |0,a,b=>decide (a=b)
  |n+1,a,b=>decide (a=b)||(decide (0<a)&&upN cs n (bBn cs a) b)
def up (cs:Cs) (a b:Int):Bool:=upN cs a.toNat a b
theorem bQt {cs:Cs} (h:rP cs=true): ∀(n:Nat) (a b:Int),0≤a→a<cs.length→a.toNat≤n→upN cs (n+1) a b=upN cs n a b
 |0,a,b,h0,h1,hn=>by
  have:a=0:=by omega
  subst this;simp [upN]
 | n + 1, a, b, h0, h1, hn => by
  have e1:upN cs (n+1+1) a b=(decide (a=b)||(decide (0<a)&&upN cs (n+1) (bBn cs a) b)):=rfl
  have e2:upN cs (n+1) a b=(decide (a=b)||(decide (0<a)&&upN cs n (bBn cs a) b)):=rfl
  rw [e1,e2];by_cases hp:0<a
  ·have hs := bHs h hp h1
   rw [bQt h n (bBn cs a) b (by omega) (by omega) (by omega)]
  ·simp [hp]
theorem cls_ind {cs:Cs} (h:rP cs=true) {P:Int→Prop} (h00:P 0) (hs: ∀a:Int,0<a→a<cs.length→P (bBn cs a)→P a): ∀a:Int,0≤a→a<cs.length→P a:=by
  suffices H: ∀(n:Nat) (a:Int),a.toNat≤n→0≤a→a<cs.length→P a from fun a h0 h1=>H a.toNat a (bV _) h0 h1
  intro n
  induction n with
  | zero => intro a hn h0 h1; have : a = 0 := by omega
            subst this;exact h00
  | succ n ih =>
    intro a hn h0 h1;by_cases hp:0<a
    · have := bHs h hp h1
      exact hs a hp h1 (ih _ (by omega) (by omega) (by omega))
    · have : a = 0 := by omega
      subst this;exact h00
theorem bSa {b:List Int} (hb: ∀x∈b,0≤x∧x≤255) (hl:b.length≤2000) {p n:Int} (hp:0≤p) (hp2:p≤900000) (hn:1≤n) (hn2:n≤1000):
  ∃t q,tV n t=true∧p≤q∧q≤p+2∧∀k,3≤k→tB k b p n=some (t,q):=by
 obtain ⟨v,v0,v1,hv⟩:=bCm hb hl hp (by omega) (show (1:Int)≤6 by omega) (by omega);obtain ⟨u,u0,u1,hu⟩:=bCm hb hl (p:=p+1) (by omega) (by omega) hn (by omega)
 have hj: ∀(x:Bool) k,2≤k→mD k n v x b (p+1)=some (if x=true then (1,p+1) else if v=2 then (3,p+1) else if v=3 then (4,p+1) else (8+u,p+2)):=fun x k hk=>by
  obtain ⟨k,rfl⟩: ∃m,k=m+1:=⟨k - 1,by omega⟩;rw [mD];by_cases c1:x=true
  ·rw [if_pos c1,if_pos c1]
  rw [if_neg c1,if_neg c1];by_cases c2:v=2
  ·rw [if_pos c2,if_pos c2]
  rw [if_neg c2,if_neg c2];by_cases c3:v=3
  ·rw [if_pos c3,if_pos c3]
  rw [if_neg c3,if_neg c3,hu k (by omega),bC,dZ (n:=8+u) (by omega) (by omega)];simp only [show p+1+1=p+2 by omega]
 have hf: ∀x:Bool,∃t q,tV n t=true∧p≤q∧q≤p+2∧(if x=true then ((1:Int),p+1) else if v=2 then (3,p+1) else if v=3 then (4,p+1) else (8+u,p+2))=(t,q):=fun x=>by
  unfold tV
  split
  ·exact ⟨1,p+1,by simp,by omega,by omega,rfl⟩
  split
  ·exact ⟨3,p+1,by simp,by omega,by omega,rfl⟩
  split
  ·exact ⟨4,p+1,by simp,by omega,by omega,rfl⟩
  ·exact ⟨8+u,p+2,by simp only [dI];omega,by omega,by omega,rfl⟩
 by_cases c0:v=0
 ·obtain ⟨t, q, h1, h2, h3, h4⟩ := hf (v == 0)
  exact ⟨t,q,h1,h2,h3,fun k hk=>by unfold tB;rw [hv k (by omega),bC,if_pos c0,hj _ k (by omega),h4]⟩
 ·obtain ⟨t, q, h1, h2, h3, h4⟩ := hf (v == 1)
  exact ⟨t,q,h1,h2,h3,fun k hk=>by unfold tB;rw [hv k (by omega),bC,if_neg c0,hj _ k (by omega),h4]⟩
end Go.Proofs.Ytbaklikaoleplaa.Pure
namespace Go.Proofs.Ytbaklikaoleplaa.K
open Go.RowKit Go.Proofs.YtbaklikaoleplaaW.PrintWords Go.Proofs.YtbaklikaoleplaaW.PrintLast Go.Proofs.YtbaklikaoleplaaW.PrintMore
attribute [local go_sem] gD gB gY gW fR fQ gC gA
set_option linter.unusedVariables false
set_option linter.unusedSimpArgs false
open Go.Proofs.Ytbaklikaoleplaa.Pure
theorem bPx (M:Int) (g:Nat) (n:Int) (w0 w:World) (h:xG M w0 w g) (hM:M≤800000) (h0:1≤n) (h1:n≤1000):
  Calls Try.prog 90 #[.pointer (some ⟨g,0,none⟩),.int .i64 n] w fun e w'=> ∃t:Int,e= .returned (.int .i64 t)∧tV n t=true∧xG (M+2) w0 w' g∧gZ w w' g none:=by
 obtain ⟨⟨b,p,hI,hl,hb,hp,hpM⟩,hB⟩:=h;obtain ⟨t,q,ht,q0,q1,hv⟩:=bSa hb hl hp (by omega) h0 h1;exact (bCx 3 g b p n t q w0 w hI hB (hv 3 (bV _))).mono fun e w' ⟨he,hi,hbb,hk⟩=>⟨t,he,ht,⟨⟨b,q,hi,hl,hb,by omega,by omega⟩,hbb⟩,hk⟩
theorem upd2 {w:World} {gb T:Nat} {x y:Value} (h:w.heap[gb]? =some (.cells #[x,y] T (0,0))) (u v:Value):((w.setCell ⟨gb,0,none⟩ u).setCell ⟨gb,1,none⟩ v).heap[gb]? =some (.cells #[u,v] T (0,0)):=
  fF (fF h 0 _ rfl) 1 _ rfl
end Go.Proofs.Ytbaklikaoleplaa.K
namespace Go.Proofs.Ytbaklikaoleplaa.Pure
open Go.RowKit Go.Proofs.Ytbaklikaoleplaa.K Go.Proofs.YtbaklikaoleplaaW.PrintWords Go.Proofs.YtbaklikaoleplaaW.PrintLast Go.Proofs.YtbaklikaoleplaaW.PrintMore
set_option linter.unusedVariables false
set_option linter.unusedSimpArgs false
def clsAt (n:Int) (x:S53) (i:Nat):Prop:=x.f1.all (tV n)=true∧x.f1.length≤2∧(if i=0 then x.f0= -1∧x.f1=[] else if i=1 then x.f0=0∧x.f1=[1] else 0≤x.f0∧x.f0<i)
def bFo (n:Int) (cs:Cs):Prop:=2≤cs.length∧∀(i:Nat) (x:S53),cs[i]? =some x→clsAt n x i
theorem bNq (n : Int) : bFo n [⟨-1, []⟩, ⟨0, [1]⟩] := by
  refine ⟨by simp,fun i x h=>?_⟩
  match i,h with
  | 0, h => obtain rfl : (⟨-1, []⟩ : S53) = x := by simpa using h
            exact ⟨rfl,by simp,rfl,rfl⟩
  | 1, h => obtain rfl : (⟨0, [1]⟩ : S53) = x := by simpa using h
            exact ⟨by simp [tV],by simp,rfl,rfl⟩
  |(i+2),h=>simp at h
theorem bLy {n:Int} {cs:Cs} (h:bFo n cs) {s:Int} {fs:List Int} (h0:0≤s) (h1:s<cs.length) (hl:fs.length≤2) (hf:fs.all (tV n)=true):bFo n (cs++[⟨s,fs⟩]):=by
 refine ⟨by have:=h.1;simp;omega,fun i x hx=>?_⟩;rw [List.getElem?_append] at hx
 split at hx
 ·exact h.2 i x hx
 ·next hi =>
  have:i - cs.length=0:=by
   have:=(fH.1 hx).1
   simp at this;omega
  rw [this] at hx;obtain rfl:(⟨s,fs⟩:S53)=x:=by simpa using hx
  have:=h.1
  exact ⟨hf,hl,by rw [if_neg (by omega),if_neg (by omega)];exact ⟨h0,by show s<_;omega⟩⟩
theorem rdC_at {cs:Cs} {i:Nat} (h:i<cs.length):cs[i]? =some (cY cs (i:Int)):=by
  unfold cY;rw [dF,bP,bT h];rfl
theorem bPu {n:Int} {cs:Cs} (h:bFo n cs) (hn:(cs.length:Int)=n) (h5:n≤5):rP cs=true:=by
 unfold rP;rw [dY,dI,nY];have h2:=h.1;refine ⟨by omega,fun i hi=>?_⟩;rw [List.mem_range] at hi;obtain ⟨k1,k2,k3⟩:=h.2 i _ (rdC_at hi);unfold zF rU bBn;rw [dY,hn];refine ⟨k1,?_⟩;by_cases c0:i=0
 ·subst c0
  rw [if_pos rfl] at k3;rw [if_pos (by rfl),dI];exact k3
 rw [if_neg c0] at k3;rw [if_neg (by omega)];by_cases c1:i=1
 ·subst c1
  rw [if_pos rfl] at k3;rw [if_pos (by rfl),dI];exact k3
 rw [if_neg c1] at k3;rw [if_neg (by omega),dI];exact ⟨k3,k2⟩
theorem bNr {n:Int} {cs:Cs} (h:bFo n cs): ∀x∈cs,x.f1.length≤2:=by
 intro x hx;obtain ⟨i,hi,rfl⟩:=qX hx;exact (h.2 i _ (bT hi)).2.1
end Go.Proofs.Ytbaklikaoleplaa.Pure
namespace Go.Proofs.Ytbaklikaoleplaa.K
open Go.RowKit Go.Proofs.YtbaklikaoleplaaW.PrintWords Go.Proofs.YtbaklikaoleplaaW.PrintLast Go.Proofs.YtbaklikaoleplaaW.PrintMore
attribute [local go_sem] gD gB gY gW fR fQ gC gA
set_option linter.unusedVariables false
set_option linter.unusedSimpArgs false
open Go.Proofs.Ytbaklikaoleplaa.Pure
theorem bSk {α:Type} {d:Kd α} {e base:Nat} {ok:Nat→Prop} {w w1:World} {v:Value} {xs:List α} {row:Option Nat} (h:Kd.S d e w base ok v xs) (hg:w.grownBy w1 row) (hne: ∀k,ok k→some k≠row):Kd.S d e w1 base ok v xs:=by
  obtain ⟨f,hR⟩:=h;exact ⟨f,Kd.R_grown hR hg hne⟩
theorem bGf (M : Int) (g : Nat) (w0 w : World) (h : xG M w0 w g) (hM : M ≤ 700000) :
    Calls Try.prog 61 #[.pointer (some ⟨g,0,none⟩)] w fun e w'=> ∃(v:Value) (cs:Cs),e= .returned v∧(rP cs=true∧∀x∈cs,x.f1.length≤2)∧Kd.S tU 53 w' w.heap.size (fun _=>True) v cs∧xG (M+40) w0 w' g∧gZ w w' g none:=by
  obtain ⟨b0,hb0⟩: ∃b,b=w.heap.size:=⟨_,rfl⟩;have HG:=aK (show g<b0 by rw [hb0];exact h.lt);have HG0:=aK (show w0.heap.size≤b0 by have:=h.ge;have:=HG.out;omega);have HBW:=aK hb0;rw [←hb0];have HI:=aK h;have HM:=aK hM;clear h hb0 hM;go_enter Try.func61,Try.ntmps61
  go_wp2_with fail
  go_at_call 63;refine (jF _ g 4 w0 _ HI.out zM (by omega) (by omega)).mono ?_;rintro e w1 ⟨v,rfl,hv,hi,hk⟩;have HI1:=aK hi;have HK1:=aK (gZ.trans (gZ.refl w g none) hk (.inl rfl));clear hi hk HI;obtain ⟨n,hn⟩: ∃n,n=2+v:=⟨_,rfl⟩;have q1:IntKind.i64.wrap (2+v)=n:=by rw [hn];exact dD _ ⟨by omega,by omega⟩
  have HN:=aK (show 2≤n∧n≤5 by omega);clear hn hv
  go_wp2_with (first|((with_reducible refine dK (N:=12) rfl ?_);refine yI (Kd.int .i64) _ 3 ?hg (N:=12) ?hd (xs:=([1]:List Int)) (inner:=[.int .i64 1]) (ok:=fun _=>True) (okp:=fun _=>True) ?hr ?hp (fun _ hk=>hk) dT (bH _ _) (bV _) (by simp) ?_;(case hd=>rfl);(case hg=>rfl);(case hr=>first|(go_simp;done)|(go_simp;rfl));(case hp=>exact (pP.one (show Kd.M (Kd.int .i64) _ _ _ 1 [.int .i64 1] from rfl) (pP.none _ _)));intro v1 w2 ho hb hg_ hnew_;have HR:=aK (dE ho (show b0≤w1.heap.size by rw [HBW.out];exact tT HK1.out));have HI2:=aK (HI1.out.below hb);have HK2:=aK (gZ.trans HK1.out (gZ.of_below hb g none) (.inl rfl));clear ho hb hg_ hnew_ HI1 HK1;obtain ⟨Ao,co,eo⟩:=cL HR.out;subst eo)|((with_reducible refine dK (N:=14) rfl ?_);refine Kd.S_lits tU b0 53 ?hg (N:=14) ?hd (xs:=([(⟨(-1),([]:List Int)⟩:S53),(⟨0,[1]⟩:S53)]:List S53)) (inner:=[.int .i64 (-1),.slice none 0 0,.int .i64 0,.slice Ao ([1]:List Int).length co]) (ok:=fun k_=>b0≤k_) (fun j_ k_=>j_=1∧some k_=(Value.slice Ao ([1]:List Int).length co).ownBlock) ?hr rfl ?hp (fun i_ j_ k_ h1_ h2_=>h1_.1.trans h2_.1.symm) (fun j_ k_ h_=>nN HR.out k_ h_.2.symm) (by rw [HBW.out];exact tT HK2.out) (bH _ _) (by rw [HBW.out];exact tT HK2.out) (by simp) ?_;(case hd=>rfl);(case hg=>rfl);(case hr=>first|(go_simp;done)|(go_simp;rfl));(case hp=>intro j x hx;match j,hx with|0,hx=>(obtain rfl:(⟨-1,[]⟩:S53)=x:=(by simpa using hx);exact bAv _ _ _ (⟨-1,[]⟩:S53) (mI _ _ _ _ _))|1,hx=>(obtain rfl:(⟨0,[1]⟩:S53)=x:=(by simpa using hx);exact bAv _ _ _ (⟨0,[1]⟩:S53) (cI (Kd.R_tight rfl HR.out) (fun k_ hk_=>⟨rfl,hk_⟩)))|(j+2),hx=>simp at hx);intro v2 w3 ho hb hg_ hnew_;have HS:=aK ho;have hb2:=bHh (bH w2.heap.size w2) none (bV _) hg_ (by simp);have HI3:=aK (HI2.out.below hb2);have HK3:=aK (gZ.trans HK2.out (gZ.of_below hb2 g none) (.inl rfl));clear ho hb hg_ hnew_ hb2 HI2 HK2 HR))
  go_loopw [4,5] (fun v4 v5 wr=> ∃cs:Cs,v5= .int .i64 (cs.length:Int)∧Aside0 (bFo n cs)∧Aside0 ((cs.length:Int)≤n)∧Aside0 (Kd.S tU 53 wr b0 (fun k_=>b0≤k_) v4 cs)∧Aside0 (xG (M+1+6*cs.length) w0 wr g)∧Aside0 (gZ w wr g none)) (fun _ v5 _=>(n - intOf v5).toNat)
  case atStart=>exact ⟨_,rfl,⟨bNq n⟩,⟨by have:=HN.out;simp;omega⟩,HS,⟨HI3.out.le (by simp;omega)⟩,HK3⟩
  case round=>
    clear HS HI3 HK3;obtain ⟨cs,rfl,HGo,HLe,HS,HI,HK⟩:=hrel;by_cases c:(cs.length:Int)<n
    · have d0 : decide ((cs.length : Int) < n) = true := bD c
      have h2:=HGo.out.1;have hN:=HN.out;have HC:=aK (show 2≤cs.length∧(cs.length:Int)<n∧n≤5 by omega);clear h2 hN c HLe
      go_wp2_with fail
      go_at_call 63;refine (jF _ g cs.length w0 _ HI.out (by have:=HM.out;have:=HC.out;omega) (by have:=HC.out;omega) (by have:=HC.out;omega)).mono ?_;rintro e w1 ⟨s,rfl,hs,hi,hk⟩;have HI1:=aK hi;have HK1:=aK (gZ.trans HK.out hk (.inl rfl));have HS1:=aK (Kd.S_keep HS.out hk (fun k_ hk_=>by have:=HG.out;omega));have Hs:=aK hs;have HZ1:=aK (show b0≤w1.heap.size by rw [HBW.out];exact tT HK1.out);clear hi hk hs HI HK HS
      go_wp2_with (first|((with_reducible refine dK (N:=6) rfl ?_);refine dM ?hg (N:=6) ?hd (cs:= #[.int .i64 0,.slice none 0 0]) (t:=53) ?hr ?_;(case hd=>rfl);(case hg=>rfl);(case hr=>first|(go_simp;done)|(go_simp;rfl));intro gb hg w2 hbox hb;have HS2:=aK (show Kd.S tU 53 w2 b0 (fun k_=>b0≤k_∧k_<gb) u4 cs from Kd.S_below (Kd.S_mono (Kd.S_bound HS1.out) (fun k_ hk_=>⟨hk_.1,by rw [hg];exact hk_.2.2.1⟩)) hb);have HI2:=aK (HI1.out.below hb);have HK2:=aK (gZ.trans HK1.out (gZ.of_below hb g none) (.inl rfl));have BK:=aK hbox;have HGB:=aK (show b0≤gb by rw [hg];exact HZ1.out);clear hb hbox hg HS1 HI1 HK1 HZ1;have c0:=(bA BK.out 0).trans rfl;have c1:=(bA BK.out 1).trans rfl;have f0:=bL BK.out 0;have f1:=bL BK.out 1)|(go_at_call 63;refine (jF _ g 3 w0 _ (xG.far (xG.far HI2.out (p:=⟨gb,0,none⟩) (by have:=HG.out;have:=HGB.out;show g≠gb;omega) (by have:=HG0.out;have:=HGB.out;show _≤gb;omega) _) (p:=⟨gb,1,none⟩) (by have:=HG.out;have:=HGB.out;show g≠gb;omega) (by have:=HG0.out;have:=HGB.out;show _≤gb;omega) _) (by have:=HM.out;have:=HC.out;omega) (by omega) (by omega)).mono ?_;rintro e w3 ⟨k0,rfl,hk0,hi,hk⟩;have BK3:=aK (gZ.blk hk (upd2 BK.out _ _) (by have:=HG.out;have:=HGB.out;omega) (by simp));have HS3:=aK (Kd.S_keep (Kd.S_far (Kd.S_far HS2.out (p:=⟨gb,0,none⟩) (fun k_ hk_=>by show k_≠gb;omega) _) (p:=⟨gb,1,none⟩) (fun k_ hk_=>by show k_≠gb;omega) _) hk (fun k_ hk_=>by have:=HG.out;omega));have HI3:=aK hi;have HK3:=aK (gZ.trans (yY (yY HK2.out (p:=⟨gb,0,none⟩) (by rw [←HBW.out];exact HGB.out) _) (p:=⟨gb,1,none⟩) (by rw [←HBW.out];exact HGB.out) _) hk (.inl rfl));have Hk0:=aK hk0;have HW3:=aK (show gb<w3.heap.size from dN BK3.out);clear hi hk hk0 BK HS2 HI2 HK2 c0 c1 f0 f1))
      have RV:=aK (show Kd.R (Kd.int .i64) 3 w3 (gb+1) (fun k_=>gb<k_) (.slice none 0 0) [] from mI _ _ _ _ _)
      go_loopw [7] (fun v7 wi=> ∃(x:Int) (fs:List Int) (u:Value),v7= .int .i64 x∧Aside0 (0≤x∧x+fs.length≤2)∧Aside0 (fs.all (tV n)=true)∧Aside0 (wi.heap[gb]? =some (.cells #[.int .i64 s,u] 53 (0,0)))∧Aside0 (Kd.R (Kd.int .i64) 3 wi (gb+1) (fun k_=>gb<k_) u fs)∧Aside0 (Kd.S tU 53 wi b0 (fun k_=>b0≤k_∧k_<gb) u4 cs)∧Aside0 (xG (M+1+6*cs.length+2+2*fs.length) w0 wi g)∧Aside0 (gZ w wi g none)∧Aside0 (gb<wi.heap.size)) (fun v7 _=>(intOf v7).toNat)
      case atStart=>exact ⟨k0,[],_,rfl,⟨by have:=Hk0.out;simp;omega⟩,⟨rfl⟩,BK3,RV,HS3,⟨HI3.out.le (by simp;omega)⟩,HK3,HW3⟩
      case round=>
      clear RV BK3 HS3 HI3 HK3 HW3 Hk0;obtain ⟨x,fs,u,rfl,HX,HF,BK,RV,HS,HI,HK,HW⟩:=hrel;by_cases c2:0<x
      · have d1 : decide (0 < x) = true := bD c2
        have HX2:=aK (show 0<x∧x+fs.length≤2 by have:=HX.out;omega);have q2:IntKind.i64.wrap (x - 1)=x - 1:=dD _ (by have:=HX.out;omega)
        clear c2 HX;go_wp2;replace BK:=aK (bY BK.out);replace RV:=aK (dC RV.out);replace HS:=aK (Kd.S_drew HS.out);replace HI:=aK HI.out.drew;replace HK:=aK (nD HK.out);replace HW:=aK (show gb<wr.drew.heap.size from HW.out);refine sT 9 (S:=fun w'=>w'.cell? ⟨gb,1,none⟩=some (u)) (ds:=[8]) (((bA BK.out 1).trans rfl)) (fun hHeld=>?_);generalize wr.drew=w4 at BK RV HS HI HK HW hHeld ⊢;refine pS 0 30 #[true,false,false,false,false,false,false,false,false] ?_;refine pS 2 32 #[true,false,true,false,false,false,false,false,false] ?_;refine pS 3 33 #[true,false,true,true,false,false,false,false,false] ?_;refine tS 1 31 #[true,true,true,true,false,false,false,false,false] rfl rfl (by kernel_rfl) hHeld (by intro w' s0;go_simp;with_reducible rfl) ?_;refine oS 4 34 #[true,true,true,true,true,false,false,false,false] rfl rfl (fun K hK=>?_);refine gO Try.func90 #[.pointer (some ⟨g,0,none⟩),.int .i64 n] ?_;(with_reducible refine (bPx _ g n w0 _ HI.out (by have:=HM.out;have:=HC.out;have:=HX2.out;omega) (by have:=HC.out;omega) (by have:=HC.out;omega)).mono ?_);rintro e w5 ⟨t,rfl,ht,hi,hk⟩;refine ⟨_,rfl,?_⟩;have BK5:=aK (gZ.blk hk BK.out (by have:=HG.out;have:=HGB.out;omega) (by simp));have R5:=aK (Kd.R_keep RV.out hk (fun k_ hk_=>by have:=HG.out;have:=HGB.out;omega));have HS5:=aK (Kd.S_keep HS.out hk (fun k_ hk_=>by have:=HG.out;omega));have HI5:=aK hi;have HK5:=aK (gZ.trans HK.out hk (.inl rfl));have HW5:=aK (show gb<w5.heap.size from dN BK5.out);have Ht:=aK ht;clear hi hk ht BK RV HS HI HK HW;refine hK.out _ _ (((bA BK5.out 1).trans rfl)) (fun hHeld=>?_);clear hK K;refine nS 34 ?_;refine pD (i:=5) (N:=some 35) #[true,true,true,true,true,true,false,false,false] rfl rfl (by kernel_rfl) (by decide) (fun K hK=>?_);refine rH (w1:=?_) (v:=?_) (by rfl) rfl ?_ ?_;rotate_left 2
        · go_simp
          constructor
          · rfl
          · rfl
        refine hK.out _ _ (((bA (bQ BK5.out _) 1).trans rfl)) (fun hHeld=>?_);clear hK K;refine nS 35 ?_;refine pD (i:=6) (N:=some 36) #[true,true,true,true,true,true,true,false,false] rfl rfl (by kernel_rfl) (by decide) (fun K hK=>?_);refine Kd.R_append_step (Kd.int .i64) (gb+1) (by rfl) (.tmp 31) (.tmp 35) 23 3 (.int .i64 0) 8 rfl Try.underlying23 qT rfl (by decide) (by omega) u fs t [.int .i64 t] (fun k_=>gb<k_) (fun _=>False) rfl rfl ?aP (fun _ hk=>hk.elim) ?aF ?aO (bH _ _) ?aS ?aL ?_
        (case aP=>exact rfl)
        (case aF=>exact fun k_ hk_=>by have:=HW5.out;omega)
        (case aO=>exact R5.out)
        (case aS=>have:=HW5.out;omega)
        (case aL=>have:=HX2.out;omega)
        intro v6 w6 ho hbn hgr hat;have BK6:=aK (nE BK5.out hgr (fun e_=>by have:=R5.out.1 gb e_.symm;omega));obtain ⟨AN,cN,eN⟩:=cL ho;subst eN;have R6:=aK ho;have HS6:=aK (bSk HS5.out hgr (fun k_ hk_ e_=>by have:=R5.out.1 k_ e_.symm;omega));have HI6:=aK (HI5.out.grown hgr (fun e_=>by have:=R5.out.1 g e_.symm;have:=HG.out;have:=HGB.out;omega) (fun k_ e_=>by have:=R5.out.1 k_ e_;have:=HG0.out;have:=HGB.out;omega));have HK6:=aK (gZ.trans HK5.out (gZ.of_grown hgr g) (by rw [←HBW.out];exact Kd.R_base2 (dE R5.out (by have:=HGB.out;omega))));have HW6:=aK (show gb<w6.heap.size from dN BK6.out);have o6:=(bA BK6.out 1).trans rfl;have y6:=bL BK6.out 1;clear ho hbn hgr hat BK5 R5 HS5 HI5 HK5 HW5;refine hK.out _ _ (((bA BK6.out 1).trans rfl)) (fun hHeld=>?_);clear hK K;refine nS 36 ?_;refine pS 7 37 #[true,true,true,true,true,true,true,true,false] ?_;refine qL (i:=8) (N:=none) #[true,true,true,true,true,true,true,true,true] rfl rfl (by kernel_rfl) (by decide) (fun K hK=>?_);refine vN (w1:=?_) (by rfl) rfl ?_ ?_;rotate_left
        · go_simp
          rfl
        refine hK.out _ _ ?_;clear hK K;refine gT (by kernel_rfl) ?_;go_wp2
        go_roundw
        case rel=>exact ⟨x - 1,fs++[t],_,rfl,⟨by have:=HX2.out;simp;omega⟩,⟨by rw [List.all_append,HF.out];simpa using Ht.out⟩,⟨fF BK6.out 1 _ rfl⟩,⟨by rw [show fs.length+1=(fs++[t]).length by simp];exact jA (p:=⟨gb,1,none⟩) R6.out (fun k_ hk_=>by show k_≠gb;omega) _⟩,⟨Kd.S_far (p:=⟨gb,1,none⟩) HS6.out (fun k_ hk_=>by show k_≠gb;omega) _⟩,⟨(xG.far HI6.out (p:=⟨gb,1,none⟩) (by have:=HG.out;have:=HGB.out;show g≠gb;omega) (by have:=HG0.out;have:=HGB.out;show _≤gb;omega) _).le (by simp;omega)⟩,⟨yY HK6.out (p:=⟨gb,1,none⟩) (by rw [←HBW.out];exact HGB.out) _⟩,⟨by have:=HW6.out;simpa using this⟩⟩
        case measure=>have:=HX2.out;simp only [intOf];omega
      · have d1 : decide (0 < x) = false := bM c2
        obtain ⟨AV,cV,rfl⟩:=cL RV.out;have o0:=(bA BK.out 0).trans rfl;have o1:=(bA BK.out 1).trans rfl;clear c2
        go_wp2_with ((with_reducible refine jK (b:= .append) (xs:= #[.tmp 38,.tmp 40]) rfl ?_);at_builtin;refine Kd.S_append tU (w0:=wr) b0 rfl (.tmp 38) (.tmp 40) 32 53 (.agg #[(.int .i64 0),(.slice none 0 0)]) 32 rfl Try.underlying32 bRw rfl (by decide) (by omega) u4 cs (⟨s,fs⟩:S53) [.int .i64 s,.slice AV fs.length cV] (fun k_=>b0≤k_) (fun k_=>gb<k_) rfl (by first|rfl|(go_simp;done)|(go_simp;rfl)) ?aP ?aK ?aF ?aO ?aB ?aS ?aL ?_;(case aP=>exact bAv _ _ _ (⟨s,fs⟩:S53) (dE RV.out (by have:=HGB.out;omega)));(case aK=>exact fun k_ hk_=>⟨by have:=HGB.out;omega,fun e_=>by have:=(Kd.S_R HS.out).1 k_ e_.symm;omega⟩);(case aF=>exact fun k_ hk_=>by have:=HW.out;have:=HGB.out;omega);(case aO=>exact Kd.S_mono HS.out (fun k_ hk_=>⟨hk_.1,by omega⟩));(case aB=>exact bH _ _);(case aS=>have:=HW.out;have:=HGB.out;omega);(case aL=>have:=HC.out;omega);intro v9 w9 ho hbn hgr hat;have HS9:=aK ho;have HI9:=aK (HI.out.grown hgr (fun e_=>by have:=Kd.S_base HS.out g e_.symm;have:=HG.out;omega) (fun k_ e_=>by have:=Kd.S_base HS.out k_ e_;have:=HG0.out;omega));have HK9:=aK (gZ.trans HK.out (gZ.of_grown hgr g) (by rw [←HBW.out];exact Kd.S_base2 HS.out));clear ho hbn hgr hat o0 o1)
        have q3:wrap64 ((cs.length:Int)+1)=((cs++[(⟨s,fs⟩:S53)]).length:Int):=by have:=HC.out;unfold wrap64;simp;omega
        go_roundw
        case rel=>exact ⟨cs++[⟨s,fs⟩],by rw [q3],⟨bLy HGo.out Hs.out.1 Hs.out.2 (by have:=HX.out;omega) HF.out⟩,⟨by have:=HC.out;simp;omega⟩,HS9,⟨HI9.out.le (by have:=HX.out;simp;omega)⟩,HK9⟩
        case measure=>rw [q3];have:=HC.out;simp only [intOf];simp;omega
    · have d0 : decide ((cs.length : Int) < n) = false := bM c
      have hle:=HLe.out;have HE:=aK (show (cs.length:Int)=n by omega);clear c hle;go_wp2;go_ret;exact ⟨u4,cs,rfl,⟨bPu HGo.out HE.out (by have:=HN.out;omega),bNr HGo.out⟩,Kd.S_mono HS.out (fun _ _=>trivial),HI.out.le (by have:=HE.out;have:=HN.out;omega),HK.out⟩
end Go.Proofs.Ytbaklikaoleplaa.K
namespace Go.Proofs.Ytbaklikaoleplaa.K
open Go.RowKit Go.Proofs.YtbaklikaoleplaaW.PrintWords Go.Proofs.YtbaklikaoleplaaW.PrintLast Go.Proofs.YtbaklikaoleplaaW.PrintMore
attribute [local go_sem] gD gB gY gW fR fQ gC gA
set_option linter.unusedVariables false
set_option linter.unusedSimpArgs false
def mW (a0:Int):Option (Int):=some (wrap64 (Int.tdiv (wrap64 ((wrap64 (a0+4)) - 1)) 4))
theorem sR (a0:Int) (r:Int) (w:World) (h:mW a0=some r):
  Calls Try.prog 103 #[.int .i64 a0] w fun e w'=>e= .returned (.int .i64 r)∧Drawn0 w w':=by
 have H:(some (wrap64 (Int.tdiv (wrap64 ((wrap64 (a0+4)) - 1)) 4)))=some r:=h
 clear h;obtain rfl:=bE H;go_enter Try.func103,Try.ntmps103;go_wp2;go_ret;exact ⟨nR,sF⟩
def fK (a0:Int) (a1:Int) (a2:Int):Option (Bool):=if a0≥a1 then (some (decide (a0≤a2))) else (some false)
theorem cZ (a0:Int) (a1:Int) (a2:Int) (r:Bool) (w:World) (h:fK a0 a1 a2=some r):
  Calls Try.prog 73 #[.int .i64 a0,.int .i64 a1,.int .i64 a2] w fun e w'=>e= .returned (.bool r)∧Drawn0 w w':=by
 have H:(if a0≥a1 then (some (decide (a0≤a2))) else (some false))=some r:=h
 clear h;by_cases c4:a0≥a1
 ·rw [if_pos c4] at H
  have c4b0:decide (a1≤a0)=true:=bD c4
  clear c4;obtain rfl:=bE H;go_enter Try.func73,Try.ntmps73;go_wp2;go_ret;exact ⟨nR,sF⟩
 ·rw [if_neg c4] at H
  have c4b0:decide (a1≤a0)=false:=bM c4
  clear c4;obtain rfl:=bE H;go_enter Try.func73,Try.ntmps73;go_wp2;go_ret;exact ⟨nR,sF⟩
def vY (a0:Int) (a1:Int):Option (List Int×Int×Int×Int×List Bool):=(fK a0 0 40).bind fun t359=>(if t359=true then ((fK a1 14 120).bind fun t360=>(if t360=true then (if 0≤(wrap64 (a0+a1)) then (if (wrap64 (a0+a1):Int).toNat≤35184372088832 then ((mW a1).bind fun t364=>(if 0≤t364 then (if (t364:Int).toNat≤281474976710656 then (some ((List.replicate (wrap64 (a0+a1):Int).toNat 0),a0,0,a0,(List.replicate (t364:Int).toNat false))) else (none)) else (none))) else (none)) else (none)) else (some (([]:List Int),0,0,0,([]:List Bool))))) else (some (([]:List Int),0,0,0,([]:List Bool))))
def spec_MemNew.T3:Bool×List (List Nat×List Nat):=(true,[([],[]),([],[]),([0,1],[0,1]),([2,2],[2]),([],[]),([],[]),([],[]),([6],[6]),([7,7],[7]),([3,4,5,8],[3,4,5,8]),([9,7,0,1,2,3,4,5,6,7,8,9],[9])])
def spec_MemNew.B3:List Nat:=[0,0,3,7,0,0,0,64,192,511,1023]
theorem bFg:vF .any (bLl Try.f91 3)=spec_MemNew.T3:=by kernel_rfl
theorem bEn:xY spec_MemNew.T3.2 spec_MemNew.B3=true:=by kernel_rfl
theorem bEm (a0 : Int) (a1 : Int) (r1 : List Int) (r2 : Int) (r3 : Int) (r4 : Int) (r5 : List Bool) (w : World) (h : vY a0 a1 = some (r1, r2, r3, r4, r5)) :
  Calls Try.prog 91 #[.int .i64 a0,.int .i64 a1] w fun e w'=> ∃v0_ v4_:Value,e= .returned (.agg #[v0_,.int .i64 r2,.int .i64 r3,.int .i64 r4,v4_])∧Kd.R (Kd.int .i64) 3 w' w.heap.size (fun _=>True) v0_ r1∧Kd.R Kd.bool 4 w' w.heap.size (fun _=>True) v4_ r5∧Below w.heap.size w w':=by
 have hu29:=Try.underlying29;have HB:=aK (bH w.heap.size w);have H:((fK a0 0 40).bind fun t359=>(if t359=true then ((fK a1 14 120).bind fun t360=>(if t360=true then (if 0≤(wrap64 (a0+a1)) then (if (wrap64 (a0+a1):Int).toNat≤35184372088832 then ((mW a1).bind fun t364=>(if 0≤t364 then (if (t364:Int).toNat≤281474976710656 then (some ((List.replicate (wrap64 (a0+a1):Int).toNat 0),a0,0,a0,(List.replicate (t364:Int).toNat false))) else (none)) else (none))) else (none)) else (none)) else (some (([]:List Int),0,0,0,([]:List Bool))))) else (some (([]:List Int),0,0,0,([]:List Bool)))))=some (r1,r2,r3,r4,r5):=h
 clear h;replace H:=Option.bind_eq_some_iff.mp H;obtain ⟨t359,A30,H⟩:=H;(try dsimp only at H);have A3:=aK A30;clear A30;by_cases c4:t359=true
 ·subst c4
  rw [if_pos rfl] at H;replace H:=Option.bind_eq_some_iff.mp H;obtain ⟨t360,A50,H⟩:=H;(try dsimp only at H);have A5:=aK A50;clear A50;by_cases c6:t360=true
  ·subst c6
   rw [if_pos rfl] at H;obtain ⟨ji7,hji7⟩: ∃j_:Int,(wrap64 (a0+a1))=j_:=⟨_,rfl⟩;replace H:(if 0≤(ji7) then (if (ji7:Int).toNat≤35184372088832 then ((mW a1).bind fun t364=>(if 0≤t364 then (if (t364:Int).toNat≤281474976710656 then (some ((List.replicate (ji7:Int).toNat 0),a0,0,a0,(List.replicate (t364:Int).toNat false))) else (none)) else (none))) else (none)) else (none))=some (r1,r2,r3,r4,r5):=by first|(rw [hji7] at H;exact H)|(simp only [hji7] at H ⊢;exact H)
   (try rw [hji7] at A3)
   (try rw [hji7] at A5)
   have hji7w:(IntKind.i64.wrap (a0+a1))=ji7:=(mN _).trans hji7
   by_cases c8:0≤(ji7)
   ·rw [if_pos c8] at H
    have c8b0:=bO c8;have c8b1:decide (0≤(ji7))=true:=bD c8
    clear c8;by_cases c9:(ji7:Int).toNat≤35184372088832
    ·rw [if_pos c9] at H
     have c9b0:=bO c9;have c9b1:decide ((ji7:Int).toNat≤35184372088832)=true:=bD c9
     clear c9;obtain ⟨y361,hy361⟩: ∃y_:List Int,y_=(List.replicate (ji7:Int).toNat 0):=⟨_,rfl⟩;replace H:((mW a1).bind fun t364=>(if 0≤t364 then (if (t364:Int).toNat≤281474976710656 then (some (y361,a0,0,a0,(List.replicate (t364:Int).toNat false))) else (none)) else (none)))=some (r1,r2,r3,r4,r5):=by first|(rw [hy361];with_reducible exact H)|(have H2_:=(bC _ _).symm.trans H;rw [hy361];with_reducible exact H2_)|(have H2_:=(bC _ _).symm.trans H;with_reducible exact H2_)|with_reducible exact H|(rw [hy361];exact H)|exact H
     have Ny361:=aK hy361;clear hy361;replace H:=Option.bind_eq_some_iff.mp H;obtain ⟨t364,A100,H⟩:=H;(try dsimp only at H);have A10:=aK A100;clear A100;by_cases c11:0≤t364
     ·rw [if_pos c11] at H
      have c11b0:=bO c11;have c11b1:decide (0≤t364)=true:=bD c11
      clear c11;by_cases c12:(t364:Int).toNat≤281474976710656
      ·rw [if_pos c12] at H
       have c12b0:=bO c12;have c12b1:decide ((t364:Int).toNat≤281474976710656)=true:=bD c12
       clear c12;obtain ⟨y365,hy365⟩: ∃y_:List Bool,y_=(List.replicate (t364:Int).toNat false):=⟨_,rfl⟩;replace H:(some (y361,a0,0,a0,y365))=some (r1,r2,r3,r4,r5):=by first|(rw [hy365];with_reducible exact H)|(have H2_:=(bC _ _).symm.trans H;rw [hy365];with_reducible exact H2_)|(have H2_:=(bC _ _).symm.trans H;with_reducible exact H2_)|with_reducible exact H|(rw [hy365];exact H)|exact H
       have Ny365:=aK hy365;clear hy365;simp only [fB,Prod.mk.injEq] at H;obtain ⟨rfl,rfl,rfl,rfl,rfl⟩:=H;go_enter Try.func91,Try.ntmps91;try go_wp2_with (first|((with_reducible refine dK (N:=4) rfl ?_);refine dM ?hg (N:=4) ?hd (cs:= #[.slice none 0 0,.int .i64 0,.int .i64 0,.int .i64 0,.slice none 0 0]) (t:=29) ?hr ?_;(case hd=>rfl);(case hg=>rfl);(case hr=>first|(go_simp;done)|(go_simp;rfl));intro gb358 hg w13 hbox hb;have BK358:=aK (hbox);have GW358:=aK ((by rw [hg];exact (bW nQ):w.heap.size≤gb358));have GE358:=aK ((by rw [hg];exact (bW nQ):w.heap.size≤gb358));replace HB:=aK (bK nQ hb);clear hb hbox hg)|((with_reducible refine dG (f:=73) rfl ?_);refine gE (some 6) rfl rfl Try.func73 (by kernel_rfl) rfl #[.int .i64 a0,.int .i64 0,.int .i64 40] rfl qD ?_;(with_reducible refine (cZ a0 0 40 true _ A3.out).mono ?_);rintro e w' ⟨rfl,⟨nd,rfl⟩⟩;refine ⟨_,rfl,?_⟩;(try (rw [zD w13];generalize hq_:World.drewN w13 _=w13;have n0_:Aside0 (w13.heap[gb358]? =some (.cells #[.slice none 0 0,.int .i64 0,.int .i64 0,.int .i64 0,.slice none 0 0] 29 (0,0))):=⟨by rw [←hq_];exact bEf⟩;have n1_:Aside0 (Below w.heap.size w w13):=⟨by rw [←hq_];exact bIn⟩;clear BK358 HB hq_;have BK358:=n0_;have HB:=n1_;clear n0_ n1_)))|(go_at_call 73;(with_reducible refine (cZ a1 14 120 true _ A5.out).mono ?_);rintro e w' ⟨rfl,⟨nd,rfl⟩⟩;(try (rw [zD w13];generalize hq_:World.drewN w13 _=w13;have n0_:Aside0 (w13.heap[gb358]? =some (.cells #[.slice none 0 0,.int .i64 0,.int .i64 0,.int .i64 0,.slice none 0 0] 29 (0,0))):=⟨by rw [←hq_];exact bEf⟩;have n1_:Aside0 (Below w.heap.size w w13):=⟨by rw [←hq_];exact bIn⟩;clear BK358 HB hq_;have BK358:=n0_;have HB:=n1_;clear n0_ n1_))))
       have n0_:=aK (bY BK358.out);have n1_:=aK (bG HB.out);clear BK358;clear HB;have BK358:=n0_;have HB:=n1_;clear n0_ n1_;refine sT 11 (S:=fun w'=>True) (ds:=[]) dT (fun hHeld=>?_);refine qZ bFg bEn (fun HT_ HW_=>?_);generalize w13.drew=w14 at BK358 HB hHeld ⊢;refine pT 0 14 #[true,false,false,false,false,false,false,false,false,false,false] HT_ ?_;refine pT 1 15 #[true,true,false,false,false,false,false,false,false,false,false] HT_ ?_;refine pT 2 16 #[true,true,true,false,false,false,false,false,false,false,false] HT_ ?_;refine pT 4 18 #[true,true,true,false,true,false,false,false,false,false,false] HT_ ?_;refine pT 5 19 #[true,true,true,false,true,true,false,false,false,false,false] HT_ ?_;refine pT 6 20 #[true,true,true,false,true,true,true,false,false,false,false] HT_ ?_;refine bJi (σ:=Value×Value) 2 #[true,true,true,true,true,true,true,true,true,false,false] (fun s_=>[(17,s_.1),(21,.int .i64 t364),(22,s_.2)]) (fun s_ w'=>(Kd.R (Kd.int .i64) 3 w' w.heap.size (fun _=>True) s_.1 y361)∧(Kd.R Kd.bool 4 w' w.heap.size (fun _=>True) s_.2 y365)∧(w'.heap[gb358]? =some (.cells #[.slice none 0 0,.int .i64 0,.int .i64 0,.int .i64 0,.slice none 0 0] 29 (0,0)))∧(Below w.heap.size w w')) ?_ ?_;rotate_left
       ·intro hCont
        refine bIh (i:=3) (j:=7) (Ni:=some 17) (Nj:=some 21) #[true,true,true,true,true,true,true,false,false,false,false] #[true,true,true,false,true,true,true,true,false,false,false] rfl rfl rfl rfl (bQu HT_.out (by kernel_rfl)) (by decide) (by decide) (fun K hK=>?_) (fun K hK=>?_)
        ·skip
         refine sV (Kd.int .i64) _ 3 (by rfl) (N:=17) rfl 23 _ _ rfl ji7 rfl rfl Try.underlying23 (.int .i64 0) 8 qT rfl (by decide) (by omega) 0 (ok:=fun _=>True) (okp:=fun _=>True) rfl (fun _ hk=>hk) dT (bB jX) (dO (fE _ (bB jX:ji7.toNat≤35184372088832)) (by omega)) (bH _ _) (bV _) ?_;intro v362 w15 ho16 hb hg_ hnew_;clear hg_ hnew_
         (first|rw [←Ny361.out] at ho16|(simp only [Int.reduceToNat] at ho16;rw [←Ny361.out] at ho16))
         have n0_:=aK (dE ho16 (bW bIn));have n1_:=aK (bS (g:=gb358) (o:= .cells #[.slice none 0 0,.int .i64 0,.int .i64 0,.int .i64 0,.slice none 0 0] 29 (0,0)) bEf hb);have n2_:=aK (bK bIn hb);clear BK358;clear HB;have HO363:=n0_;have BK358:=n1_;have HB:=n2_;clear n0_ n1_ n2_;clear hb ho16;refine hK.out _ _ dT (fun hHeld=>?_);clear hK K;refine nS 17 ?_;refine pD (i:=7) (N:=some 21) #[true,true,true,true,true,true,true,true,false,false,false] rfl rfl (mT HT_.out (by kernel_rfl)) (by decide) (fun K hK=>?_);refine qU Try.func103 (by kernel_rfl) rfl #[.int .i64 a1] (by rfl) rfl rfl qD ?_;(with_reducible refine (sR a1 t364 _ A10.out).mono ?_);rintro e w' ⟨rfl,⟨nd,rfl⟩⟩;refine ⟨_,rfl,?_⟩;refine hK.out _ _ dT (fun hHeld=>?_);clear hK K;refine nS 21 ?_;refine pD (i:=8) (N:=some 22) #[true,true,true,true,true,true,true,true,true,false,false] rfl rfl (mT HT_.out (by kernel_rfl)) (by decide) (fun K hK=>?_);refine sV Kd.bool _ 4 (by rfl) (N:=22) rfl 24 _ _ rfl t364 rfl rfl Try.underlying24 (.bool false) 1 bGa rfl (by decide) (by omega) false (ok:=fun _=>True) (okp:=fun _=>True) rfl (fun _ hk=>hk) dT (bB jX) (dO (fE _ (bB jX:t364.toNat≤281474976710656)) (by omega)) (bH _ _) (bV _) ?_;intro v366 w17 ho18 hb hg_ hnew_;clear hg_ hnew_
         (first|rw [←Ny365.out] at ho18|(simp only [Int.reduceToNat] at ho18;rw [←Ny365.out] at ho18))
         have n0_:=aK (bZ bQj hb);have n1_:=aK (dE ho18 (bW bIn));have n2_:=aK (bS (g:=gb358) (o:= .cells #[.slice none 0 0,.int .i64 0,.int .i64 0,.int .i64 0,.slice none 0 0] 29 (0,0)) bEf hb);have n3_:=aK (bK bIn hb);clear HO363;clear BK358;clear HB;have HO363:=n0_;have HO367:=n1_;have BK358:=n2_;have HB:=n3_;clear n0_ n1_ n2_ n3_;clear hb ho18;obtain ⟨Ao19,co19,eo19⟩:=cL HO367.out
         (first|subst eo19|(injection eo19 with f1_ f2_ f3_;have f4_:=f1_.symm;have f5_:=f3_.symm;clear f1_ f2_ f3_;subst f4_;subst f5_))
         obtain ⟨Ao20,co20,eo20⟩:=cL HO363.out
         (first|subst eo20|(injection eo20 with f1_ f2_ f3_;have f4_:=f1_.symm;have f5_:=f3_.symm;clear f1_ f2_ f3_;subst f4_;subst f5_))
         refine hK.out _ _ dT (fun hHeld=>?_);clear hK K;refine nS 22 ?_;exact sH bCw (hCont (.slice Ao20 y361.length co20,.slice Ao19 y365.length co19) _ ⟨bQj,(by (with_reducible repeat (first|apply Kd.R_alloc|apply dA|apply dC));exact HO367.out),bEf,bIn⟩)
        ·skip
         refine qU Try.func103 (by kernel_rfl) rfl #[.int .i64 a1] (by rfl) rfl rfl qD ?_;(with_reducible refine (sR a1 t364 _ A10.out).mono ?_);rintro e w' ⟨rfl,⟨nd,rfl⟩⟩;refine ⟨_,rfl,?_⟩;refine hK.out _ _ dT (fun hHeld=>?_);clear hK K;refine nS 21 ?_;refine bIh (i:=3) (j:=8) (Ni:=some 17) (Nj:=some 22) #[true,true,true,true,true,true,true,true,false,false,false] #[true,true,true,false,true,true,true,true,true,false,false] rfl rfl rfl rfl (bQu HT_.out (by kernel_rfl)) (by decide) (by decide) (fun K hK=>?_) (fun K hK=>?_)
         ·skip
          refine sV (Kd.int .i64) _ 3 (by rfl) (N:=17) rfl 23 _ _ rfl ji7 rfl rfl Try.underlying23 (.int .i64 0) 8 qT rfl (by decide) (by omega) 0 (ok:=fun _=>True) (okp:=fun _=>True) rfl (fun _ hk=>hk) dT (bB jX) (dO (fE _ (bB jX:ji7.toNat≤35184372088832)) (by omega)) (bH _ _) (bV _) ?_;intro v362 w15 ho16 hb hg_ hnew_;clear hg_ hnew_
          (first|rw [←Ny361.out] at ho16|(simp only [Int.reduceToNat] at ho16;rw [←Ny361.out] at ho16))
          have n0_:=aK (dE ho16 (bW bIn));have n1_:=aK (bS (g:=gb358) (o:= .cells #[.slice none 0 0,.int .i64 0,.int .i64 0,.int .i64 0,.slice none 0 0] 29 (0,0)) bEf hb);have n2_:=aK (bK bIn hb);clear BK358;clear HB;have HO363:=n0_;have BK358:=n1_;have HB:=n2_;clear n0_ n1_ n2_;clear hb ho16;refine hK.out _ _ dT (fun hHeld=>?_);clear hK K;refine nS 17 ?_;refine pD (i:=8) (N:=some 22) #[true,true,true,true,true,true,true,true,true,false,false] rfl rfl (mT HT_.out (by kernel_rfl)) (by decide) (fun K hK=>?_);refine sV Kd.bool _ 4 (by rfl) (N:=22) rfl 24 _ _ rfl t364 rfl rfl Try.underlying24 (.bool false) 1 bGa rfl (by decide) (by omega) false (ok:=fun _=>True) (okp:=fun _=>True) rfl (fun _ hk=>hk) dT (bB jX) (dO (fE _ (bB jX:t364.toNat≤281474976710656)) (by omega)) (bH _ _) (bV _) ?_;intro v366 w17 ho18 hb hg_ hnew_;clear hg_ hnew_
          (first|rw [←Ny365.out] at ho18|(simp only [Int.reduceToNat] at ho18;rw [←Ny365.out] at ho18))
          have n0_:=aK (bZ bQj hb);have n1_:=aK (dE ho18 (bW bIn));have n2_:=aK (bS (g:=gb358) (o:= .cells #[.slice none 0 0,.int .i64 0,.int .i64 0,.int .i64 0,.slice none 0 0] 29 (0,0)) bEf hb);have n3_:=aK (bK bIn hb);clear HO363;clear BK358;clear HB;have HO363:=n0_;have HO367:=n1_;have BK358:=n2_;have HB:=n3_;clear n0_ n1_ n2_ n3_;clear hb ho18;obtain ⟨Ao19,co19,eo19⟩:=cL HO367.out
          (first|subst eo19|(injection eo19 with f1_ f2_ f3_;have f4_:=f1_.symm;have f5_:=f3_.symm;clear f1_ f2_ f3_;subst f4_;subst f5_))
          obtain ⟨Ao20,co20,eo20⟩:=cL HO363.out
          (first|subst eo20|(injection eo20 with f1_ f2_ f3_;have f4_:=f1_.symm;have f5_:=f3_.symm;clear f1_ f2_ f3_;subst f4_;subst f5_))
          refine hK.out _ _ dT (fun hHeld=>?_);clear hK K;refine nS 22 ?_;exact sH bCw (hCont (.slice Ao20 y361.length co20,.slice Ao19 y365.length co19) _ ⟨bQj,(by (with_reducible repeat (first|apply Kd.R_alloc|apply dA|apply dC));exact HO367.out),bEf,bIn⟩)
         ·skip
          refine sV Kd.bool _ 4 (by rfl) (N:=22) rfl 24 _ _ rfl t364 rfl rfl Try.underlying24 (.bool false) 1 bGa rfl (by decide) (by omega) false (ok:=fun _=>True) (okp:=fun _=>True) rfl (fun _ hk=>hk) dT (bB jX) (dO (fE _ (bB jX:t364.toNat≤281474976710656)) (by omega)) (bH _ _) (bV _) ?_;intro v366 w15 ho16 hb hg_ hnew_;clear hg_ hnew_
          (first|rw [←Ny365.out] at ho16|(simp only [Int.reduceToNat] at ho16;rw [←Ny365.out] at ho16))
          have n0_:=aK (dE ho16 (bW bIn));have n1_:=aK (bS (g:=gb358) (o:= .cells #[.slice none 0 0,.int .i64 0,.int .i64 0,.int .i64 0,.slice none 0 0] 29 (0,0)) bEf hb);have n2_:=aK (bK bIn hb);clear BK358;clear HB;have HO367:=n0_;have BK358:=n1_;have HB:=n2_;clear n0_ n1_ n2_;clear hb ho16;refine hK.out _ _ dT (fun hHeld=>?_);clear hK K;refine nS 22 ?_;refine pD (i:=3) (N:=some 17) #[true,true,true,true,true,true,true,true,true,false,false] rfl rfl (mT HT_.out (by kernel_rfl)) (by decide) (fun K hK=>?_);refine sV (Kd.int .i64) _ 3 (by rfl) (N:=17) rfl 23 _ _ rfl ji7 rfl rfl Try.underlying23 (.int .i64 0) 8 qT rfl (by decide) (by omega) 0 (ok:=fun _=>True) (okp:=fun _=>True) rfl (fun _ hk=>hk) dT (bB jX) (dO (fE _ (bB jX:ji7.toNat≤35184372088832)) (by omega)) (bH _ _) (bV _) ?_;intro v362 w17 ho18 hb hg_ hnew_;clear hg_ hnew_
          (first|rw [←Ny361.out] at ho18|(simp only [Int.reduceToNat] at ho18;rw [←Ny361.out] at ho18))
          have n0_:=aK (bZ (by (with_reducible repeat (first|apply Kd.R_alloc|apply dA|apply dC));exact HO367.out) hb);have n1_:=aK (dE ho18 (bW bIn));have n2_:=aK (bS (g:=gb358) (o:= .cells #[.slice none 0 0,.int .i64 0,.int .i64 0,.int .i64 0,.slice none 0 0] 29 (0,0)) bEf hb);have n3_:=aK (bK bIn hb);clear HO367;clear BK358;clear HB;have HO367:=n0_;have HO363:=n1_;have BK358:=n2_;have HB:=n3_;clear n0_ n1_ n2_ n3_;clear hb ho18;obtain ⟨Ao19,co19,eo19⟩:=cL HO367.out
          (first|subst eo19|(injection eo19 with f1_ f2_ f3_;have f4_:=f1_.symm;have f5_:=f3_.symm;clear f1_ f2_ f3_;subst f4_;subst f5_))
          obtain ⟨Ao20,co20,eo20⟩:=cL HO363.out
          (first|subst eo20|(injection eo20 with f1_ f2_ f3_;have f4_:=f1_.symm;have f5_:=f3_.symm;clear f1_ f2_ f3_;subst f4_;subst f5_))
          refine hK.out _ _ dT (fun hHeld=>?_);clear hK K;refine nS 17 ?_;exact sH bCw (hCont (.slice Ao20 y361.length co20,.slice Ao19 y365.length co19) _ ⟨bQj,(by (with_reducible repeat (first|apply Kd.R_alloc|apply dA|apply dC));exact HO367.out),bEf,bIn⟩)
       rintro ⟨v362,v366⟩ w21 ⟨h0_,h1_,h2_,h3_⟩;have n0_:Aside0 (Kd.R (Kd.int .i64) 3 w21 w.heap.size (fun _=>True) v362 y361):=⟨h0_⟩
       have n1_:Aside0 (Kd.R Kd.bool 4 w21 w.heap.size (fun _=>True) v366 y365):=⟨h1_⟩
       have n2_:Aside0 (w21.heap[gb358]? =some (.cells #[.slice none 0 0,.int .i64 0,.int .i64 0,.int .i64 0,.slice none 0 0] 29 (0,0))):=⟨h2_⟩
       have n3_:Aside0 (Below w.heap.size w w21):=⟨h3_⟩
       clear BK358;clear HB;clear h0_ h1_ h2_ h3_;have HO363:=n0_;have HO367:=n1_;have BK358:=n2_;have HB:=n3_;clear n0_ n1_ n2_ n3_;have hHeld:=dT;obtain ⟨Ao22,co22,eo22⟩:=cL HO367.out
       (first|subst eo22|(injection eo22 with f1_ f2_ f3_;have f4_:=f1_.symm;have f5_:=f3_.symm;clear f1_ f2_ f3_;subst f4_;subst f5_))
       obtain ⟨Ao23,co23,eo23⟩:=cL HO363.out
       (first|subst eo23|(injection eo23 with f1_ f2_ f3_;have f4_:=f1_.symm;have f5_:=f3_.symm;clear f1_ f2_ f3_;subst f4_;subst f5_))
       refine sH (a':=?_) ?_ ?_;rotate_left
       ·simp only [zZ, Act.put, dU, fY, fT]
        rfl
       refine pT 9 23 #[true,true,true,true,true,true,true,true,true,true,false] HT_ ?_;refine pD (i:=10) (N:=none) #[true,true,true,true,true,true,true,true,true,true,true] rfl rfl (mT HT_.out (by kernel_rfl)) (by decide) (fun K hK=>?_);have hs24:w21.cell? ⟨gb358,0,none⟩=some (.slice none 0 0):=(bA BK358.out 0).trans rfl
       have hfs24:=bL BK358.out 0;have hs25:w21.cell? ⟨gb358,1,none⟩=some (.int .i64 0):=(bA BK358.out 1).trans rfl
       have hfs25:=bL BK358.out 1;have hs26:w21.cell? ⟨gb358,2,none⟩=some (.int .i64 0):=(bA BK358.out 2).trans rfl
       have hfs26:=bL BK358.out 2;have hs27:w21.cell? ⟨gb358,3,none⟩=some (.int .i64 0):=(bA BK358.out 3).trans rfl
       have hfs27:=bL BK358.out 3;have hs28:w21.cell? ⟨gb358,4,none⟩=some (.slice none 0 0):=(bA BK358.out 4).trans rfl
       have hfs28:=bL BK358.out 4;refine vN (w1:=?_) (by rfl) rfl ?_ ?_;rotate_left
       ·go_simp
        rfl
       refine hK.out _ _ dT (fun hHeld=>?_);clear hK K;refine gT (vH HT_.out (by kernel_rfl)) ?_;try go_wp2
       refine fM (jY rfl _ _ gb358 29 #[.slice Ao23 y361.length co23,.int .i64 a0,.int .i64 0,.int .i64 a0,.slice Ao22 y365.length co22] (0,0) _ rfl (by (with_reducible repeat (first|refine bX ?_ _|refine bY ?_|refine bQ ?_ _));refine fF (cs:= #[.slice Ao23 y361.length co23,.int .i64 a0,.int .i64 0,.int .i64 a0,.slice none 0 0]) ?_ 4 _ rfl;(with_reducible repeat (first|refine bX ?_ _|refine bY ?_|refine bQ ?_ _));refine fF (cs:= #[.slice Ao23 y361.length co23,.int .i64 a0,.int .i64 0,.int .i64 0,.slice none 0 0]) ?_ 3 _ rfl;(with_reducible repeat (first|refine bX ?_ _|refine bY ?_|refine bQ ?_ _));refine fF (cs:= #[.slice Ao23 y361.length co23,.int .i64 a0,.int .i64 0,.int .i64 0,.slice none 0 0]) ?_ 2 _ rfl;(with_reducible repeat (first|refine bX ?_ _|refine bY ?_|refine bQ ?_ _));refine fF (cs:= #[.slice Ao23 y361.length co23,.int .i64 0,.int .i64 0,.int .i64 0,.slice none 0 0]) ?_ 1 _ rfl;(with_reducible repeat (first|refine bX ?_ _|refine bY ?_|refine bQ ?_ _));refine fF (cs:= #[.slice none 0 0,.int .i64 0,.int .i64 0,.int .i64 0,.slice none 0 0]) ?_ 0 _ rfl;(with_reducible repeat (first|refine bX ?_ _|refine bY ?_|refine bQ ?_ _));exact BK358.out) Try.underlying29 rfl (by kernel_rfl)) rfl ?_;exact ⟨_,_,by first|rfl|(simp [dS,dR]<;>rfl)|(simp only [←hji7];first|rfl|(simp [dS,dR]<;>rfl))|(simp [*,dS,dR]<;>rfl),by (with_reducible repeat (first|apply Kd.R_alloc|apply dA|apply dC));exact cI (jA (p:=⟨gb358,4,none⟩) (jA (p:=⟨gb358,3,none⟩) (jA (p:=⟨gb358,2,none⟩) (jA (p:=⟨gb358,1,none⟩) (jA (p:=⟨gb358,0,none⟩) (nJ HO363.out BK358.out (by decide)) (fun _ hk=>hk.2) (.slice Ao23 y361.length co23)) (fun _ hk=>hk.2) (.int .i64 a0)) (fun _ hk=>hk.2) (.int .i64 0)) (fun _ hk=>hk.2) (.int .i64 a0)) (fun _ hk=>hk.2) (.slice Ao22 y365.length co22)) (fun _ hk=>trivial),by (with_reducible repeat (first|apply Kd.R_alloc|apply dA|apply dC));exact cI (jA (p:=⟨gb358,4,none⟩) (jA (p:=⟨gb358,3,none⟩) (jA (p:=⟨gb358,2,none⟩) (jA (p:=⟨gb358,1,none⟩) (jA (p:=⟨gb358,0,none⟩) (nJ HO367.out BK358.out (by decide)) (fun _ hk=>hk.2) (.slice Ao23 y361.length co23)) (fun _ hk=>hk.2) (.int .i64 a0)) (fun _ hk=>hk.2) (.int .i64 0)) (fun _ hk=>hk.2) (.int .i64 a0)) (fun _ hk=>hk.2) (.slice Ao22 y365.length co22)) (fun _ hk=>trivial),by repeat (first|(with_reducible first|exact HB.out|apply bJ|apply bI|apply bG|refine cE ?_ GE358.out)|exact HB.out)⟩
      ·rw [if_neg c12] at H
       exact absurd H (by simp)
     ·rw [if_neg c11] at H
      exact absurd H (by simp)
    ·rw [if_neg c9] at H
     exact absurd H (by simp)
   ·rw [if_neg c8] at H
    exact absurd H (by simp)
  ·replace c6 := Bool.eq_false_iff.mpr c6
   subst c6;rw [if_neg (show¬(false=true) by decide)] at H;simp only [fB,Prod.mk.injEq] at H;obtain ⟨rfl,rfl,rfl,rfl,rfl⟩:=H;go_enter Try.func91,Try.ntmps91
   go_wp2_with (first|((with_reducible refine dK (N:=4) rfl ?_);refine dM ?hg (N:=4) ?hd (cs:= #[.slice none 0 0,.int .i64 0,.int .i64 0,.int .i64 0,.slice none 0 0]) (t:=29) ?hr ?_;(case hd=>rfl);(case hg=>rfl);(case hr=>first|(go_simp;done)|(go_simp;rfl));intro gb358 hg w29 hbox hb;have BK358:=aK (hbox);have GW358:=aK ((by rw [hg];exact (bW nQ):w.heap.size≤gb358));have GE358:=aK ((by rw [hg];exact (bW nQ):w.heap.size≤gb358));replace HB:=aK (bK nQ hb);clear hb hbox hg)|((with_reducible refine dG (f:=73) rfl ?_);refine gE (some 6) rfl rfl Try.func73 (by kernel_rfl) rfl #[.int .i64 a0,.int .i64 0,.int .i64 40] rfl qD ?_;(with_reducible refine (cZ a0 0 40 true _ A3.out).mono ?_);rintro e w' ⟨rfl,⟨nd,rfl⟩⟩;refine ⟨_,rfl,?_⟩;(try (rw [zD w29];generalize hq_:World.drewN w29 _=w29;have n0_:Aside0 (w29.heap[gb358]? =some (.cells #[.slice none 0 0,.int .i64 0,.int .i64 0,.int .i64 0,.slice none 0 0] 29 (0,0))):=⟨by rw [←hq_];exact bEf⟩;have n1_:Aside0 (Below w.heap.size w w29):=⟨by rw [←hq_];exact bIn⟩;clear BK358 HB hq_;have BK358:=n0_;have HB:=n1_;clear n0_ n1_)))|(go_at_call 73;(with_reducible refine (cZ a1 14 120 false _ A5.out).mono ?_);rintro e w' ⟨rfl,⟨nd,rfl⟩⟩;(try (rw [zD w29];generalize hq_:World.drewN w29 _=w29;have n0_:Aside0 (w29.heap[gb358]? =some (.cells #[.slice none 0 0,.int .i64 0,.int .i64 0,.int .i64 0,.slice none 0 0] 29 (0,0))):=⟨by rw [←hq_];exact bEf⟩;have n1_:Aside0 (Below w.heap.size w w29):=⟨by rw [←hq_];exact bIn⟩;clear BK358 HB hq_;have BK358:=n0_;have HB:=n1_;clear n0_ n1_));obtain ⟨hcz30_0,hcz30_1,hcz30_2,hcz30_3,hcz30_4,hfz30_0,hfz30_1,hfz30_2,hfz30_3,hfz30_4⟩:=nP BK358))
   refine fM (jY rfl _ _ gb358 29 #[.slice none 0 0,.int .i64 0,.int .i64 0,.int .i64 0,.slice none 0 0] (0,0) _ rfl (by (with_reducible repeat (first|refine bX ?_ _|refine bY ?_|refine bQ ?_ _));refine fF (cs:= #[.slice none 0 0,.int .i64 0,.int .i64 0,.int .i64 0,.slice none 0 0]) ?_ 4 _ rfl;(with_reducible repeat (first|refine bX ?_ _|refine bY ?_|refine bQ ?_ _));refine fF (cs:= #[.slice none 0 0,.int .i64 0,.int .i64 0,.int .i64 0,.slice none 0 0]) ?_ 3 _ rfl;(with_reducible repeat (first|refine bX ?_ _|refine bY ?_|refine bQ ?_ _));refine fF (cs:= #[.slice none 0 0,.int .i64 0,.int .i64 0,.int .i64 0,.slice none 0 0]) ?_ 2 _ rfl;(with_reducible repeat (first|refine bX ?_ _|refine bY ?_|refine bQ ?_ _));refine fF (cs:= #[.slice none 0 0,.int .i64 0,.int .i64 0,.int .i64 0,.slice none 0 0]) ?_ 1 _ rfl;(with_reducible repeat (first|refine bX ?_ _|refine bY ?_|refine bQ ?_ _));refine fF (cs:= #[.slice none 0 0,.int .i64 0,.int .i64 0,.int .i64 0,.slice none 0 0]) ?_ 0 _ rfl;(with_reducible repeat (first|refine bX ?_ _|refine bY ?_|refine bQ ?_ _));exact BK358.out) Try.underlying29 rfl (by kernel_rfl)) rfl ?_;exact ⟨_,_,by first|rfl|(simp [dS,dR]<;>rfl)|(simp [*,dS,dR]<;>rfl),by first|exact mI _ _ _ _ _|exact Kd.N_nil _ _ _ _ _|exact Kd.V_nil _ _ _ _ _|exact Kd.Q_nil _ _ _ _ _|exact Kd.S_nil _ _ _ _ _,by first|exact mI _ _ _ _ _|exact Kd.N_nil _ _ _ _ _|exact Kd.V_nil _ _ _ _ _|exact Kd.Q_nil _ _ _ _ _|exact Kd.S_nil _ _ _ _ _,by repeat (first|(with_reducible first|exact HB.out|apply bJ|apply bI|apply bG|refine cE ?_ GE358.out)|exact HB.out)⟩
 ·replace c4 := Bool.eq_false_iff.mpr c4
  subst c4;rw [if_neg (show¬(false=true) by decide)] at H;simp only [fB,Prod.mk.injEq] at H;obtain ⟨rfl,rfl,rfl,rfl,rfl⟩:=H;go_enter Try.func91,Try.ntmps91
  go_wp2_with (first|((with_reducible refine dK (N:=4) rfl ?_);refine dM ?hg (N:=4) ?hd (cs:= #[.slice none 0 0,.int .i64 0,.int .i64 0,.int .i64 0,.slice none 0 0]) (t:=29) ?hr ?_;(case hd=>rfl);(case hg=>rfl);(case hr=>first|(go_simp;done)|(go_simp;rfl));intro gb358 hg w31 hbox hb;have BK358:=aK (hbox);have GW358:=aK ((by rw [hg];exact (bW nQ):w.heap.size≤gb358));have GE358:=aK ((by rw [hg];exact (bW nQ):w.heap.size≤gb358));replace HB:=aK (bK nQ hb);clear hb hbox hg)|((with_reducible refine dG (f:=73) rfl ?_);refine gE (some 6) rfl rfl Try.func73 (by kernel_rfl) rfl #[.int .i64 a0,.int .i64 0,.int .i64 40] rfl qD ?_;(with_reducible refine (cZ a0 0 40 false _ A3.out).mono ?_);rintro e w' ⟨rfl,⟨nd,rfl⟩⟩;refine ⟨_,rfl,?_⟩;(try (rw [zD w31];generalize hq_:World.drewN w31 _=w31;have n0_:Aside0 (w31.heap[gb358]? =some (.cells #[.slice none 0 0,.int .i64 0,.int .i64 0,.int .i64 0,.slice none 0 0] 29 (0,0))):=⟨by rw [←hq_];exact bEf⟩;have n1_:Aside0 (Below w.heap.size w w31):=⟨by rw [←hq_];exact bIn⟩;clear BK358 HB hq_;have BK358:=n0_;have HB:=n1_;clear n0_ n1_));obtain ⟨hcz32_0,hcz32_1,hcz32_2,hcz32_3,hcz32_4,hfz32_0,hfz32_1,hfz32_2,hfz32_3,hfz32_4⟩:=nP BK358))
  refine fM (jY rfl _ _ gb358 29 #[.slice none 0 0,.int .i64 0,.int .i64 0,.int .i64 0,.slice none 0 0] (0,0) _ rfl (by (with_reducible repeat (first|refine bX ?_ _|refine bY ?_|refine bQ ?_ _));refine fF (cs:= #[.slice none 0 0,.int .i64 0,.int .i64 0,.int .i64 0,.slice none 0 0]) ?_ 4 _ rfl;(with_reducible repeat (first|refine bX ?_ _|refine bY ?_|refine bQ ?_ _));refine fF (cs:= #[.slice none 0 0,.int .i64 0,.int .i64 0,.int .i64 0,.slice none 0 0]) ?_ 3 _ rfl;(with_reducible repeat (first|refine bX ?_ _|refine bY ?_|refine bQ ?_ _));refine fF (cs:= #[.slice none 0 0,.int .i64 0,.int .i64 0,.int .i64 0,.slice none 0 0]) ?_ 2 _ rfl;(with_reducible repeat (first|refine bX ?_ _|refine bY ?_|refine bQ ?_ _));refine fF (cs:= #[.slice none 0 0,.int .i64 0,.int .i64 0,.int .i64 0,.slice none 0 0]) ?_ 1 _ rfl;(with_reducible repeat (first|refine bX ?_ _|refine bY ?_|refine bQ ?_ _));refine fF (cs:= #[.slice none 0 0,.int .i64 0,.int .i64 0,.int .i64 0,.slice none 0 0]) ?_ 0 _ rfl;(with_reducible repeat (first|refine bX ?_ _|refine bY ?_|refine bQ ?_ _));exact BK358.out) Try.underlying29 rfl (by kernel_rfl)) rfl ?_;exact ⟨_,_,by first|rfl|(simp [dS,dR]<;>rfl)|(simp [*,dS,dR]<;>rfl),by first|exact mI _ _ _ _ _|exact Kd.N_nil _ _ _ _ _|exact Kd.V_nil _ _ _ _ _|exact Kd.Q_nil _ _ _ _ _|exact Kd.S_nil _ _ _ _ _,by first|exact mI _ _ _ _ _|exact Kd.N_nil _ _ _ _ _|exact Kd.V_nil _ _ _ _ _|exact Kd.Q_nil _ _ _ _ _|exact Kd.S_nil _ _ _ _ _,by repeat (first|(with_reducible first|exact HB.out|apply bJ|apply bI|apply bG|refine cE ?_ GE358.out)|exact HB.out)⟩
structure OM (b gw cW gc cC:Nat) (w:World) (ws:List Int) (cards:List Bool):Prop where
 hw:Kd.R (Kd.int .i64) 3 w b (fun k=>k=gw) (.slice (some ⟨gw,0,none⟩) ws.length cW) ws
 hc:Kd.R Kd.bool 4 w b (fun k=>k=gc) (.slice (some ⟨gc,0,none⟩) cards.length cC) cards
 ne:gw≠gc
section
variable {b gw cW gc cC:Nat} {w w1:World} {ws:List Int} {cards:List Bool} {S:Nat→Prop}
theorem OM.bw (h:OM b gw cW gc cC w ws cards):b≤gw∧gw<w.heap.size:=⟨nN h.hw gw (by simp [Value.ownBlock]),pM h.hw gw (by simp [Value.ownBlock])⟩
theorem OM.bc (h:OM b gw cW gc cC w ws cards):b≤gc∧gc<w.heap.size:=⟨nN h.hc gc (by simp [Value.ownBlock]),pM h.hc gc (by simp [Value.ownBlock])⟩
theorem OM.ch (h:OM b gw cW gc cC w ws cards) (hc:Ch S w w1) (h1: ¬S gw) (h2: ¬S gc):OM b gw cW gc cC w1 ws cards:=⟨hc.R h.hw (fun k hk=>by rw [hk];exact h1),hc.R h.hc (fun k hk=>by rw [hk];exact h2),h.ne⟩
theorem OM.nbox (h:OM b gw cW gc cC w ws cards) {g:Nat} {cs:Array Value} (hg:w.heap[g]? =some (.cells cs 29 (0,0))):gw≠g∧gc≠g:=⟨fun e=>bLe hg h.hw (by decide) e.symm,fun e=>bLe hg h.hc (by decide) e.symm⟩
theorem OM.wcell (h:OM b gw cW gc cC w ws cards) (x:Int) (h0:0≤x) (h1:x<ws.length):w.cell? ⟨gw,x.toNat,none⟩=some (.int .i64 (rd ws x))∧w.frozen? ⟨gw,x.toNat,none⟩=false:=kO (enc:=Value.int .i64) (h1:=fun _=>rfl) 0 h.hw x h0 h1
theorem OM.ccell (h:OM b gw cW gc cC w ws cards) (x:Int) (h0:0≤x) (h1:x<cards.length):w.cell? ⟨gc,x.toNat,none⟩=some (.bool (kK false cards x))∧w.frozen? ⟨gc,x.toNat,none⟩=false:=kO (enc:=Value.bool) (h1:=fun _=>rfl) false h.hc x h0 h1
theorem OM.setw (h:OM b gw cW gc cC w ws cards) (x v:Int):OM b gw cW gc cC (w.setCell ⟨gw,x.toNat,none⟩ (.int .i64 v)) (ws.set x.toNat v) cards:=
  ⟨by rw [dV];exact (Kd.R_put (enc:=Value.int .i64) (h1:=fun _=>rfl) h.hw x v).1,jA h.hc (fun k hk=>by rw [hk];exact h.ne.symm) _,h.ne⟩
theorem OM.setc (h:OM b gw cW gc cC w ws cards) (x:Int) (v:Bool):OM b gw cW gc cC (w.setCell ⟨gc,x.toNat,none⟩ (.bool v)) ws (cards.set x.toNat v):=
  ⟨jA h.hw (fun k hk=>by rw [hk];exact h.ne) _,by rw [dV];exact (Kd.R_put (enc:=Value.bool) (h1:=fun _=>rfl) h.hc x v).1,h.ne⟩
end
structure Fl (b0 gz gm gw cW gc cC:Nat) (wr:World) (v7 v8:Value) (ws:List Int) (y t o:Int) (cards:List Bool) (pl rt:List Int):Prop where
 om:OM b0 gw cW gc cC wr ws cards
 bx:wr.heap[gm]? =some (.cells #[.slice (some ⟨gw,0,none⟩) ws.length cW,.int .i64 y,.int .i64 t,.int .i64 o,.slice (some ⟨gc,0,none⟩) cards.length cC] 29 (0,0))
 bz:wr.heap[gz]? =some (.cells #[.slice none 0 0,.int .i64 0,.int .i64 0,.int .i64 0,.slice none 0 0] 29 (0,0))
 hp:Kd.R (Kd.int .i64) 3 wr b0 (fun k=>(b0≤k∧k≠gw)∧some k≠v7.ownBlock) v8 pl
 hr:Kd.R (Kd.int .i64) 3 wr b0 (fun k=>(b0≤k∧k≠gw)∧some k≠v8.ownBlock) v7 rt
 gm0:b0≤gz∧gz<gm
section
variable {b0 gz gm gw cW gc cC g:Nat} {wr w1:World} {v7 v8:Value} {ws ws':List Int} {y t o:Int} {cards cards':List Bool} {pl rt:List Int} {S:Nat→Prop}
theorem Fl.ch (h:Fl b0 gz gm gw cW gc cC wr v7 v8 ws y t o cards pl rt) (hc:Ch S wr w1) (hS: ∀k,S k→k<b0):Fl b0 gz gm gw cW gc cC w1 v7 v8 ws y t o cards pl rt:=by
  have hw:=h.om.bw;have hcc:=h.om.bc;have hm:=h.gm0;exact ⟨h.om.ch hc (fun q=>by have:=hS _ q;omega) (fun q=>by have:=hS _ q;omega),hc.blk h.bx (fun q=>by have:=hS _ q;omega),hc.blk h.bz (fun q=>by have:=hS _ q;omega),hc.R h.hp (fun k hk q=>by have:=hS _ q;omega),hc.R h.hr (fun k hk q=>by have:=hS _ q;omega),h.gm0⟩
theorem Fl.below (h:Fl b0 gz gm gw cW gc cC wr v7 v8 ws y t o cards pl rt) (hb:Below wr.heap.size wr w1):Fl b0 gz gm gw cW gc cC w1 v7 v8 ws y t o cards pl rt:=h.ch ((Ch.refl (fun _=>False) _).below hb) (fun _ h=>h.elim)
theorem OM.ctype (h:OM b0 gw cW gc cC wr ws cards): ∃cells,wr.heap[gc]? =some (.cells cells 4 (0,0)):=Kd.R_typed h.hc gc (by simp [Value.ownBlock])
theorem OM.apart (h:OM b0 gw cW gc cC wr ws cards) {ok:Nat→Prop} {v:Value} {xs:List Int} (hr:Kd.R (Kd.int .i64) 3 wr b0 ok v xs):Kd.R (Kd.int .i64) 3 wr b0 (fun k=>ok k∧k≠gc) v xs:=by
  obtain ⟨cells,hcc⟩:=h.ctype;exact nJ hr hcc (by decide)
theorem Fl.plC {A:Option Addr} {n c:Nat} (h:Fl b0 gz gm gw cW gc cC wr v7 (.slice A n c) ws y t o cards pl rt) (hg:g<b0): ∀W',Kept wr W' (fun k=>(k=gw∨k=gc)∨k=g)→(Kd.int .i64).C W' A n pl:=
  Kd.C_kept_own (h.om.apart h.hp) (fun k hk q=>by obtain ⟨⟨⟨q1,q2⟩,q3⟩,q4⟩:=hk;omega)
theorem Fl.stored (h:Fl b0 gz gm gw cW gc cC wr v7 v8 ws y t o cards pl rt) (hc:Ch (fun k=>(k=gw∨k=gc)∨k=g) wr w1) (hO:OM b0 gw cW gc cC w1 ws' cards') (hl:ws'.length=ws.length∧cards'.length=cards.length) (hg:g<b0) (t' o':Int):
  Fl b0 gz gm gw cW gc cC (nF w1 gm (.slice (some ⟨gw,0,none⟩) ws.length cW) (.int .i64 y) (.int .i64 t') (.int .i64 o') (.slice (some ⟨gc,0,none⟩) cards.length cC)) v7 v8 ws' y t' o' cards' pl rt:=by
 have hw:=h.om.bw;have hcc:=h.om.bc;have hm:=h.gm0;have n1:=h.om.nbox h.bx;have n2:=h.om.nbox h.bz;have bx1:=hc.blk h.bx (by omega);have bz1:=hc.blk h.bz (by omega);have hp1:=hc.R (h.om.apart h.hp) (fun k hk q=>by obtain ⟨⟨⟨q1,q2⟩,q3⟩,q4⟩:=hk;omega);have hr1:=hc.R (h.om.apart h.hr) (fun k hk q=>by obtain ⟨⟨⟨q1,q2⟩,q3⟩,q4⟩:=hk;omega);refine ⟨hO.ch (Ch.box5 (Ch.refl (fun k=>k=gm) _) (.inl rfl) _ _ _ _ _) n1.1 n1.2,?_,(bCf (by omega)).trans bz1,cI (pC hp1 bx1 (by decide)) (fun _ hk=>hk.1),cI (pC hr1 bx1 (by decide)) (fun _ hk=>hk.1),h.gm0⟩;rw [hl.1,hl.2];exact jH bx1
theorem Fl.try_ (h:Fl b0 gz gm gw cW gc cC wr v7 v8 ws y t o cards pl rt) (hc:Ch (fun k=>k=gw) wr w1) (hO:OM b0 gw cW gc cC w1 ws' cards) (hl:ws'.length=ws.length):Fl b0 gz gm gw cW gc cC w1 v7 v8 ws' y t o cards pl rt:=by
 have n1:=h.om.nbox h.bx;have n2:=h.om.nbox h.bz;exact ⟨hO,by rw [hl];exact hc.blk h.bx (fun e=>n1.1 e.symm),hc.blk h.bz (fun e=>n2.1 e.symm),hc.R h.hp (fun k hk q=>hk.1.2 q),hc.R h.hr (fun k hk q=>hk.1.2 q),h.gm0⟩
theorem Fl.other (h:Fl b0 gz gm gw cW gc cC wr v7 v8 ws y t o cards pl rt) {gx:Nat} {cs:Array Value} (hx:wr.heap[gx]? =some (.cells cs 29 (0,0))) (hm:gm<gx) (a b c d e:Value):Fl b0 gz gm gw cW gc cC (nF wr gx a b c d e) v7 v8 ws y t o cards pl rt:=
  ⟨h.om.ch (Ch.box5 (Ch.refl (fun k=>k=gx) _) (.inl rfl) _ _ _ _ _) (h.om.nbox hx).1 (h.om.nbox hx).2,(bCf (by omega)).trans h.bx,(bCf (by have:=h.gm0;omega)).trans h.bz,pC h.hp hx (by decide),pC h.hr hx (by decide),h.gm0⟩
theorem Fl.nrow (h:Fl b0 gz gm gw cW gc cC wr v7 v8 ws y t o cards pl rt) {u:Value} {xs:List Int} {ok:Nat→Prop} (hu:Kd.R (Kd.int .i64) 3 wr b0 ok u xs) (hok: ∀k,ok k→k≠gw) (hg:wr.grownBy w1 u.ownBlock):
  OM b0 gw cW gc cC w1 ws cards∧w1.heap[gm]? =some (.cells #[.slice (some ⟨gw,0,none⟩) ws.length cW,.int .i64 y,.int .i64 t,.int .i64 o,.slice (some ⟨gc,0,none⟩) cards.length cC] 29 (0,0))∧w1.heap[gz]? =some (.cells #[.slice none 0 0,.int .i64 0,.int .i64 0,.int .i64 0,.slice none 0 0] 29 (0,0)):=by
 have hc:Ch (fun k=>u.ownBlock=some k) wr w1:=(Ch.refl _ wr).grown hg (fun k e=> .inl e)
 have hne:=(h.om.apart hu).1;exact ⟨h.om.ch hc (fun e=>hok gw (hu.1 gw e) rfl) (fun e=>(hne gc e).2 rfl),hc.blk h.bx (fun e=>qP hu h.bx (by decide) e.symm),hc.blk h.bz (fun e=>qP hu h.bz (by decide) e.symm)⟩
theorem Fl.appP (h:Fl b0 gz gm gw cW gc cC wr v7 v8 ws y t o cards pl rt) {v:Value} {ys:List Int} (hg:wr.grownBy w1 v8.ownBlock) (hat:v.ownBlock=v8.ownBlock∨∃b,v.ownBlock=some b∧wr.heap.size≤b) (hv:Kd.R (Kd.int .i64) 3 w1 b0 (fun k=>(b0≤k∧k≠gw)∧some k≠v7.ownBlock) v ys):Fl b0 gz gm gw cW gc cC w1 v7 v ws y t o cards ys rt:=by
  obtain ⟨h1,h2,h3⟩:=h.nrow h.hp (fun k hk=>hk.1.2) hg;exact ⟨h1,h2,h3,hv,Kd.R_after h.hr hg hat,h.gm0⟩
theorem Fl.appR (h:Fl b0 gz gm gw cW gc cC wr v7 v8 ws y t o cards pl rt) {v:Value} {ys:List Int} (hg:wr.grownBy w1 v7.ownBlock) (hat:v.ownBlock=v7.ownBlock∨∃b,v.ownBlock=some b∧wr.heap.size≤b) (hv:Kd.R (Kd.int .i64) 3 w1 b0 (fun k=>(b0≤k∧k≠gw)∧some k≠v8.ownBlock) v ys):Fl b0 gz gm gw cW gc cC w1 v v8 ws y t o cards pl ys:=by
  obtain ⟨h1,h2,h3⟩:=h.nrow h.hr (fun k hk=>hk.1.2) hg;exact ⟨h1,h2,h3,Kd.R_after h.hp hg hat,hv,h.gm0⟩
theorem Fl.freshP (h:Fl b0 gz gm gw cW gc cC wr v7 v8 ws y t o cards pl rt): ∀k,wr.heap.size≤k→(b0≤k∧k≠gw)∧some k≠v7.ownBlock:=fun k hk=>⟨⟨by have:=h.om.bw;omega,by have:=h.om.bw;omega⟩,fun e=>by have:=pM h.hr k e.symm;omega⟩
theorem Fl.freshR (h:Fl b0 gz gm gw cW gc cC wr v7 v8 ws y t o cards pl rt): ∀k,wr.heap.size≤k→(b0≤k∧k≠gw)∧some k≠v8.ownBlock:=fun k hk=>⟨⟨by have:=h.om.bw;omega,by have:=h.om.bw;omega⟩,fun e=>by have:=pM h.hp k e.symm;omega⟩
end
def jD (a0:Int):Option (Int):=if a0<0 then (some 2) else (some 1)
theorem tI (a0:Int) (r:Int) (w:World) (h:jD a0=some r):
  Calls Try.prog 104 #[.int .i64 a0] w fun e w'=>e= .returned (.int .i64 r)∧Drawn0 w w':=by
 have H:(if a0<0 then (some 2) else (some 1))=some r:=h
 clear h;by_cases c2:a0<0
 ·rw [if_pos c2] at H
  have c2b0:decide (a0<0)=true:=bD c2
  clear c2;obtain rfl:=bE H;go_enter Try.func104,Try.ntmps104;go_wp2;go_ret;exact ⟨nR,sF⟩
 ·rw [if_neg c2] at H
  have c2b0:decide (a0<0)=false:=bM c2
  clear c2;obtain rfl:=bE H;go_enter Try.func104,Try.ntmps104;go_wp2;go_ret;exact ⟨nR,sF⟩
def jP:Nat→List (S53)→Int→Option (List Int)
  |0,_,_=>none
  |k+1,l0,a1=>if a1=0 then (some (([]:List Int))) else (if 0≤a1 then (if a1<(l0.length:Int) then ((jP k l0 ((cY l0 a1).f0)).bind fun t112=>(if t112.length+((cY l0 a1).f1).length<17592186044416 then (some (t112++((cY l0 a1).f1))) else (none))) else (none)) else (none))
def spec_l2Fields.T3:Bool×List (List Nat×List Nat):=(true,[([],[]),([],[]),([],[]),([1,2],[1,2]),([3],[3]),([4],[4]),([0,5],[0,5]),([],[]),([],[]),([7,8],[7,8]),([9],[9]),([10],[10]),([6,11,6],[6,11]),([12,12,0,1,2,3,4,5,6,7,8,9,10,11,12],[12])])
def spec_l2Fields.B3:List Nat:=[0,0,0,6,14,30,63,0,0,384,896,1920,4095,8191]
theorem bDp:vF .any (bLl Try.f75 3)=spec_l2Fields.T3:=by kernel_rfl
theorem bCy:xY spec_l2Fields.T3.2 spec_l2Fields.B3=true:=by kernel_rfl
theorem qY (k:Nat): ∀(A0:Option Addr) (c0:Nat) (l0:List (S53)) (a1:Int) (r:List Int) (w:World) (hr0:Kd.C tU w A0 l0.length l0) (hc0:l0.length≤c0) (h:jP k l0 a1=some r),
  Calls Try.prog 75 #[.slice A0 l0.length c0,.int .i64 a1] w fun e w'=> ∃v0_:Value,e= .returned (v0_)∧Kd.R (Kd.int .i64) 3 w' w.heap.size (fun _=>True) v0_ r∧Below w.heap.size w w':=by
 induction k using Nat.strongRecOn with
 |_ k ih=>
 intro A0 c0 l0 a1 r w hr0 hc0 h
 cases k with
 |zero=>exact absurd h (by simp [jP])
 |succ k=>
 simp only [jP] at h;have HR0:=aK hr0;have HC0:=aK hc0;clear hr0 hc0;have HB:=aK (bH w.heap.size w);have H:(if a1=0 then (some (([]:List Int))) else (if 0≤a1 then (if a1<(l0.length:Int) then ((jP k l0 ((cY l0 a1).f0)).bind fun t112=>(if t112.length+((cY l0 a1).f1).length<17592186044416 then (some (t112++((cY l0 a1).f1))) else (none))) else (none)) else (none)))=some r:=h
 clear h;by_cases c3:a1=0
 ·rw [if_pos c3] at H
  have c3b0:(a1==0)=true:=zH.mpr c3
  have c3b1:(a1 !=0)=false:=bne_eq_false_iff_eq.mpr c3
  clear c3;obtain ⟨y108,hy108⟩: ∃y_:List Int,y_=(([]:List Int)):=⟨_,rfl⟩;replace H:(some y108)=some r:=by first|(rw [hy108];with_reducible exact H)|(have H2_:=(bC _ _).symm.trans H;rw [hy108];with_reducible exact H2_)|(have H2_:=(bC _ _).symm.trans H;with_reducible exact H2_)|with_reducible exact H|(rw [hy108];exact H)|exact H
  have Ny108:=aK hy108;clear hy108;obtain rfl:=bE H;go_enter Try.func75,Try.ntmps75
  go_wp2_with (first|((with_reducible refine dK (N:=7) rfl ?_);refine yI (Kd.int .i64) _ 3 ?hg (N:=7) ?hd (xs:=([]:List Int)) (inner:=[]) (ok:=fun _=>True) (okp:=fun _=>True) ?hr ?hp (fun _ hk=>hk) dT (bH _ _) (bV _) (by simp) ?_;(case hd=>rfl);(case hg=>rfl);(case hr=>first|(go_simp;done)|(go_simp;rfl));(case hp=>exact (pP.none _ _));intro v109 w4 ho5 hb hg_ hnew_;clear hg_ hnew_;(first|rw [←Ny108.out] at ho5|(simp only [Int.reduceToNat] at ho5;rw [←Ny108.out] at ho5));have HO110:=aK (dE ho5 (bW nQ));replace HB:=aK (bK nQ hb);clear hb ho5))
  go_ret;exact ⟨_,by first|rfl|(simp [dS,dR]<;>rfl)|(simp [*,dS,dR]<;>rfl),by (with_reducible repeat (first|apply Kd.R_alloc|apply dA|apply dC));exact HO110.out,by repeat (first|(with_reducible first|exact HB.out|apply bJ|apply bI|apply bG)|exact HB.out)⟩
 ·rw [if_neg c3] at H
  have c3b0:(a1==0)=false:=xP.mpr c3
  have c3b1:(a1 !=0)=true:=bne_iff_ne.mpr c3
  by_cases c6:0≤a1
  ·rw [if_pos c6] at H
   have c6b0:decide (0≤a1)=true:=bD c6
   clear c6;by_cases c7:a1<(l0.length:Int)
   ·rw [if_pos c7] at H
    have c7b0:decide (a1<(l0.length:Int))=true:=bD c7
    clear c7;replace H:=Option.bind_eq_some_iff.mp H;obtain ⟨t112,A80,H⟩:=H;(try dsimp only at H);have A8:=aK A80;clear A80;by_cases c9:t112.length+((cY l0 a1).f1).length<17592186044416
    ·rw [if_pos c9] at H
     have LMc9:=aK c9;clear c9;obtain ⟨y116,hy116⟩: ∃y_:List Int,y_=(t112++((cY l0 a1).f1)):=⟨_,rfl⟩;replace H:(some y116)=some r:=by first|(rw [hy116];with_reducible exact H)|(have H2_:=(bC _ _).symm.trans H;rw [hy116];with_reducible exact H2_)|(have H2_:=(bC _ _).symm.trans H;with_reducible exact H2_)|with_reducible exact H|(rw [hy116];exact H)|exact H
     have Ny116:=aK hy116;clear hy116;obtain rfl:=bE H;go_enter Try.func75,Try.ntmps75;try go_wp2
     have n0_:=aK (bG HB.out);clear HB;have HB:=n0_;clear n0_;have p111:0≤(a1:Int):=bB jX
     have q111:a1<(l0.length:Int):=bB jX
     obtain ⟨ad111,A111_1,c111_1,e111,hx111_0,hx111_1,hl111_1,hi111_1⟩:=bAb HR0.out a1 p111 q111;have hw111_1:=hx111_1;have hw111_0:=hx111_0
     cases e111
     replace hx111_0:=(HB.out.cell (bN w _ hx111_0)).trans hx111_0;replace hx111_1:=(HB.out.cell (bN w _ hx111_1)).trans hx111_1;have HR111_1:=aK hi111_1;have HC111_1:=aK hl111_1;clear hi111_1 hl111_1;replace p111:=bO p111;replace q111:=bO q111;have p115:0≤(a1:Int):=bB jX
     have q115:a1<(l0.length:Int):=bB jX
     obtain ⟨ad115,A115_1,c115_1,e115,hx115_0,hx115_1,hl115_1,hi115_1⟩:=bAb HR0.out a1 p115 q115;have hw115_1:=hx115_1;have hw115_0:=hx115_0;obtain rfl:ad111=ad115:=(by injection e115);replace hx115_0:=(HB.out.cell (bN w _ hx115_0)).trans hx115_0;replace hx115_1:=(HB.out.cell (bN w _ hx115_1)).trans hx115_1;have HR115_1:=aK hi115_1;have HC115_1:=aK hl115_1;clear hi115_1 hl115_1;replace p115:=bO p115;replace q115:=bO q115;have ea_:=bE (hx111_1.symm.trans hx115_1);injection ea_ with ea_ en_ ec_;subst ea_;subst ec_;clear en_;refine sT 14 (S:=fun w'=>w'.cell? (ad111.add ((a1).toNat*2))=some (.int .i64 ((cY l0 a1).f0))∧w'.cell? ⟨(ad111.add ((a1).toNat*2)).block,(ad111.add ((a1).toNat*2)).off+1,none⟩=some (.slice A111_1 ((cY l0 a1).f1).length c111_1)∧w'.cell? (ad111.add ((a1).toNat*2))=some (.int .i64 ((cY l0 a1).f0))∧w'.cell? ⟨(ad111.add ((a1).toNat*2)).block,(ad111.add ((a1).toNat*2)).off+1,none⟩=some (.slice A111_1 ((cY l0 a1).f1).length c111_1)) (ds:=[]) ⟨((HB.out.cell (bN w _ hw111_0)).trans hw111_0),((HB.out.cell (bN w _ hw111_1)).trans hw111_1),((HB.out.cell (bN w _ hw115_0)).trans hw115_0),((HB.out.cell (bN w _ hw115_1)).trans hw115_1)⟩ (fun hHeld=>?_);refine qZ bDp bCy (fun HT_ HW_=>?_);generalize w.drew=w10 at HB HR111_1 HR115_1 hx111_0 hx111_1 hx115_0 hx115_1 hHeld ⊢;refine mC 0 ?_;refine mC 1 ?_;refine mC 2 ?_;refine mC 3 ?_;refine mC 4 ?_;refine mC 7 ?_;refine mC 8 ?_;refine mC 9 ?_;refine mC 10 ?_;refine tS 5 13 (lA 14 1983) rfl rfl (jR HT_.out HW_.out (by kernel_rfl)) hHeld sM ?_;refine tS 11 19 (lA 14 4031) rfl rfl (jR HT_.out HW_.out (by kernel_rfl)) hHeld sM ?_;refine pD (i:=6) (N:=some 14) (lA 14 4095) rfl rfl (mT HT_.out (by kernel_rfl)) (by decide) (fun K hK=>?_);refine qU Try.func75 (by kernel_rfl) rfl #[.slice (some ad111) l0.length c0,.int .i64 ((cY l0 a1).f0)] (by rfl) rfl rfl qD ?_;(with_reducible refine (ih k (by omega) _ _ l0 ((cY l0 a1).f0) t112 _ ?side1 ?side2 A8.out).mono ?_)
     (case side1=>exact bDl)
     (case side2=>exact HC0.out)
     rintro e w11 ⟨v113,rfl,ho0,hb⟩;refine ⟨_,rfl,?_⟩;have n0_:=aK (dE ho0 (bW nQ));have n1_:=aK (bK nQ hb);clear HB;have HO114:=n0_;have HB:=n1_;clear n0_ n1_;(try clear hb);(try clear hb2);(try clear hk);(try clear hi);(try clear ho0);refine hK.out _ _ ⟨((HB.out.cell (bN w _ hw111_0)).trans hw111_0),((HB.out.cell (bN w _ hw111_1)).trans hw111_1),((HB.out.cell (bN w _ hw115_0)).trans hw115_0),((HB.out.cell (bN w _ hw115_1)).trans hw115_1)⟩ (fun hHeld=>?_);clear hK K;refine nS 14 ?_;refine pD (i:=12) (N:=some 20) (lA 14 8191) rfl rfl (mT HT_.out (by kernel_rfl)) (by decide) (fun K hK=>?_);refine Kd.R_append_rows_step (Kd.int .i64) (w0:=w) w.heap.size (by rfl) (.tmp 14) (.tmp 19) 23 3 (.int .i64 0) 8 rfl Try.underlying23 qT rfl (by decide) (by omega) v113 t112 ((cY l0 a1).f1) _ _ _ (fun _=>True) (fun _=>False) rfl rfl ?aO ?aR (fun _ _ h=>h) (fun _ h=>h.elim) ?aF ?aB ?aS ?aL ?_
     (case aR=>repeat (first|exact (cG HR115_1.out HB.out)|(with_reducible refine Kd.C_alloc ?_ _)|(with_reducible refine Kd.C_drewN ?_ _)|(with_reducible refine Kd.C_drew ?_)))
     (case aB=>exact nQ)
     (case aF=>exact (fun _ _=>trivial))
     (case aO=>exact (by (with_reducible repeat (first|apply Kd.R_alloc|apply dA|apply dC));exact HO114.out))
     (case aS=>exact (bW nQ))
     (case aL=>have:=LMc9.out;omega)
     intro v117 w12 ho hb hg hat;rw [←Ny116.out] at ho;have n0_:=aK (hb);have n1_:=aK (ho);clear HB;clear HO114;have HB:=n0_;have HO118:=n1_;clear n0_ n1_;clear ho hb hg hat;refine hK.out _ _ ⟨((HB.out.cell (bN w _ hw111_0)).trans hw111_0),((HB.out.cell (bN w _ hw111_1)).trans hw111_1),((HB.out.cell (bN w _ hw115_0)).trans hw115_0),((HB.out.cell (bN w _ hw115_1)).trans hw115_1)⟩ (fun hHeld=>?_);clear hK K;refine nS 20 ?_;refine mC 13 ?_;refine gT (vH HT_.out (by kernel_rfl)) ?_;try go_wp2
     go_ret;exact ⟨_,by first|rfl|(simp [dS,dR]<;>rfl)|(simp [*,dS,dR]<;>rfl),by (with_reducible repeat (first|apply Kd.R_alloc|apply dA|apply dC));exact HO118.out,by repeat (first|(with_reducible first|exact HB.out|apply bJ|apply bI|apply bG)|exact HB.out)⟩
    ·rw [if_neg c9] at H
     exact absurd H (by simp)
   ·rw [if_neg c7] at H
    exact absurd H (by simp)
  ·rw [if_neg c6] at H
   exact absurd H (by simp)
mutual
def mV:Nat→List Int→Int→Int→Int→Bool→Option (Int)
 |0,_,_,_,_,_=>none
 |k+1,x1,x2,x3,x9,x30=>if x30=true then (if (wrap64 (x2+1))≥x3 then (nM k x1 x2 x3 true) else (if 0≤(wrap64 (x2+1)) then (if (wrap64 (x2+1))<(x1.length:Int) then ((fK (rd x1 (wrap64 (x2+1))) 0 6).bind fun t128=>(nM k x1 x2 x3 (!t128))) else (none)) else (none))) else (if (wrap64 (x2+x9))>x3 then (some 0) else (some x9))
def nM:Nat→List Int→Int→Int→Bool→Option (Int)
 |0,_,_,_,_=>none
 |k+1,x1,x2,x3,x55=>if x55=true then (some 0) else (if 0≤(wrap64 (x2+1)) then (if (wrap64 (x2+1))<(x1.length:Int) then (if (wrap64 (x2+(wrap64 (2+(rd x1 (wrap64 (x2+1)))))))>x3 then (some 0) else (some (wrap64 (2+(rd x1 (wrap64 (x2+1))))))) else (none)) else (none))
end
def jN (k:Nat) (l0:List (S53)) (l1:List Int) (a2:Int) (a3:Int):Option (Int):=if a2≥a3 then (some 0) else (if 0≤a2 then (if a2<(l1.length:Int) then ((fK (rd l1 a2) 0 (wrap64 ((l0.length:Int) - 1))).bind fun t120=>(if t120=true then ((jP k l0 (rd l1 a2)).bind fun t122=>(if (wrap64 (a2+(wrap64 (1+(t122.length:Int)))))>a3 then (some 0) else (some (wrap64 (1+(t122.length:Int)))))) else (if (rd l1 a2)=(-1) then (mV k l1 a2 a3 0 true) else (mV k l1 a2 a3 0 ((rd l1 a2)==(-2)))))) else (none)) else (none))
theorem pR (k : Nat) (A0 : Option Addr) (c0 : Nat) (l0 : List (S53)) (A1 : Option Addr) (c1 : Nat) (l1 : List Int) (a2 : Int) (a3 : Int) (r : Int) (w : World) (hr0 : Kd.C tU w A0 l0.length l0) (hc0 : l0.length ≤ c0) (hr1 : Kd.C (Kd.int .i64) w A1 l1.length l1) (hc1 : l1.length ≤ c1) (h : jN k l0 l1 a2 a3 = some r) :
  Calls Try.prog 48 #[.slice A0 l0.length c0,.slice A1 l1.length c1,.int .i64 a2,.int .i64 a3] w fun e w'=>e= .returned (.int .i64 r)∧Below w.heap.size w w':=by
 have HR0:=aK hr0;have HC0:=aK hc0;clear hr0 hc0;have HR1:=aK hr1;have HC1:=aK hc1;clear hr1 hc1;have HB:=aK (bH w.heap.size w);have H:(if a2≥a3 then (some 0) else (if 0≤a2 then (if a2<(l1.length:Int) then ((fK (rd l1 a2) 0 (wrap64 ((l0.length:Int) - 1))).bind fun t120=>(if t120=true then ((jP k l0 (rd l1 a2)).bind fun t122=>(if (wrap64 (a2+(wrap64 (1+(t122.length:Int)))))>a3 then (some 0) else (some (wrap64 (1+(t122.length:Int)))))) else (if (rd l1 a2)=(-1) then (mV k l1 a2 a3 0 true) else (mV k l1 a2 a3 0 ((rd l1 a2)==(-2)))))) else (none)) else (none)))=some r:=h
 clear h;by_cases c5:a2≥a3
 ·rw [if_pos c5] at H
  have c5b0:decide (a3≤a2)=true:=bD c5
  clear c5;obtain rfl:=bE H;go_enter Try.func48,Try.ntmps48;go_wp2;go_ret;exact ⟨zL,nQ⟩
 ·rw [if_neg c5] at H
  have c5b0:decide (a3≤a2)=false:=bM c5
  clear c5;by_cases c6:0≤a2
  ·rw [if_pos c6] at H
   have c6b0:decide (0≤a2)=true:=bD c6
   clear c6;by_cases c7:a2<(l1.length:Int)
   ·rw [if_pos c7] at H
    have c7b0:decide (a2<(l1.length:Int))=true:=bD c7
    clear c7;replace H:=Option.bind_eq_some_iff.mp H;obtain ⟨t120,A80,H⟩:=H;(try dsimp only at H);have A8:=aK A80;clear A80;by_cases c9:t120=true
    ·subst c9
     rw [if_pos rfl] at H;replace H:=Option.bind_eq_some_iff.mp H;obtain ⟨t122,A100,H⟩:=H;(try dsimp only at H);have A10:=aK A100;clear A100;by_cases c11:(wrap64 (a2+(wrap64 (1+(t122.length:Int)))))>a3
     ·rw [if_pos c11] at H
      have c11b0:decide (a3<(wrap64 (a2+(wrap64 (1+(t122.length:Int))))))=true:=bD c11
      clear c11;obtain rfl:=bE H;have p119:0≤(a2:Int):=bB jX
      have q119:a2<(l1.length:Int):=bB jX
      obtain ⟨ad119,e119,hx119_0⟩:=dL HR1.out a2 p119 q119
      cases e119
      replace p119:=bO p119;replace q119:=bO q119;go_enter Try.func48,Try.ntmps48
      go_wp2_with (first|((with_reducible refine dG (f:=73) rfl ?_);refine gE (some 21) rfl rfl Try.func73 (by kernel_rfl) rfl #[.int .i64 (rd l1 a2),.int .i64 0,.int .i64 (wrap64 ((l0.length:Int) - 1))] rfl qD ?_;(with_reducible refine (cZ (rd l1 a2) 0 (wrap64 ((l0.length:Int) - 1)) true _ A8.out).mono ?_);rintro e w' ⟨rfl,⟨nd,rfl⟩⟩;refine ⟨_,rfl,?_⟩;have p121:0≤(a2:Int):=bB jX;have q121:a2<(l1.length:Int):=bB jX;obtain ⟨ad121,e121,hx121_0⟩:=dL HR1.out a2 p121 q121;obtain rfl:ad119=ad121:=(by injection e121);replace p121:=bO p121;replace q121:=bO q121)|((with_reducible refine dG (f:=75) rfl ?_);refine gE (some 27) rfl rfl Try.func75 (by kernel_rfl) rfl #[.slice A0 l0.length c0,.int .i64 (rd l1 a2)] rfl qD ?_;(with_reducible refine (qY k _ _ l0 (rd l1 a2) t122 _ ?side1 ?side2 A10.out).mono ?_);(case side1=>exact zz44);(case side2=>exact HC0.out);rintro e w12 ⟨v123,rfl,ho0,hb⟩;refine ⟨_,rfl,?_⟩;have HO124:=aK (dE ho0 (bW nQ));replace HB:=aK (bK nQ hb);(try clear hb);(try clear hb2);(try clear hk);(try clear hi);(try clear ho0);obtain ⟨Ao13,co13,eo13⟩:=cL HO124.out;subst eo13))
      go_ret;exact ⟨zL,nQ⟩
     ·rw [if_neg c11] at H
      have c11b0:decide (a3<(wrap64 (a2+(wrap64 (1+(t122.length:Int))))))=false:=bM c11
      clear c11;obtain rfl:=bE H;have p119:0≤(a2:Int):=bB jX
      have q119:a2<(l1.length:Int):=bB jX
      obtain ⟨ad119,e119,hx119_0⟩:=dL HR1.out a2 p119 q119
      cases e119
      replace p119:=bO p119;replace q119:=bO q119;go_enter Try.func48,Try.ntmps48
      go_wp2_with (first|((with_reducible refine dG (f:=73) rfl ?_);refine gE (some 21) rfl rfl Try.func73 (by kernel_rfl) rfl #[.int .i64 (rd l1 a2),.int .i64 0,.int .i64 (wrap64 ((l0.length:Int) - 1))] rfl qD ?_;(with_reducible refine (cZ (rd l1 a2) 0 (wrap64 ((l0.length:Int) - 1)) true _ A8.out).mono ?_);rintro e w' ⟨rfl,⟨nd,rfl⟩⟩;refine ⟨_,rfl,?_⟩;have p121:0≤(a2:Int):=bB jX;have q121:a2<(l1.length:Int):=bB jX;obtain ⟨ad121,e121,hx121_0⟩:=dL HR1.out a2 p121 q121;obtain rfl:ad119=ad121:=(by injection e121);replace p121:=bO p121;replace q121:=bO q121)|((with_reducible refine dG (f:=75) rfl ?_);refine gE (some 27) rfl rfl Try.func75 (by kernel_rfl) rfl #[.slice A0 l0.length c0,.int .i64 (rd l1 a2)] rfl qD ?_;(with_reducible refine (qY k _ _ l0 (rd l1 a2) t122 _ ?side1 ?side2 A10.out).mono ?_);(case side1=>exact zz44);(case side2=>exact HC0.out);rintro e w14 ⟨v123,rfl,ho0,hb⟩;refine ⟨_,rfl,?_⟩;have HO124:=aK (dE ho0 (bW nQ));replace HB:=aK (bK nQ hb);(try clear hb);(try clear hb2);(try clear hk);(try clear hi);(try clear ho0);obtain ⟨Ao15,co15,eo15⟩:=cL HO124.out;subst eo15))
      go_ret;exact ⟨zL,nQ⟩
    ·replace c9 := Bool.eq_false_iff.mpr c9
     subst c9;rw [if_neg (show¬(false=true) by decide)] at H;have HC16:=aK H;clear H;have p119:0≤(a2:Int):=bB jX
     have q119:a2<(l1.length:Int):=bB jX
     obtain ⟨ad119,e119,hx119_0⟩:=dL HR1.out a2 p119 q119
     cases e119
     replace p119:=bO p119;replace q119:=bO q119;go_enter Try.func48,Try.ntmps48
     go_upto_region 6 with (first|((with_reducible refine dG (f:=73) rfl ?_);refine gE (some 21) rfl rfl Try.func73 (by kernel_rfl) rfl #[.int .i64 (rd l1 a2),.int .i64 0,.int .i64 (wrap64 ((l0.length:Int) - 1))] rfl qD ?_;(with_reducible refine (cZ (rd l1 a2) 0 (wrap64 ((l0.length:Int) - 1)) false _ A8.out).mono ?_);rintro e w' ⟨rfl,⟨nd,rfl⟩⟩;refine ⟨_,rfl,?_⟩))
     (try simp only [Act.put,dU,fY,fT])
     go_cut [30] (fun v30 wc=> ∃(kq:Nat) (x30_15:Bool),v30= .bool x30_15∧Aside0 (mV kq l1 a2 a3 0 x30_15=some r)∧Aside0 (kq≤k)∧Aside0 (Below w.heap.size w wc))
     case first=>
      have H:=HC16.out;clear HC16;by_cases c17:(rd l1 a2)=(-1)
      ·rw [if_pos c17] at H
       have c17b0:((rd l1 a2)==(-1))=true:=zH.mpr c17
       have c17b1:((rd l1 a2) !=(-1))=false:=bne_eq_false_iff_eq.mpr c17
       clear c17
       (first|rw [c17b0]|(simp only [mN,qN];rw [c17b0])|skip)
       have H':=aK H;clear H;have p125:0≤(a2:Int):=bB jX
       have q125:a2<(l1.length:Int):=bB jX
       obtain ⟨ad125,e125,hx125_0⟩:=dL HR1.out a2 p125 q125;obtain rfl:ad119=ad125:=(by injection e125);replace hx125_0:=(HB.out.cell (bN w _ hx125_0)).trans hx125_0;replace p125:=bO p125;replace q125:=bO q125;go_wp2;go_meet
       case rel=>exact ⟨_,(true),nR,H',⟨by first|omega|exact bV _⟩,⟨by repeat (first|(with_reducible first|exact HB.out|apply bJ|apply bI|apply bG)|exact HB.out)⟩⟩
      ·rw [if_neg c17] at H
       have c17b0:((rd l1 a2)==(-1))=false:=xP.mpr c17
       have c17b1:((rd l1 a2) !=(-1))=true:=bne_iff_ne.mpr c17
       (first|rw [c17b0]|(simp only [mN,qN];rw [c17b0])|skip)
       have H':=aK H;clear H;have p125:0≤(a2:Int):=bB jX
       have q125:a2<(l1.length:Int):=bB jX
       obtain ⟨ad125,e125,hx125_0⟩:=dL HR1.out a2 p125 q125;obtain rfl:ad119=ad125:=(by injection e125);replace hx125_0:=(HB.out.cell (bN w _ hx125_0)).trans hx125_0;replace p125:=bO p125;replace q125:=bO q125;have p126:0≤(a2:Int):=bB jX
       have q126:a2<(l1.length:Int):=bB jX
       obtain ⟨ad126,e126,hx126_0⟩:=dL HR1.out a2 p126 q126;obtain rfl:ad119=ad126:=(by injection e126);replace hx126_0:=(HB.out.cell (bN w _ hx126_0)).trans hx126_0;replace p126:=bO p126;replace q126:=bO q126;go_wp2;go_meet
       case rel=>exact ⟨_,(((rd l1 a2)==(-2))),nR,H',⟨by first|omega|exact bV _⟩,⟨by repeat (first|(with_reducible first|exact HB.out|apply bJ|apply bI|apply bG)|exact HB.out)⟩⟩
     case rest =>
      clear HC16;(try clear c1);(try clear p1);(try clear q1);(try clear hx1);(try clear p2);(try clear c4);(try clear c5);(try clear c5b0);(try clear c6);(try clear c6b0);(try clear p6);(try clear c7);(try clear c7b0);(try clear c9);(try clear c11);(try clear c11b0);(try clear p11);(try clear q11);(try clear hx11);(try clear p12);(try clear q12);(try clear hx12);(try clear c17);(try clear c17b0);(try clear c17b1);(try clear hx119_0);(try clear hx121_0);(try clear hx125_0);(try clear hx126_0);(try clear p119);(try clear p121);(try clear p125);(try clear p126);(try clear q119);(try clear q121);(try clear q125);(try clear q126);obtain ⟨kq,x30_15,rfl,HA,HJ15,HB⟩:=hcut
      cases kq with
      |zero=>exact absurd HA.out (by simp [mV])
      | succ kj15 =>
       have H:=HA.out;clear HA;simp only [mV] at H;by_cases c18:x30_15=true
       ·subst c18
        rw [if_pos rfl] at H;have HC19:=aK H;clear H
        go_upto_region 7 with (fail)
        go_cut [55] (fun v55 wc=> ∃(kq:Nat) (x55_18:Bool),v55= .bool x55_18∧Aside0 (nM kq l1 a2 a3 x55_18=some r)∧Aside0 (kq≤kj15)∧Aside0 (Below w.heap.size w wc))
        case first=>
         have H:=HC19.out;clear HC19;by_cases c20:(wrap64 (a2+1))≥a3
         ·rw [if_pos c20] at H
          have c20b0:decide (a3≤(wrap64 (a2+1)))=true:=bD c20
          clear c20
          (first|rw [c20b0]|(simp only [mN,qN];rw [c20b0])|skip)
          have H':=aK H;clear H;go_wp2;go_meet
          case rel=>exact ⟨_,(true),nR,H',⟨by have:=HJ15.out;first|omega|exact bV _⟩,⟨by repeat (first|(with_reducible first|exact HB.out|apply bJ|apply bI|apply bG)|exact HB.out)⟩⟩
         ·rw [if_neg c20] at H
          have c20b0:decide (a3≤(wrap64 (a2+1)))=false:=bM c20
          clear c20
          (first|rw [c20b0]|(simp only [mN,qN];rw [c20b0])|skip)
          obtain ⟨ji21,hji21⟩: ∃j_:Int,(wrap64 (a2+1))=j_:=⟨_,rfl⟩;replace H:(if 0≤(ji21) then (if (ji21)<(l1.length:Int) then ((fK (rd l1 (ji21)) 0 6).bind fun t128=>(nM kj15 l1 a2 a3 (!t128))) else (none)) else (none))=some r:=by first|(rw [hji21] at H;exact H)|(simp only [hji21] at H ⊢;exact H)
          (try rw [hji21] at c20b0)
          have hji21w:(IntKind.i64.wrap (a2+1))=ji21:=(mN _).trans hji21
          by_cases c22:0≤(ji21)
          ·rw [if_pos c22] at H
           have c22b0:decide (0≤(ji21))=true:=bD c22
           clear c22;by_cases c23:(ji21)<(l1.length:Int)
           ·rw [if_pos c23] at H
            have c23b0:decide ((ji21)<(l1.length:Int))=true:=bD c23
            clear c23;replace H:=Option.bind_eq_some_iff.mp H;obtain ⟨t128,A240,H⟩:=H;(try dsimp only at H);have A24:=aK A240;clear A240;have H':=aK H;clear H;have p127:0≤((ji21):Int):=bB jX
            have q127:(ji21)<(l1.length:Int):=bB jX
            obtain ⟨ad127,e127,hx127_0⟩:=dL HR1.out (ji21) p127 q127;obtain rfl:ad119=ad127:=(by injection e127);replace hx127_0:=(HB.out.cell (bN w _ hx127_0)).trans hx127_0;replace p127:=bO p127;replace q127:=bO q127
            go_wp2_with (first|(go_at_call 73;(with_reducible refine (cZ (rd l1 (ji21)) 0 6 t128 _ A24.out).mono ?_);rintro e w' ⟨rfl,⟨nd,rfl⟩⟩))
            go_meet
            case rel=>exact ⟨_,(!t128),nR,H',⟨by have:=HJ15.out;first|omega|exact bV _⟩,⟨by repeat (first|(with_reducible first|exact HB.out|apply bJ|apply bI|apply bG)|exact HB.out)⟩⟩
           ·rw [if_neg c23] at H
            exact absurd H (by simp)
          ·rw [if_neg c22] at H
           exact absurd H (by simp)
        case rest =>
         clear HC19;(try clear c1);(try clear p1);(try clear q1);(try clear hx1);(try clear c2);(try clear p2);(try clear c4);(try clear c5);(try clear c5b0);(try clear c6);(try clear c6b0);(try clear p6);(try clear c7);(try clear c7b0);(try clear c9);(try clear c11);(try clear c11b0);(try clear p11);(try clear q11);(try clear hx11);(try clear p12);(try clear q12);(try clear hx12);(try clear c17);(try clear c17b0);(try clear c17b1);(try clear c18);(try clear c20);(try clear c20b0);(try clear c22);(try clear c22b0);(try clear c23);(try clear c23b0);(try clear hx119_0);(try clear hx121_0);(try clear hx125_0);(try clear hx126_0);(try clear hx127_0);(try clear p1);(try clear p11);(try clear p119);(try clear p12);(try clear p121);(try clear p125);(try clear p126);(try clear p127);(try clear p2);(try clear p6);(try clear q1);(try clear q11);(try clear q119);(try clear q12);(try clear q121);(try clear q125);(try clear q126);(try clear q127);obtain ⟨kq,x55_18,rfl,HA,HJ18,HB⟩:=hcut
         cases kq with
         |zero=>exact absurd HA.out (by simp [nM])
         | succ kj18 =>
          have H:=HA.out;clear HA;simp only [nM] at H;by_cases c25:x55_18=true
          ·subst c25
           rw [if_pos rfl] at H;obtain rfl:=bE H;go_wp2;go_ret;exact ⟨zL,nQ⟩
          ·replace c25 := Bool.eq_false_iff.mpr c25
           subst c25;rw [if_neg (show¬(false=true) by decide)] at H;obtain ⟨ji26,hji26⟩: ∃j_:Int,(wrap64 (a2+1))=j_:=⟨_,rfl⟩;replace H:(if 0≤(ji26) then (if (ji26)<(l1.length:Int) then (if (wrap64 (a2+(wrap64 (2+(rd l1 (ji26))))))>a3 then (some 0) else (some (wrap64 (2+(rd l1 (ji26)))))) else (none)) else (none))=some r:=by first|(rw [hji26] at H;exact H)|(simp only [hji26] at H ⊢;exact H)
           have hji26w:(IntKind.i64.wrap (a2+1))=ji26:=(mN _).trans hji26
           by_cases c27:0≤(ji26)
           ·rw [if_pos c27] at H
            have c27b0:decide (0≤(ji26))=true:=bD c27
            clear c27;by_cases c28:(ji26)<(l1.length:Int)
            ·rw [if_pos c28] at H
             have c28b0:decide ((ji26)<(l1.length:Int))=true:=bD c28
             clear c28;by_cases c29:(wrap64 (a2+(wrap64 (2+(rd l1 (ji26))))))>a3
             ·rw [if_pos c29] at H
              have c29b0:decide (a3<(wrap64 (a2+(wrap64 (2+(rd l1 (ji26)))))))=true:=bD c29
              clear c29;obtain rfl:=bE H;have p129:0≤((ji26):Int):=bB jX
              have q129:(ji26)<(l1.length:Int):=bB jX
              obtain ⟨ad129,e129,hx129_0⟩:=dL HR1.out (ji26) p129 q129;obtain rfl:ad119=ad129:=(by injection e129);replace hx129_0:=(HB.out.cell (bN w _ hx129_0)).trans hx129_0;replace p129:=bO p129;replace q129:=bO q129;go_wp2;go_ret;exact ⟨(by first|rfl|(simp [dS,dR]<;>rfl)|(simp only [←hji26];first|rfl|(simp [dS,dR]<;>rfl))|(simp [*,dS,dR]<;>rfl)),nQ⟩
             ·rw [if_neg c29] at H
              have c29b0:decide (a3<(wrap64 (a2+(wrap64 (2+(rd l1 (ji26)))))))=false:=bM c29
              clear c29;obtain rfl:=bE H;have p129:0≤((ji26):Int):=bB jX
              have q129:(ji26)<(l1.length:Int):=bB jX
              obtain ⟨ad129,e129,hx129_0⟩:=dL HR1.out (ji26) p129 q129;obtain rfl:ad119=ad129:=(by injection e129);replace hx129_0:=(HB.out.cell (bN w _ hx129_0)).trans hx129_0;replace p129:=bO p129;replace q129:=bO q129;go_wp2;go_ret;exact ⟨(by first|rfl|(simp [dS,dR]<;>rfl)|(simp only [←hji26];first|rfl|(simp [dS,dR]<;>rfl))|(simp [*,dS,dR]<;>rfl)),nQ⟩
            ·rw [if_neg c28] at H
             exact absurd H (by simp)
           ·rw [if_neg c27] at H
            exact absurd H (by simp)
       ·replace c18 := Bool.eq_false_iff.mpr c18
        subst c18;rw [if_neg (show¬(false=true) by decide)] at H;by_cases c30:(wrap64 (a2+0))>a3
        ·rw [if_pos c30] at H
         have c30b0:decide (a3<(wrap64 (a2+0)))=true:=bD c30
         simp only [Int.add_zero] at c30b0;clear c30;obtain rfl:=bE H;go_wp2;go_ret;exact ⟨zL,nQ⟩
        ·rw [if_neg c30] at H
         have c30b0:decide (a3<(wrap64 (a2+0)))=false:=bM c30
         simp only [Int.add_zero] at c30b0;clear c30;obtain rfl:=bE H;go_wp2;go_ret;exact ⟨zL,nQ⟩
   ·rw [if_neg c7] at H
    exact absurd H (by simp)
  ·rw [if_neg c6] at H
   exact absurd H (by simp)
end Go.Proofs.Ytbaklikaoleplaa.K
namespace Go.Proofs.Ytbaklikaoleplaa.K
open Go.RowKit Go.Proofs.YtbaklikaoleplaaW.PrintWords Go.Proofs.YtbaklikaoleplaaW.PrintLast Go.Proofs.YtbaklikaoleplaaW.PrintMore
attribute [local go_sem] gD gB gY gW fR fQ gC gA
set_option linter.unusedVariables false
set_option linter.unusedSimpArgs false
def gN:Nat→List (S53)→List Bool→Int→Int→Option (List Bool)
  |0,_,_,_,_=>none
  |k+1,x0,x7,x8,x9=>if x9<(x7.length:Int) then (if x8=(-2) then (if 0≤x9 then (gN k x0 (x7.set (x9:Int).toNat true) x8 (wrap64 (x9+1))) else (none)) else (if x8≥0 then ((jP k x0 x8).bind fun t182=>(if 0≤(wrap64 (x9 - 1)) then (if (wrap64 (x9 - 1))<(t182.length:Int) then (if 0≤x9 then (gN k x0 (x7.set (x9:Int).toNat ((rd t182 (wrap64 (x9 - 1))) !=1)) x8 (wrap64 (x9+1))) else (none)) else (none)) else (none))) else (if 0≤x9 then (gN k x0 (x7.set (x9:Int).toNat false) x8 (wrap64 (x9+1))) else (none)))) else (some x7)
def mQ (k:Nat) (l0:List (S53)) (l1:List Int) (a2:Int):Option (List Bool):=(jN k l0 l1 a2 (l1.length:Int)).bind fun t175=>(if 0≤t175 then (if (t175:Int).toNat≤281474976710656 then (if 0≤a2 then (if a2<(l1.length:Int) then ((jD (rd l1 a2)).bind fun t180=>(gN k l0 (List.replicate (t175:Int).toNat false) (rd l1 a2) t180)) else (none)) else (none)) else (none)) else (none))
theorem tH (k : Nat) (A0 : Option Addr) (c0 : Nat) (l0 : List (S53)) (A1 : Option Addr) (c1 : Nat) (l1 : List Int) (a2 : Int) (r : List Bool) (w : World) (hr0 : Kd.C tU w A0 l0.length l0) (hc0 : l0.length ≤ c0) (hr1 : Kd.C (Kd.int .i64) w A1 l1.length l1) (hc1 : l1.length ≤ c1) (h : mQ k l0 l1 a2 = some r) :
  Calls Try.prog 74 #[.slice A0 l0.length c0,.slice A1 l1.length c1,.int .i64 a2] w fun e w'=> ∃v0_:Value,e= .returned (v0_)∧Kd.R Kd.bool 4 w' w.heap.size (fun _=>True) v0_ r∧Below w.heap.size w w':=by
 have HR0:=aK hr0;have HC0:=aK hc0;clear hr0 hc0;have HR1:=aK hr1;have HC1:=aK hc1;clear hr1 hc1;have HB:=aK (bH w.heap.size w);have H:((jN k l0 l1 a2 (l1.length:Int)).bind fun t175=>(if 0≤t175 then (if (t175:Int).toNat≤281474976710656 then (if 0≤a2 then (if a2<(l1.length:Int) then ((jD (rd l1 a2)).bind fun t180=>(gN k l0 (List.replicate (t175:Int).toNat false) (rd l1 a2) t180)) else (none)) else (none)) else (none)) else (none)))=some r:=h
 clear h;replace H:=Option.bind_eq_some_iff.mp H;obtain ⟨t175,A40,H⟩:=H;(try dsimp only at H);have A4:=aK A40;clear A40;by_cases c5:0≤t175
 ·rw [if_pos c5] at H
  have c5b0:=bO c5;have c5b1:decide (0≤t175)=true:=bD c5
  clear c5;by_cases c6:(t175:Int).toNat≤281474976710656
  ·rw [if_pos c6] at H
   have c6b0:=bO c6;have c6b1:decide ((t175:Int).toNat≤281474976710656)=true:=bD c6
   clear c6;obtain ⟨y176,hy176⟩: ∃y_:List Bool,y_=(List.replicate (t175:Int).toNat false):=⟨_,rfl⟩;replace H:(if 0≤a2 then (if a2<(l1.length:Int) then ((jD (rd l1 a2)).bind fun t180=>(gN k l0 y176 (rd l1 a2) t180)) else (none)) else (none))=some r:=by first|(rw [hy176];with_reducible exact H)|(have H2_:=(bC _ _).symm.trans H;rw [hy176];with_reducible exact H2_)|(have H2_:=(bC _ _).symm.trans H;with_reducible exact H2_)|with_reducible exact H|(rw [hy176];exact H)|exact H
   have Ny176:=aK hy176;clear hy176;by_cases c7:0≤a2
   ·rw [if_pos c7] at H
    have c7b0:decide (0≤a2)=true:=bD c7
    clear c7;by_cases c8:a2<(l1.length:Int)
    ·rw [if_pos c8] at H
     have c8b0:decide (a2<(l1.length:Int))=true:=bD c8
     clear c8;replace H:=Option.bind_eq_some_iff.mp H;obtain ⟨t180,A90,H⟩:=H;(try dsimp only at H);have A9:=aK A90;clear A90;have H':=aK H;clear H;go_enter Try.func74,Try.ntmps74
     go_wp2_with (first|((with_reducible refine dG (f:=48) rfl ?_);refine gE (some 15) rfl rfl Try.func48 (by kernel_rfl) rfl #[.slice A0 l0.length c0,.slice A1 l1.length c1,.int .i64 a2,.int .i64 (l1.length:Int)] rfl qD ?_;(with_reducible refine (pR k _ _ l0 _ _ l1 a2 (l1.length:Int) t175 _ ?side1 ?side2 ?side3 ?side4 A4.out).mono ?_);(case side1=>exact zz44);(case side2=>exact HC0.out);(case side3=>exact (by repeat (first|exact HR1.out|(with_reducible refine Kd.C_alloc ?_ _)|(with_reducible refine Kd.C_drewN ?_ _)|(with_reducible refine Kd.C_drew ?_))));(case side4=>exact HC1.out);rintro e w10 ⟨rfl,hb⟩;refine ⟨_,rfl,?_⟩;replace HB:=aK (bK nQ hb);(try clear hb);(try clear hb2);(try clear hk);(try clear hi))|((with_reducible refine dK (N:=16) rfl ?_);refine Kd.R_make Kd.bool _ 4 rfl (N:=16) rfl 24 _ _ rfl t175 rfl rfl Try.underlying24 (.bool false) 1 bGa rfl (by decide) (by omega) false (ok:=fun _=>True) (okp:=fun _=>True) rfl (fun _ hk=>hk) dT (bB jX) (dO (fE _ (bB jX:t175.toNat≤281474976710656)) (by omega)) (bH _ _) (bV _) ?_;intro v177 w11 ho12 hb hg_ hnew_;clear hg_ hnew_;(first|rw [←Ny176.out] at ho12|(simp only [Int.reduceToNat] at ho12;rw [←Ny176.out] at ho12));have HO178:=aK (dE ho12 (bW nQ));replace HB:=aK (bK nQ hb);clear hb ho12;have p179:0≤(a2:Int):=bB jX;have q179:a2<(l1.length:Int):=bB jX;obtain ⟨ad179,e179,hx179_0⟩:=dL HR1.out a2 p179 q179;cases e179;replace hx179_0:=(HB.out.cell (bN w _ hx179_0)).trans hx179_0;replace p179:=bO p179;replace q179:=bO q179)|((with_reducible refine dG (f:=104) rfl ?_);refine gE (some 22) rfl rfl Try.func104 (by kernel_rfl) rfl #[.int .i64 (rd l1 a2)] rfl qD ?_;(with_reducible refine (tI (rd l1 a2) t180 _ A9.out).mono ?_);rintro e w' ⟨rfl,⟨nd,rfl⟩⟩;refine ⟨_,rfl,?_⟩))
     go_loopg [9] k (fun kq v9 w'=> ∃(x7_1:List Bool) (x9_1:Int),v9= .int .i64 x9_1∧Aside0 (gN kq l0 x7_1 (rd l1 a2) x9_1=some r)∧Aside0 (kq≤k)∧Aside0 (Kd.R Kd.bool 4 w' w.heap.size (fun _=>True) v177 x7_1)∧Aside0 (Below w.heap.size w w'))
     case atStart=>exact ⟨(y176),(t180),nR,H',⟨bV _⟩,⟨by (with_reducible repeat (first|apply Kd.R_alloc|apply dA|apply dC));exact HO178.out⟩,⟨by repeat (first|(with_reducible first|exact HB.out|apply bJ|apply bI|apply bG)|exact HB.out)⟩⟩
     case round =>
      clear H';(try clear c1);(try clear p1);(try clear q1);(try clear hx1);(try clear p2);(try clear c4);(try clear c5);(try clear c5b0);(try clear c5b1);(try clear c6);(try clear c6b0);(try clear c6b1);(try clear c7);(try clear c7b0);(try clear c8);(try clear c8b0);(try clear c10);(try clear hx179_0);(try clear p179);(try clear q179);obtain ⟨x7_1,x9_1,rfl,HA,HK1,HO_7,HB⟩:=hrel
      cases gk with
      |zero=>exact absurd HA.out (by simp [gN])
      | succ k1 =>
       have H:=HA.out;clear HA;simp only [gN] at H;by_cases c13:x9_1<(x7_1.length:Int)
       ·rw [if_pos c13] at H
        have c13b0:decide (x9_1<(x7_1.length:Int))=true:=bD c13
        clear c13;by_cases c14:(rd l1 a2)=(-2)
        ·rw [if_pos c14] at H
         have c14b0:((rd l1 a2)==(-2))=true:=zH.mpr c14
         have c14b1:((rd l1 a2) !=(-2))=false:=bne_eq_false_iff_eq.mpr c14
         clear c14;by_cases c15:0≤x9_1
         ·rw [if_pos c15] at H
          have c15b0:decide (0≤x9_1)=true:=bD c15
          clear c15;obtain ⟨y181,hy181⟩: ∃y_:List Bool,y_=(x7_1.set (x9_1:Int).toNat true):=⟨_,rfl⟩;replace H:(gN k1 l0 y181 (rd l1 a2) (wrap64 (x9_1+1)))=some r:=by first|(rw [hy181];with_reducible exact H)|(have H2_:=(bC _ _).symm.trans H;rw [hy181];with_reducible exact H2_)|(have H2_:=(bC _ _).symm.trans H;with_reducible exact H2_)|with_reducible exact H|(rw [hy181];exact H)|exact H
          have Ny181:=aK hy181;clear hy181;have H':=aK H;clear H;obtain ⟨Ao17,co17,eo17⟩:=cL HO_7.out;subst eo17;have p16:0≤(x9_1:Int):=bB jX
          have q16:(x9_1:Int)<((x7_1.length:Int):Int):=bB jX
          obtain ⟨go16,co16,eo16,gb16,gl16,cl16,HG16⟩:=pG HO_7.out (by omega)
          (first|cases eo16|(injection eo16 with ea_ en_ ec_;(first|subst ea_|(injection ea_ with ea_;subst ea_));subst ec_;clear en_))
          have GB16:=aK gb16;have GG16:=aK HG16;clear gb16 gl16 HG16;obtain ⟨hx16_0,hf16_0⟩:=Kd.R_celln false HO_7.out (x9_1:Int) p16 q16;replace p16:=bO p16;replace q16:=bO q16;have HP18:=Kd.R_putg HO_7.out (x9_1:Int) true
          go_wp2_with (first|((with_reducible refine fX (t:=4) (p:=47) rfl ?_);refine fN (t:=4) (p:=47) (v:=?vo_w19) (w1:=(wr.setCell ⟨go16,(x9_1:Int).toNat,none⟩ (.bool true))) ?hg ?ho ?hn ?hr ?_;(case ho=>rfl);(case hg=>rfl);(case hn=>rfl);(case hr=>first|(go_simp;done)|(go_simp;rfl)|((try (first|(obtain ⟨_,_,rfl⟩:=cL HO_7.out)|(obtain ⟨_,_,rfl⟩:=vV HO_7.out)));first|(go_simp;done)|(go_simp;rfl)));intro w19 hw;have hg:wr.grownBy w19 (some go16):=(by rw [hw];exact HP18.2);have hp_:Kd.R Kd.bool 4 w19 w.heap.size (fun _=>True) (.slice (some ⟨go16,0,none⟩) x7_1.length co17) y181:=(by rw [hw,Ny181.out];exact HP18.1);clear HP18;replace HO_7:=aK (hp_);replace HB:=aK ((by rw [hw];exact cE (HB.out) GB16.out:Below w.heap.size w w19));clear hg hw hp_))
          go_roundg k1
          case measure=>have:=HK1.out;omega
          case rel=>exact ⟨(y181),(wrap64 (x9_1+1)),nR,H',⟨by have:=HK1.out;omega⟩,⟨by (with_reducible repeat (first|apply Kd.R_alloc|apply dA|apply dC));exact HO_7.out⟩,⟨by repeat (first|(with_reducible first|exact HB.out|apply bJ|apply bI|apply bG)|exact HB.out)⟩⟩
         ·rw [if_neg c15] at H
          exact absurd H (by simp)
        ·rw [if_neg c14] at H
         have c14b0:((rd l1 a2)==(-2))=false:=xP.mpr c14
         have c14b1:((rd l1 a2) !=(-2))=true:=bne_iff_ne.mpr c14
         by_cases c20:(rd l1 a2)≥0
         ·rw [if_pos c20] at H
          have c20b0:decide (0≤(rd l1 a2))=true:=bD c20
          clear c20;replace H:=Option.bind_eq_some_iff.mp H;obtain ⟨t182,A210,H⟩:=H;(try dsimp only at H);have A21:=aK A210;clear A210;obtain ⟨ji22,hji22⟩: ∃j_:Int,(wrap64 (x9_1 - 1))=j_:=⟨_,rfl⟩;replace H:(if 0≤(ji22) then (if (ji22)<(t182.length:Int) then (if 0≤x9_1 then (gN k1 l0 (x7_1.set (x9_1:Int).toNat ((rd t182 (ji22)) !=1)) (rd l1 a2) (wrap64 (x9_1+1))) else (none)) else (none)) else (none))=some r:=by first|(rw [hji22] at H;exact H)|(simp only [hji22] at H ⊢;exact H)
          (try rw [hji22] at A21)
          have hji22w:(IntKind.i64.wrap (x9_1 - 1))=ji22:=(mN _).trans hji22
          by_cases c23:0≤(ji22)
          ·rw [if_pos c23] at H
           have c23b0:decide (0≤(ji22))=true:=bD c23
           clear c23;by_cases c24:(ji22)<(t182.length:Int)
           ·rw [if_pos c24] at H
            have c24b0:decide ((ji22)<(t182.length:Int))=true:=bD c24
            clear c24;by_cases c25:0≤x9_1
            ·rw [if_pos c25] at H
             have c25b0:decide (0≤x9_1)=true:=bD c25
             clear c25;obtain ⟨y186,hy186⟩: ∃y_:List Bool,y_=(x7_1.set (x9_1:Int).toNat ((rd t182 (ji22)) !=1)):=⟨_,rfl⟩;replace H:(gN k1 l0 y186 (rd l1 a2) (wrap64 (x9_1+1)))=some r:=by first|(rw [hy186];with_reducible exact H)|(have H2_:=(bC _ _).symm.trans H;rw [hy186];with_reducible exact H2_)|(have H2_:=(bC _ _).symm.trans H;with_reducible exact H2_)|with_reducible exact H|(rw [hy186];exact H)|exact H
             have Ny186:=aK hy186;clear hy186;have H':=aK H;clear H;obtain ⟨Ao27,co27,eo27⟩:=cL HO_7.out;subst eo27
             go_wp2_with (first|(go_at_call 75;(with_reducible refine (qY k1 _ _ l0 (rd l1 a2) t182 _ ?side1 ?side2 A21.out).mono ?_);(case side1=>exact bDl);(case side2=>exact HC0.out);rintro e w28 ⟨v183,rfl,ho0,hb⟩;have HO184:=aK (dE ho0 (bW nQ));replace HO_7:=aK (bZ (by (with_reducible repeat (first|apply Kd.R_alloc|apply dA|apply dC));exact HO_7.out) hb);replace HB:=aK (bK nQ hb);(try clear hb);(try clear hb2);(try clear hk);(try clear hi);(try clear ho0);obtain ⟨Ao29,co29,eo29⟩:=cL HO184.out;subst eo29;have p185:0≤((ji22):Int):=bB jX;have q185:(ji22)<(t182.length:Int):=bB jX;obtain ⟨ad185,e185,hx185_0⟩:=dL (cD HO184.out).2.2 (ji22) p185 q185;cases e185;replace p185:=bO p185;replace q185:=bO q185;have p26:0≤(x9_1:Int):=bB jX;have q26:(x9_1:Int)<((x7_1.length:Int):Int):=bB jX;obtain ⟨go26,co26,eo26,gb26,gl26,cl26,HG26⟩:=pG HO_7.out (by omega);(first|cases eo26|(injection eo26 with ea_ en_ ec_;(first|subst ea_|(injection ea_ with ea_;subst ea_));subst ec_;clear en_));have GB26:=aK gb26;have GG26:=aK HG26;clear gb26 gl26 HG26;obtain ⟨hx26_0,hf26_0⟩:=Kd.R_celln false HO_7.out (x9_1:Int) p26 q26;replace p26:=bO p26;replace q26:=bO q26;obtain ⟨hy30_,hz30_⟩:=Kd.R_celln false HO_7.out (x9_1:Int) (bB jX) (bB jX);have HP30:=Kd.R_putg HO_7.out (x9_1:Int) ((rd t182 (ji22)) !=1))|((with_reducible refine fX (t:=4) (p:=47) rfl ?_);refine fN (t:=4) (p:=47) (v:=?vo_w31) (w1:=(w28.setCell ⟨go26,(x9_1:Int).toNat,none⟩ (.bool ((rd t182 (ji22)) !=1)))) ?hg ?ho ?hn ?hr ?_;(case ho=>rfl);(case hg=>rfl);(case hn=>rfl);(case hr=>first|(go_simp;done)|(go_simp;rfl)|((try (first|(obtain ⟨_,_,rfl⟩:=cL HO184.out)|(obtain ⟨_,_,rfl⟩:=vV HO184.out)));(try (first|(obtain ⟨_,_,rfl⟩:=cL HO_7.out)|(obtain ⟨_,_,rfl⟩:=vV HO_7.out)));first|(go_simp;done)|(go_simp;rfl)));intro w31 hw;have hg:w28.grownBy w31 (some go26):=(by rw [hw];exact HP30.2);have hp_:Kd.R Kd.bool 4 w31 w.heap.size (fun _=>True) (.slice (some ⟨go26,0,none⟩) x7_1.length co27) y186:=(by rw [hw,Ny186.out];exact HP30.1);clear HP30;replace HO184:=aK (Kd.R_over' (v:=(.slice (some ⟨go26,0,none⟩) x7_1.length co27)) (by (with_reducible repeat (first|apply Kd.R_alloc|apply dA|apply dC));exact HO184.out) (Kd.R_typed HO_7.out) (by decide) hg);replace HO_7:=aK (hp_);replace HB:=aK ((by rw [hw];exact cE (HB.out) GB26.out:Below w.heap.size w w31));clear hg hw hp_))
             go_roundg k1
             case measure=>have:=HK1.out;omega
             case rel=>exact ⟨(y186),(wrap64 (x9_1+1)),nR,H',⟨by have:=HK1.out;omega⟩,⟨by (with_reducible repeat (first|apply Kd.R_alloc|apply dA|apply dC));exact HO_7.out⟩,⟨by repeat (first|(with_reducible first|exact HB.out|apply bJ|apply bI|apply bG)|exact HB.out)⟩⟩
            ·rw [if_neg c25] at H
             exact absurd H (by simp)
           ·rw [if_neg c24] at H
            exact absurd H (by simp)
          ·rw [if_neg c23] at H
           exact absurd H (by simp)
         ·rw [if_neg c20] at H
          have c20b0:decide (0≤(rd l1 a2))=false:=bM c20
          clear c20;by_cases c32:0≤x9_1
          ·rw [if_pos c32] at H
           have c32b0:decide (0≤x9_1)=true:=bD c32
           clear c32;obtain ⟨y187,hy187⟩: ∃y_:List Bool,y_=(x7_1.set (x9_1:Int).toNat false):=⟨_,rfl⟩;replace H:(gN k1 l0 y187 (rd l1 a2) (wrap64 (x9_1+1)))=some r:=by first|(rw [hy187];with_reducible exact H)|(have H2_:=(bC _ _).symm.trans H;rw [hy187];with_reducible exact H2_)|(have H2_:=(bC _ _).symm.trans H;with_reducible exact H2_)|with_reducible exact H|(rw [hy187];exact H)|exact H
           have Ny187:=aK hy187;clear hy187;have H':=aK H;clear H;obtain ⟨Ao34,co34,eo34⟩:=cL HO_7.out;subst eo34;have p33:0≤(x9_1:Int):=bB jX
           have q33:(x9_1:Int)<((x7_1.length:Int):Int):=bB jX
           obtain ⟨go33,co33,eo33,gb33,gl33,cl33,HG33⟩:=pG HO_7.out (by omega)
           (first|cases eo33|(injection eo33 with ea_ en_ ec_;(first|subst ea_|(injection ea_ with ea_;subst ea_));subst ec_;clear en_))
           have GB33:=aK gb33;have GG33:=aK HG33;clear gb33 gl33 HG33;obtain ⟨hx33_0,hf33_0⟩:=Kd.R_celln false HO_7.out (x9_1:Int) p33 q33;replace p33:=bO p33;replace q33:=bO q33;have HP35:=Kd.R_putg HO_7.out (x9_1:Int) false
           go_wp2_with (first|((with_reducible refine fX (t:=4) (p:=47) rfl ?_);refine fN (t:=4) (p:=47) (v:=?vo_w36) (w1:=(wr.setCell ⟨go33,(x9_1:Int).toNat,none⟩ (.bool false))) ?hg ?ho ?hn ?hr ?_;(case ho=>rfl);(case hg=>rfl);(case hn=>rfl);(case hr=>first|(go_simp;done)|(go_simp;rfl)|((try (first|(obtain ⟨_,_,rfl⟩:=cL HO_7.out)|(obtain ⟨_,_,rfl⟩:=vV HO_7.out)));first|(go_simp;done)|(go_simp;rfl)));intro w36 hw;have hg:wr.grownBy w36 (some go33):=(by rw [hw];exact HP35.2);have hp_:Kd.R Kd.bool 4 w36 w.heap.size (fun _=>True) (.slice (some ⟨go33,0,none⟩) x7_1.length co34) y187:=(by rw [hw,Ny187.out];exact HP35.1);clear HP35;replace HO_7:=aK (hp_);replace HB:=aK ((by rw [hw];exact cE (HB.out) GB33.out:Below w.heap.size w w36));clear hg hw hp_))
           go_roundg k1
           case measure=>have:=HK1.out;omega
           case rel=>exact ⟨(y187),(wrap64 (x9_1+1)),nR,H',⟨by have:=HK1.out;omega⟩,⟨by (with_reducible repeat (first|apply Kd.R_alloc|apply dA|apply dC));exact HO_7.out⟩,⟨by repeat (first|(with_reducible first|exact HB.out|apply bJ|apply bI|apply bG)|exact HB.out)⟩⟩
          ·rw [if_neg c32] at H
           exact absurd H (by simp)
       ·rw [if_neg c13] at H
        have c13b0:decide (x9_1<(x7_1.length:Int))=false:=bM c13
        clear c13;obtain rfl:=bE H;obtain ⟨Ao37,co37,eo37⟩:=cL HO_7.out;subst eo37;go_wp2;go_ret;exact ⟨_,by first|rfl|(simp [dS,dR]<;>rfl)|(simp [*,dS,dR]<;>rfl),by (with_reducible repeat (first|apply Kd.R_alloc|apply dA|apply dC));exact HO_7.out,by repeat (first|(with_reducible first|exact HB.out|apply bJ|apply bI|apply bG)|exact HB.out)⟩
    ·rw [if_neg c8] at H
     exact absurd H (by simp)
   ·rw [if_neg c7] at H
    exact absurd H (by simp)
  ·rw [if_neg c6] at H
   exact absurd H (by simp)
 ·rw [if_neg c5] at H
  exact absurd H (by simp)
end Go.Proofs.Ytbaklikaoleplaa.K
