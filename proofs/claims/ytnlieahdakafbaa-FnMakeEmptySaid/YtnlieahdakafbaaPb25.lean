import Derived.Test.YtnlieahdakafbaaPb24
namespace Go.Proofs.Ytnlieahdakafbaa.K
open Go.RowKit Go.Proofs.YtnlieahdakafbaaW.PrintWords Go.Proofs.YtnlieahdakafbaaW.PrintLast Go.Proofs.YtnlieahdakafbaaW.PrintMore
attribute [local go_sem] max2_int min2_int max_two min_two max_three min_three max_four min_four
set_option linter.unusedVariables false
set_option linter.unusedSimpArgs false
def spec_l21Part.l0:Nat→List (S112)→List Int→Int→Int→List Int→Option (List Int×Bool)
  |0,_,_,_,_,_=>none
  |k+1,x0,x1,x2,x3,x10=>if x2<x3 then ((spec_l21Size.f k x0 x1 x2 x3).bind fun t234=>(if t234=0 then (some (x10,false)) else (if x10.length<17592186044416 then (spec_l21Part.l0 k x0 x1 (wrap64 (x2+t234)) x3 (x10++[x2])) else (none)))) else (some (x10,true))
def spec_l21Part.f (k:Nat) (l0:List (S112)) (l1:List Int) (a2:Int) (a3:Int):Option (List Int×Bool):=spec_l21Part.l0 k l0 l1 a2 a3 (([]:List Int))
set_option maxHeartbeats 8000000 in
set_option maxRecDepth 100000 in
theorem spec_l21Part.calls (k:Nat) (A0:Option Addr) (c0:Nat) (l0:List (S112)) (A1:Option Addr) (c1:Nat) (l1:List Int) (a2:Int) (a3:Int) (r1:List Int) (r2:Bool) (w:World) (hr0:Kd.C k112 w A0 l0.length l0) (hc0:l0.length≤c0) (hr1:Kd.C (Kd.int .i64) w A1 l1.length l1) (hc1:l1.length≤c1) (h:spec_l21Part.f k l0 l1 a2 a3=some (r1,r2)):
  Calls Try.prog 82 #[.slice A0 l0.length c0,.slice A1 l1.length c1,.int .i64 a2,.int .i64 a3] w fun e w'=> ∃v0_:Value,e= .returned (.tuple #[v0_,.bool r2])∧Kd.R (Kd.int .i64) 3 w' w.heap.size (fun _=>True) v0_ r1∧Below w.heap.size w w':=by
 have HR0:=aK hr0;have HC0:=aK hc0;clear hr0 hc0;have HR1:=aK hr1;have HC1:=aK hc1;clear hr1 hc1;have HB:=aK (Below.refl w.heap.size w);have H:(spec_l21Part.l0 k l0 l1 a2 a3 (([]:List Int)))=some (r1,r2):=h
 clear h;obtain ⟨y231,hy231⟩: ∃y_:List Int,y_=(([]:List Int)):=⟨_,rfl⟩;replace H:(spec_l21Part.l0 k l0 l1 a2 a3 y231)=some (r1,r2):=by first|(rw [hy231];with_reducible exact H)|(have H2_:=(Option.bind_some _ _).symm.trans H;rw [hy231];with_reducible exact H2_)|(have H2_:=(Option.bind_some _ _).symm.trans H;with_reducible exact H2_)|with_reducible exact H|(rw [hy231];exact H)|exact H
 have Ny231:=aK hy231;clear hy231;have H':=aK H;clear H;go_enter Try.func82,Try.ntmps82
 go_wp2_with (first|((with_reducible refine gate_dst (N:=12) rfl ?_);refine Kd.R_lit (Kd.int .i64) _ 3 ?hg (N:=12) ?hd (xs:=([]:List Int)) (inner:=[]) (ok:=fun _=>True) (okp:=fun _=>True) ?hr ?hp (fun _ hk=>hk) trivial (Below.refl _ _) (Nat.le_refl _) (by simp) ?_;(case hd=>rfl);(case hg=>rfl);(case hr=>first|(go_simp;done)|(go_simp;rfl));(case hp=>exact (Reps.none _ _));intro v232 w5 ho6 hb hg_ hnew_;clear hg_ hnew_;(first|rw [←Ny231.out] at ho6|(simp only [Int.reduceToNat] at ho6;rw [←Ny231.out] at ho6));have HO233:=aK (Kd.R_lower ho6 (below_size z1));replace HB:=aK (below_step z1 hb);clear hb ho6))
 go_loopg [2,10] k (fun kq v2 v10 w'=> ∃(x2_1:Int) (x10_1:List Int),v2= .int .i64 x2_1∧Aside0 (spec_l21Part.l0 kq l0 l1 x2_1 a3 x10_1=some (r1,r2))∧Aside0 (kq≤k)∧Aside0 (Kd.R (Kd.int .i64) 3 w' w.heap.size (fun _=>True) v10 x10_1)∧Aside0 (Below w.heap.size w w'))
 case atStart=>exact ⟨(a2),(y231),z7,H',⟨Nat.le_refl _⟩,⟨by (with_reducible repeat (first|apply Kd.R_alloc|apply Kd.R_drewN|apply Kd.R_drew));exact HO233.out⟩,⟨by repeat (first|(with_reducible first|exact HB.out|apply below_alloc|apply pw_below_drewN|apply below_drew1)|exact HB.out)⟩⟩
 case round =>
  clear H';(try clear c1);(try clear p2);obtain ⟨x2_1,x10_1,rfl,HA,HK1,HO_10,HB⟩:=hrel
  cases gk with
  |zero=>exact absurd HA.out (by simp [spec_l21Part.l0])
  | succ k1 =>
   have H:=HA.out;clear HA;simp only [spec_l21Part.l0] at H;by_cases c7:x2_1<a3
   ·rw [if_pos c7] at H
    have c7b0:decide (x2_1<a3)=true:=decide_eq_true c7
    clear c7;replace H:=Option.bind_eq_some_iff.mp H;obtain ⟨t234,A80,H⟩:=H;(try dsimp only at H);have A8:=aK A80;clear A80;by_cases c9:t234=0
    ·rw [if_pos c9] at H
     have c9b0:(t234==0)=true:=beq_iff_eq.mpr c9
     have c9b1:(t234 !=0)=false:=bne_eq_false_iff_eq.mpr c9
     clear c9;simp only [Option.some.injEq,Prod.mk.injEq] at H;obtain ⟨rfl,rfl⟩:=H
     go_wp2_with (first|((with_reducible refine gate_callee (f:=80) rfl ?_);refine goesL_ (some 20) rfl rfl Try.func80 (by kernel_rfl) rfl #[.slice A0 l0.length c0,.slice A1 l1.length c1,.int .i64 x2_1,.int .i64 a3] rfl z2 ?_;(with_reducible refine (spec_l21Size.calls k1 _ _ l0 _ _ l1 x2_1 a3 t234 _ ?side1 ?side2 ?side3 ?side4 A8.out).mono ?_);(case side1=>exact z5);(case side2=>exact HC0.out);(case side3=>exact (by repeat (first|exact (Kd.C_below HR1.out HB.out)|(with_reducible refine Kd.C_alloc ?_ _)|(with_reducible refine Kd.C_drewN ?_ _)|(with_reducible refine Kd.C_drew ?_))));(case side4=>exact HC1.out);rintro e w10 ⟨rfl,hb⟩;refine ⟨_,rfl,?_⟩;replace HO_10:=aK (Kd.R_below (by (with_reducible repeat (first|apply Kd.R_alloc|apply Kd.R_drewN|apply Kd.R_drew));exact HO_10.out) hb);replace HB:=aK (below_step z1 hb);(try clear hb);(try clear hb2);(try clear hk);(try clear hi)))
     go_ret2
     exact ⟨_,by first|rfl|(simp [errW_none,errW_some]<;>rfl)|(simp [*,errW_none,errW_some]<;>rfl),by (with_reducible repeat (first|apply Kd.R_alloc|apply Kd.R_drewN|apply Kd.R_drew));exact HO_10.out,by repeat (first|(with_reducible first|exact HB.out|apply below_alloc|apply pw_below_drewN|apply below_drew1)|exact HB.out)⟩
    ·rw [if_neg c9] at H
     have c9b0:(t234==0)=false:=beq_eq_false_iff_ne.mpr c9
     have c9b1:(t234 !=0)=true:=bne_iff_ne.mpr c9
     by_cases c11:x10_1.length<17592186044416
     ·rw [if_pos c11] at H
      have LMc11:=aK c11;clear c11;obtain ⟨y235,hy235⟩: ∃y_:List Int,y_=(x10_1++[x2_1]):=⟨_,rfl⟩;replace H:(spec_l21Part.l0 k1 l0 l1 (wrap64 (x2_1+t234)) a3 y235)=some (r1,r2):=by first|(rw [hy235];with_reducible exact H)|(have H2_:=(Option.bind_some _ _).symm.trans H;rw [hy235];with_reducible exact H2_)|(have H2_:=(Option.bind_some _ _).symm.trans H;with_reducible exact H2_)|with_reducible exact H|(rw [hy235];exact H)|exact H
      have Ny235:=aK hy235;clear hy235;have H':=aK H;clear H
      go_wp2_with (first|((with_reducible refine gate_callee (f:=80) rfl ?_);refine goesL_ (some 20) rfl rfl Try.func80 (by kernel_rfl) rfl #[.slice A0 l0.length c0,.slice A1 l1.length c1,.int .i64 x2_1,.int .i64 a3] rfl z2 ?_;(with_reducible refine (spec_l21Size.calls k1 _ _ l0 _ _ l1 x2_1 a3 t234 _ ?side1 ?side2 ?side3 ?side4 A8.out).mono ?_);(case side1=>exact z5);(case side2=>exact HC0.out);(case side3=>exact (by repeat (first|exact (Kd.C_below HR1.out HB.out)|(with_reducible refine Kd.C_alloc ?_ _)|(with_reducible refine Kd.C_drewN ?_ _)|(with_reducible refine Kd.C_drew ?_))));(case side4=>exact HC1.out);rintro e w12 ⟨rfl,hb⟩;refine ⟨_,rfl,?_⟩;replace HO_10:=aK (Kd.R_below (by (with_reducible repeat (first|apply Kd.R_alloc|apply Kd.R_drewN|apply Kd.R_drew));exact HO_10.out) hb);replace HB:=aK (below_step z1 hb);(try clear hb);(try clear hb2);(try clear hk);(try clear hi))|((with_reducible refine gate_builtin (b:= .append) (xs:= #[.tmp 24,.tmp 26]) rfl ?_);at_builtin;refine Kd.R_append (Kd.int .i64) (w0:=w) w.heap.size rfl (.tmp 24) (.tmp 26) 24 3 (.int .i64 0) 8 rfl Try.underlying24 info3 rfl (by decide) (by omega) u10 x10_1 x2_1 [.int .i64 x2_1] (fun _=>True) (fun _=>False) rfl rfl ?aP (fun _ hk=>hk.elim) ?aF ?aO ?aB ?aS ?aL ?_;(case aP=>exact rfl);(case aB=>exact z1);(case aF=>exact (fun _ _=>trivial));(case aO=>exact (by (with_reducible repeat (first|apply Kd.R_alloc|apply Kd.R_drewN|apply Kd.R_drew));exact HO_10.out));(case aS=>exact (below_size z1));(case aL=>have:=LMc11.out;omega);intro v236 w13 ho hb hg hat;rw [←Ny235.out] at ho;have n0_:=aK (hb);have n1_:=aK (ho);clear HB;clear HO_10;have HB:=n0_;have HO237:=n1_;clear n0_ n1_;clear ho hb hg hat))
      go_roundg k1
      case measure=>have:=HK1.out;omega
      case rel=>exact ⟨(wrap64 (x2_1+t234)),(y235),z7,H',⟨by have:=HK1.out;omega⟩,⟨by (with_reducible repeat (first|apply Kd.R_alloc|apply Kd.R_drewN|apply Kd.R_drew));exact HO237.out⟩,⟨by repeat (first|(with_reducible first|exact HB.out|apply below_alloc|apply pw_below_drewN|apply below_drew1)|exact HB.out)⟩⟩
     ·rw [if_neg c11] at H
      exact absurd H (by simp)
   ·rw [if_neg c7] at H
    have c7b0:decide (x2_1<a3)=false:=decide_eq_false c7
    clear c7;simp only [Option.some.injEq,Prod.mk.injEq] at H;obtain ⟨rfl,rfl⟩:=H;go_wp2
    go_ret2
    exact ⟨_,by first|rfl|(simp [errW_none,errW_some]<;>rfl)|(simp [*,errW_none,errW_some]<;>rfl),by (with_reducible repeat (first|apply Kd.R_alloc|apply Kd.R_drewN|apply Kd.R_drew));exact HO_10.out,by repeat (first|(with_reducible first|exact HB.out|apply below_alloc|apply pw_below_drewN|apply below_drew1)|exact HB.out)⟩
def spec_l21Walk.f (k:Nat) (l0:List (S112)) (l1_0:List Int) (a1_1:Int) (a1_2:Int) (a1_3:Int) (l1_4:List Bool):Option (List Int×Bool):=(spec_l21Part.f k l0 l1_0 0 a1_2).bind fun bt239=>((spec_l21Part.f k l0 l1_0 a1_1 a1_3).bind fun bt243=>(if bt239.1.length+bt243.1.length<17592186044416 then ((some (bt239.1++bt243.1:List Int)).bind fun y247=>(if bt239.2=true then (some (y247,bt243.2)) else (some (y247,false)))) else (none)))
set_option maxHeartbeats 8000000 in
set_option maxRecDepth 100000 in
theorem spec_l21Walk.calls (k:Nat) (A0:Option Addr) (c0:Nat) (l0:List (S112)) (A1_0:Option Addr) (c1_0:Nat) (l1_0:List Int) (a1_1:Int) (a1_2:Int) (a1_3:Int) (A1_4:Option Addr) (c1_4:Nat) (l1_4:List Bool) (r1:List Int) (r2:Bool) (w:World) (hr0:Kd.C k112 w A0 l0.length l0) (hc0:l0.length≤c0) (hr1_0:Kd.C (Kd.int .i64) w A1_0 l1_0.length l1_0) (hc1_0:l1_0.length≤c1_0) (hr1_4:Kd.C Kd.bool w A1_4 l1_4.length l1_4) (hc1_4:l1_4.length≤c1_4) (h:spec_l21Walk.f k l0 l1_0 a1_1 a1_2 a1_3 l1_4=some (r1,r2)):
  Calls Try.prog 40 #[.slice A0 l0.length c0,.agg #[.slice A1_0 l1_0.length c1_0,.int .i64 a1_1,.int .i64 a1_2,.int .i64 a1_3,.slice A1_4 l1_4.length c1_4]] w fun e w'=> ∃v0_:Value,e= .returned (.tuple #[v0_,.bool r2])∧Kd.R (Kd.int .i64) 3 w' w.heap.size (fun _=>True) v0_ r1∧Below w.heap.size w w':=by
 have hu27:=Try.underlying27;have HR0:=aK hr0;have HC0:=aK hc0;clear hr0 hc0;have HR1_0:=aK hr1_0;have HC1_0:=aK hc1_0;clear hr1_0 hc1_0;have HR1_4:=aK hr1_4;have HC1_4:=aK hc1_4;clear hr1_4 hc1_4;have HB:=aK (Below.refl w.heap.size w);have H:((spec_l21Part.f k l0 l1_0 0 a1_2).bind fun bt239=>((spec_l21Part.f k l0 l1_0 a1_1 a1_3).bind fun bt243=>(if bt239.1.length+bt243.1.length<17592186044416 then ((some (bt239.1++bt243.1:List Int)).bind fun y247=>(if bt239.2=true then (some (y247,bt243.2)) else (some (y247,false)))) else (none))))=some (r1,r2):=h
 clear h;replace H:=Option.bind_eq_some_iff.mp H;obtain ⟨⟨t239,t240⟩,A30,H⟩:=H;(try dsimp only at H);have A3:=aK A30;clear A30;replace H:=Option.bind_eq_some_iff.mp H;obtain ⟨⟨t243,t244⟩,A40,H⟩:=H;(try dsimp only at H);have A4:=aK A40;clear A40;by_cases c5:t239.length+t243.length<17592186044416
 ·rw [if_pos c5] at H
  have LMc5:=aK c5;clear c5;obtain ⟨y247,hy247⟩: ∃y_:List Int,y_=(t239++t243):=⟨_,rfl⟩;replace H:(if t240=true then (some (y247,t244)) else (some (y247,false)))=some (r1,r2):=by first|(rw [hy247];with_reducible exact H)|(have H2_:=(Option.bind_some _ _).symm.trans H;rw [hy247];with_reducible exact H2_)|(have H2_:=(Option.bind_some _ _).symm.trans H;with_reducible exact H2_)|with_reducible exact H|(rw [hy247];exact H)|exact H
  have Ny247:=aK hy247;clear hy247;by_cases c6:t240=true
  ·subst c6
   rw [if_pos rfl] at H;simp only [Option.some.injEq,Prod.mk.injEq] at H;obtain ⟨rfl,rfl⟩:=H;go_enter Try.func40,Try.ntmps40
   go_wp2_with (first|((with_reducible refine gate_dst (N:=3) rfl ?_);refine box_event ?hg (N:=3) ?hd (cs:= #[.slice A1_0 l1_0.length c1_0,.int .i64 a1_1,.int .i64 a1_2,.int .i64 a1_3,.slice A1_4 l1_4.length c1_4]) (t:=27) ?hr ?_;(case hd=>rfl);(case hg=>rfl);(case hr=>first|(go_simp;done)|(go_simp;rfl));intro gb238 hg w7 hbox hb;have BK238:=aK (hbox);have GW238:=aK ((by rw [hg];exact (below_size z1):w.heap.size≤gb238));have GE238:=aK ((by rw [hg];exact (below_size z1):w.heap.size≤gb238));replace HB:=aK (below_step z1 hb);clear hb hbox hg;obtain ⟨hcz8_0,hcz8_1,hcz8_2,hcz8_3,hcz8_4,hfz8_0,hfz8_1,hfz8_2,hfz8_3,hfz8_4⟩:=cbf5 BK238)|((with_reducible refine gate_callee (f:=82) rfl ?_);refine goesL_ (some 16) rfl rfl Try.func82 (by kernel_rfl) rfl #[.slice A0 l0.length c0,.slice A1_0 l1_0.length c1_0,.int .i64 0,.int .i64 a1_2] rfl z2 ?_;(with_reducible refine (spec_l21Part.calls k _ _ l0 _ _ l1_0 0 a1_2 t239 true _ ?side1 ?side2 ?side3 ?side4 A3.out).mono ?_);(case side1=>exact z5);(case side2=>exact HC0.out);(case side3=>exact z6);(case side4=>exact HC1_0.out);rintro e w9 ⟨v241,rfl,ho0,hb⟩;refine ⟨_,rfl,?_⟩;have HO242:=aK (Kd.R_lower ho0 (below_size z14));replace BK238:=aK (blk_below (g:=gb238) (o:= .cells #[.slice A1_0 l1_0.length c1_0,.int .i64 a1_1,.int .i64 a1_2,.int .i64 a1_3,.slice A1_4 l1_4.length c1_4] 27 (0,0)) z45 hb);replace HB:=aK (below_step z14 hb);(try clear hb);(try clear hb2);(try clear hk);(try clear hi);(try clear ho0);obtain ⟨hcz10_0,hcz10_1,hcz10_2,hcz10_3,hcz10_4,hfz10_0,hfz10_1,hfz10_2,hfz10_3,hfz10_4⟩:=cbf5 BK238)|((with_reducible refine gate_callee (f:=82) rfl ?_);refine goesL_ (some 27) rfl rfl Try.func82 (by kernel_rfl) rfl #[.slice A0 l0.length c0,.slice A1_0 l1_0.length c1_0,.int .i64 a1_1,.int .i64 a1_3] rfl z2 ?_;(with_reducible refine (spec_l21Part.calls k _ _ l0 _ _ l1_0 a1_1 a1_3 t243 t244 _ ?side1 ?side2 ?side3 ?side4 A4.out).mono ?_);(case side1=>exact z5);(case side2=>exact HC0.out);(case side3=>exact z6);(case side4=>exact HC1_0.out);rintro e w11 ⟨v245,rfl,ho0,hb⟩;refine ⟨_,rfl,?_⟩;have HO246:=aK (Kd.R_lower (Kd.R_new' ho0 (Kd.R_lt (by (with_reducible repeat (first|apply Kd.R_alloc|apply Kd.R_drewN|apply Kd.R_drew));exact HO242.out))) (below_size z14));replace HO242:=aK (Kd.R_elder' (by (with_reducible repeat (first|apply Kd.R_alloc|apply Kd.R_drewN|apply Kd.R_drew));exact HO242.out) (Kd.R_base ho0) hb);replace BK238:=aK (blk_below (g:=gb238) (o:= .cells #[.slice A1_0 l1_0.length c1_0,.int .i64 a1_1,.int .i64 a1_2,.int .i64 a1_3,.slice A1_4 l1_4.length c1_4] 27 (0,0)) z45 hb);replace HB:=aK (below_step z14 hb);(try clear hb);(try clear hb2);(try clear hk);(try clear hi);(try clear ho0);obtain ⟨Ao13,co13,eo13⟩:=Kd.R_slice HO246.out;subst eo13)|((with_reducible refine gate_builtin (b:= .append) (xs:= #[.tmp 30,.tmp 31]) rfl ?_);at_builtin;refine Kd.R_append_rows (Kd.int .i64) (w0:=w) w.heap.size rfl (.tmp 30) (.tmp 31) 24 3 (.int .i64 0) 8 rfl Try.underlying24 info3 rfl (by decide) (by omega) v241 t239 t243 _ _ _ (fun k_=>some k_≠(.slice Ao13 t243.length co13:Value).ownBlock) (fun _=>False) rfl rfl ?aO ?aR (fun _ _ h=>h) (fun _ h=>h.elim) ?aF ?aB ?aS ?aL ?_;(case aR=>repeat (first|exact (Kd.R_reads' HO246.out).2.2|(with_reducible refine Kd.C_alloc ?_ _)|(with_reducible refine Kd.C_drewN ?_ _)|(with_reducible refine Kd.C_drew ?_)));(case aB=>exact z14);(case aF=>exact (fun k_ hk=>Kd.fresh' (Kd.R_lt (by (with_reducible repeat (first|apply Kd.R_alloc|apply Kd.R_drewN|apply Kd.R_drew));exact HO246.out)) k_ hk));(case aO=>exact (by (with_reducible repeat (first|apply Kd.R_alloc|apply Kd.R_drewN|apply Kd.R_drew));exact Kd.R_mono HO242.out (fun _ hk=>hk.2)));(case aS=>exact (below_size z14));(case aL=>have:=LMc5.out;omega);intro v248 w12 ho hb hg hat;rw [←Ny247.out] at ho;have n0_:=aK (blk_grown (g:=gb238) (o:= .cells #[.slice A1_0 l1_0.length c1_0,.int .i64 a1_1,.int .i64 a1_2,.int .i64 a1_3,.slice A1_4 l1_4.length c1_4] 27 (0,0)) z45 hg (Kd.R_ne HO242.out BK238.out (by decide)));have n1_:=aK (Kd.R_after (ok:=(fun _=>True)) (by (with_reducible repeat (first|apply Kd.R_alloc|apply Kd.R_drewN|apply Kd.R_drew));exact HO246.out) hg hat);have n2_:=aK (hb);have n3_:=aK (ho);clear BK238;clear HO246;clear HB;clear HO242;have BK238:=n0_;have HO246:=n1_;have HB:=n2_;have HO249:=n3_;clear n0_ n1_ n2_ n3_;clear ho hb hg hat))
   go_ret2
   exact ⟨_,by first|rfl|(simp [errW_none,errW_some]<;>rfl)|(simp [*,errW_none,errW_some]<;>rfl),by (with_reducible repeat (first|apply Kd.R_alloc|apply Kd.R_drewN|apply Kd.R_drew));exact Kd.R_mono HO249.out (fun _ hk=>trivial),by repeat (first|(with_reducible first|exact HB.out|apply below_alloc|apply pw_below_drewN|apply below_drew1|refine below_set ?_ GE238.out)|exact HB.out)⟩
  ·replace c6 := Bool.eq_false_iff.mpr c6
   subst c6;rw [if_neg (show¬(false=true) by decide)] at H;simp only [Option.some.injEq,Prod.mk.injEq] at H;obtain ⟨rfl,rfl⟩:=H;go_enter Try.func40,Try.ntmps40
   go_wp2_with (first|((with_reducible refine gate_dst (N:=3) rfl ?_);refine box_event ?hg (N:=3) ?hd (cs:= #[.slice A1_0 l1_0.length c1_0,.int .i64 a1_1,.int .i64 a1_2,.int .i64 a1_3,.slice A1_4 l1_4.length c1_4]) (t:=27) ?hr ?_;(case hd=>rfl);(case hg=>rfl);(case hr=>first|(go_simp;done)|(go_simp;rfl));intro gb238 hg w14 hbox hb;have BK238:=aK (hbox);have GW238:=aK ((by rw [hg];exact (below_size z1):w.heap.size≤gb238));have GE238:=aK ((by rw [hg];exact (below_size z1):w.heap.size≤gb238));replace HB:=aK (below_step z1 hb);clear hb hbox hg;obtain ⟨hcz15_0,hcz15_1,hcz15_2,hcz15_3,hcz15_4,hfz15_0,hfz15_1,hfz15_2,hfz15_3,hfz15_4⟩:=cbf5 BK238)|((with_reducible refine gate_callee (f:=82) rfl ?_);refine goesL_ (some 16) rfl rfl Try.func82 (by kernel_rfl) rfl #[.slice A0 l0.length c0,.slice A1_0 l1_0.length c1_0,.int .i64 0,.int .i64 a1_2] rfl z2 ?_;(with_reducible refine (spec_l21Part.calls k _ _ l0 _ _ l1_0 0 a1_2 t239 false _ ?side1 ?side2 ?side3 ?side4 A3.out).mono ?_);(case side1=>exact z5);(case side2=>exact HC0.out);(case side3=>exact z6);(case side4=>exact HC1_0.out);rintro e w16 ⟨v241,rfl,ho0,hb⟩;refine ⟨_,rfl,?_⟩;have HO242:=aK (Kd.R_lower ho0 (below_size z14));replace BK238:=aK (blk_below (g:=gb238) (o:= .cells #[.slice A1_0 l1_0.length c1_0,.int .i64 a1_1,.int .i64 a1_2,.int .i64 a1_3,.slice A1_4 l1_4.length c1_4] 27 (0,0)) z45 hb);replace HB:=aK (below_step z14 hb);(try clear hb);(try clear hb2);(try clear hk);(try clear hi);(try clear ho0);obtain ⟨hcz17_0,hcz17_1,hcz17_2,hcz17_3,hcz17_4,hfz17_0,hfz17_1,hfz17_2,hfz17_3,hfz17_4⟩:=cbf5 BK238)|((with_reducible refine gate_callee (f:=82) rfl ?_);refine goesL_ (some 27) rfl rfl Try.func82 (by kernel_rfl) rfl #[.slice A0 l0.length c0,.slice A1_0 l1_0.length c1_0,.int .i64 a1_1,.int .i64 a1_3] rfl z2 ?_;(with_reducible refine (spec_l21Part.calls k _ _ l0 _ _ l1_0 a1_1 a1_3 t243 t244 _ ?side1 ?side2 ?side3 ?side4 A4.out).mono ?_);(case side1=>exact z5);(case side2=>exact HC0.out);(case side3=>exact z6);(case side4=>exact HC1_0.out);rintro e w18 ⟨v245,rfl,ho0,hb⟩;refine ⟨_,rfl,?_⟩;have HO246:=aK (Kd.R_lower (Kd.R_new' ho0 (Kd.R_lt (by (with_reducible repeat (first|apply Kd.R_alloc|apply Kd.R_drewN|apply Kd.R_drew));exact HO242.out))) (below_size z14));replace HO242:=aK (Kd.R_elder' (by (with_reducible repeat (first|apply Kd.R_alloc|apply Kd.R_drewN|apply Kd.R_drew));exact HO242.out) (Kd.R_base ho0) hb);replace BK238:=aK (blk_below (g:=gb238) (o:= .cells #[.slice A1_0 l1_0.length c1_0,.int .i64 a1_1,.int .i64 a1_2,.int .i64 a1_3,.slice A1_4 l1_4.length c1_4] 27 (0,0)) z45 hb);replace HB:=aK (below_step z14 hb);(try clear hb);(try clear hb2);(try clear hk);(try clear hi);(try clear ho0);obtain ⟨Ao20,co20,eo20⟩:=Kd.R_slice HO246.out;subst eo20)|((with_reducible refine gate_builtin (b:= .append) (xs:= #[.tmp 30,.tmp 31]) rfl ?_);at_builtin;refine Kd.R_append_rows (Kd.int .i64) (w0:=w) w.heap.size rfl (.tmp 30) (.tmp 31) 24 3 (.int .i64 0) 8 rfl Try.underlying24 info3 rfl (by decide) (by omega) v241 t239 t243 _ _ _ (fun k_=>some k_≠(.slice Ao20 t243.length co20:Value).ownBlock) (fun _=>False) rfl rfl ?aO ?aR (fun _ _ h=>h) (fun _ h=>h.elim) ?aF ?aB ?aS ?aL ?_;(case aR=>repeat (first|exact (Kd.R_reads' HO246.out).2.2|(with_reducible refine Kd.C_alloc ?_ _)|(with_reducible refine Kd.C_drewN ?_ _)|(with_reducible refine Kd.C_drew ?_)));(case aB=>exact z14);(case aF=>exact (fun k_ hk=>Kd.fresh' (Kd.R_lt (by (with_reducible repeat (first|apply Kd.R_alloc|apply Kd.R_drewN|apply Kd.R_drew));exact HO246.out)) k_ hk));(case aO=>exact (by (with_reducible repeat (first|apply Kd.R_alloc|apply Kd.R_drewN|apply Kd.R_drew));exact Kd.R_mono HO242.out (fun _ hk=>hk.2)));(case aS=>exact (below_size z14));(case aL=>have:=LMc5.out;omega);intro v248 w19 ho hb hg hat;rw [←Ny247.out] at ho;have n0_:=aK (blk_grown (g:=gb238) (o:= .cells #[.slice A1_0 l1_0.length c1_0,.int .i64 a1_1,.int .i64 a1_2,.int .i64 a1_3,.slice A1_4 l1_4.length c1_4] 27 (0,0)) z45 hg (Kd.R_ne HO242.out BK238.out (by decide)));have n1_:=aK (Kd.R_after (ok:=(fun _=>True)) (by (with_reducible repeat (first|apply Kd.R_alloc|apply Kd.R_drewN|apply Kd.R_drew));exact HO246.out) hg hat);have n2_:=aK (hb);have n3_:=aK (ho);clear BK238;clear HO246;clear HB;clear HO242;have BK238:=n0_;have HO246:=n1_;have HB:=n2_;have HO249:=n3_;clear n0_ n1_ n2_ n3_;clear ho hb hg hat))
   go_ret2
   exact ⟨_,by first|rfl|(simp [errW_none,errW_some]<;>rfl)|(simp [*,errW_none,errW_some]<;>rfl),by (with_reducible repeat (first|apply Kd.R_alloc|apply Kd.R_drewN|apply Kd.R_drew));exact Kd.R_mono HO249.out (fun _ hk=>trivial),by repeat (first|(with_reducible first|exact HB.out|apply below_alloc|apply pw_below_drewN|apply below_drew1|refine below_set ?_ GE238.out)|exact HB.out)⟩
 ·rw [if_neg c5] at H
  exact absurd H (by simp)
def spec_l21Starts.l0:Nat→List Int→List Bool→Int→Option (List Bool)
  |0,_,_,_=>none
  |k+1,x1,x5,x6=>if x6<(x1.length:Int) then (if 0≤x6 then (if 0≤(rd x1 x6) then (if (rd x1 x6)<(x5.length:Int) then (spec_l21Starts.l0 k x1 (x5.set ((rd x1 x6):Int).toNat true) (wrap64 (x6+1))) else (none)) else (none)) else (none)) else (some x5)
def spec_l21Starts.f (k:Nat) (a0:Int) (l1:List Int):Option (List Bool):=if 0≤a0 then (if (a0:Int).toNat≤281474976710656 then (spec_l21Starts.l0 k l1 (List.replicate (a0:Int).toNat false) 0) else (none)) else (none)
set_option maxHeartbeats 8000000 in
set_option maxRecDepth 100000 in
theorem spec_l21Starts.calls (k : Nat) (a0 : Int) (A1 : Option Addr) (c1 : Nat) (l1 : List Int) (r : List Bool) (w : World) (hr1 : Kd.C (Kd.int .i64) w A1 l1.length l1) (hc1 : l1.length ≤ c1) (h : spec_l21Starts.f k a0 l1 = some r) :
  Calls Try.prog 42 #[.int .i64 a0,.slice A1 l1.length c1] w fun e w'=> ∃v0_:Value,e= .returned (v0_)∧Kd.R Kd.bool 4 w' w.heap.size (fun _=>True) v0_ r∧Below w.heap.size w w':=by
 have HR1:=aK hr1;have HC1:=aK hc1;clear hr1 hc1;have HB:=aK (Below.refl w.heap.size w);have H:(if 0≤a0 then (if (a0:Int).toNat≤281474976710656 then (spec_l21Starts.l0 k l1 (List.replicate (a0:Int).toNat false) 0) else (none)) else (none))=some r:=h
 clear h;by_cases c3:0≤a0
 ·rw [if_pos c3] at H
  have c3b0:=eq_true c3;have c3b1:decide (0≤a0)=true:=decide_eq_true c3
  clear c3;by_cases c4:(a0:Int).toNat≤281474976710656
  ·rw [if_pos c4] at H
   have c4b0:=eq_true c4;have c4b1:decide ((a0:Int).toNat≤281474976710656)=true:=decide_eq_true c4
   clear c4;obtain ⟨y250,hy250⟩: ∃y_:List Bool,y_=(List.replicate (a0:Int).toNat false):=⟨_,rfl⟩;replace H:(spec_l21Starts.l0 k l1 y250 0)=some r:=by first|(rw [hy250];with_reducible exact H)|(have H2_:=(Option.bind_some _ _).symm.trans H;rw [hy250];with_reducible exact H2_)|(have H2_:=(Option.bind_some _ _).symm.trans H;with_reducible exact H2_)|with_reducible exact H|(rw [hy250];exact H)|exact H
   have Ny250:=aK hy250;clear hy250;have H':=aK H;clear H;go_enter Try.func42,Try.ntmps42
   go_wp2_with (first|((with_reducible refine gate_dst (N:=8) rfl ?_);refine Kd.R_make Kd.bool _ 4 rfl (N:=8) rfl 25 _ _ rfl a0 rfl rfl Try.underlying25 (.bool false) 1 info4 rfl (by decide) (by omega) false (ok:=fun _=>True) (okp:=fun _=>True) rfl (fun _ hk=>hk) trivial (of_decide_eq_true z3) (Nat.le_trans (Nat.mul_le_mul_right _ (of_decide_eq_true z3:a0.toNat≤281474976710656)) (by omega)) (Below.refl _ _) (Nat.le_refl _) ?_;intro v251 w5 ho6 hb hg_ hnew_;clear hg_ hnew_;(first|rw [←Ny250.out] at ho6|(simp only [Int.reduceToNat] at ho6;rw [←Ny250.out] at ho6));have HO252:=aK (Kd.R_lower ho6 (below_size z1));replace HB:=aK (below_step z1 hb);clear hb ho6))
   go_loopg [6] k (fun kq v6 w'=> ∃(x5_1:List Bool) (x6_1:Int),v6= .int .i64 x6_1∧Aside0 (spec_l21Starts.l0 kq l1 x5_1 x6_1=some r)∧Aside0 (kq≤k)∧Aside0 (Kd.R Kd.bool 4 w' w.heap.size (fun _=>True) v251 x5_1)∧Aside0 (Below w.heap.size w w'))
   case atStart=>exact ⟨(y250),(0),z7,H',⟨Nat.le_refl _⟩,⟨by (with_reducible repeat (first|apply Kd.R_alloc|apply Kd.R_drewN|apply Kd.R_drew));exact HO252.out⟩,⟨by repeat (first|(with_reducible first|exact HB.out|apply below_alloc|apply pw_below_drewN|apply below_drew1)|exact HB.out)⟩⟩
   case round =>
    clear H';(try clear c1);(try clear p2);(try clear c3);(try clear c3b0);(try clear c3b1);(try clear c4);(try clear c4b0);(try clear c4b1);obtain ⟨x5_1,x6_1,rfl,HA,HK1,HO_5,HB⟩:=hrel
    cases gk with
    |zero=>exact absurd HA.out (by simp [spec_l21Starts.l0])
    | succ k1 =>
     have H:=HA.out;clear HA;simp only [spec_l21Starts.l0] at H;by_cases c7:x6_1<(l1.length:Int)
     ·rw [if_pos c7] at H
      have c7b0:decide (x6_1<(l1.length:Int))=true:=decide_eq_true c7
      clear c7;by_cases c8:0≤x6_1
      ·rw [if_pos c8] at H
       have c8b0:decide (0≤x6_1)=true:=decide_eq_true c8
       clear c8;by_cases c9:0≤(rd l1 x6_1)
       ·rw [if_pos c9] at H
        have c9b0:decide (0≤(rd l1 x6_1))=true:=decide_eq_true c9
        clear c9;by_cases c10:(rd l1 x6_1)<(x5_1.length:Int)
        ·rw [if_pos c10] at H
         have c10b0:decide ((rd l1 x6_1)<(x5_1.length:Int))=true:=decide_eq_true c10
         clear c10;obtain ⟨y254,hy254⟩: ∃y_:List Bool,y_=(x5_1.set ((rd l1 x6_1):Int).toNat true):=⟨_,rfl⟩;replace H:(spec_l21Starts.l0 k1 l1 y254 (wrap64 (x6_1+1)))=some r:=by first|(rw [hy254];with_reducible exact H)|(have H2_:=(Option.bind_some _ _).symm.trans H;rw [hy254];with_reducible exact H2_)|(have H2_:=(Option.bind_some _ _).symm.trans H;with_reducible exact H2_)|with_reducible exact H|(rw [hy254];exact H)|exact H
         have Ny254:=aK hy254;clear hy254;have H':=aK H;clear H;have p253:0≤(x6_1:Int):=of_decide_eq_true z3
         have q253:x6_1<(l1.length:Int):=of_decide_eq_true z3
         obtain ⟨ad253,e253,hx253_0⟩:=Kd.at_int HR1.out x6_1 p253 q253
         cases e253
         replace hx253_0:=(HB.out.cell (World.block_lt_of_cell? w _ hx253_0)).trans hx253_0;replace p253:=eq_true p253;replace q253:=eq_true q253;have p11:0≤((rd l1 x6_1):Int):=of_decide_eq_true z3
         have q11:((rd l1 x6_1):Int)<((x5_1.length:Int):Int):=of_decide_eq_true z3
         obtain ⟨go11,co11,eo11,gb11,gl11,cl11,HG11⟩:=Kd.R_form HO_5.out (by omega)
         (first|cases eo11|(injection eo11 with ea_ en_ ec_;(first|subst ea_|(injection ea_ with ea_;subst ea_));subst ec_;clear en_))
         have GB11:=aK gb11;have GG11:=aK HG11;clear gb11 gl11 HG11;obtain ⟨hx11_0,hf11_0⟩:=Kd.R_celln false HO_5.out ((rd l1 x6_1):Int) p11 q11;replace p11:=eq_true p11;replace q11:=eq_true q11;have HP12:=Kd.R_putg HO_5.out ((rd l1 x6_1):Int) true
         go_wp2_with (first|((with_reducible refine gate_store (t:=4) (p:=20) rfl ?_);refine store_event (t:=4) (p:=20) (v:=?vo_w13) (w1:=(wr.setCell ⟨go11,((rd l1 x6_1):Int).toNat,none⟩ (.bool true))) ?hg ?ho ?hn ?hr ?_;(case ho=>rfl);(case hg=>rfl);(case hn=>rfl);(case hr=>first|(go_simp;done)|(go_simp;rfl)|((try (first|(obtain ⟨_,_,rfl⟩:=Kd.R_slice HO_5.out)|(obtain ⟨_,_,rfl⟩:=Kd.S_slice HO_5.out)));first|(go_simp;done)|(go_simp;rfl)));intro w13 hw;have hg:wr.grownBy w13 (some go11):=(by rw [hw];exact HP12.2);have hp_:Kd.R Kd.bool 4 w13 w.heap.size (fun _=>True) (.slice (some ⟨go11,0,none⟩) x5_1.length co11) y254:=(by rw [hw,Ny254.out];exact HP12.1);clear HP12;replace HO_5:=aK (hp_);replace HB:=aK ((by rw [hw];exact below_set (HB.out) GB11.out:Below w.heap.size w w13));clear hg hw hp_))
         go_roundg k1
         case measure=>have:=HK1.out;omega
         case rel=>exact ⟨(y254),(wrap64 (x6_1+1)),z7,H',⟨by have:=HK1.out;omega⟩,⟨by (with_reducible repeat (first|apply Kd.R_alloc|apply Kd.R_drewN|apply Kd.R_drew));exact HO_5.out⟩,⟨by repeat (first|(with_reducible first|exact HB.out|apply below_alloc|apply pw_below_drewN|apply below_drew1)|exact HB.out)⟩⟩
        ·rw [if_neg c10] at H
         exact absurd H (by simp)
       ·rw [if_neg c9] at H
        exact absurd H (by simp)
      ·rw [if_neg c8] at H
       exact absurd H (by simp)
     ·rw [if_neg c7] at H
      have c7b0:decide (x6_1<(l1.length:Int))=false:=decide_eq_false c7
      clear c7;obtain rfl:=Option.some.inj H;go_wp2;go_ret;exact ⟨_,by first|rfl|(simp [errW_none,errW_some]<;>rfl)|(simp [*,errW_none,errW_some]<;>rfl),by (with_reducible repeat (first|apply Kd.R_alloc|apply Kd.R_drewN|apply Kd.R_drew));exact HO_5.out,by repeat (first|(with_reducible first|exact HB.out|apply below_alloc|apply pw_below_drewN|apply below_drew1)|exact HB.out)⟩
  ·rw [if_neg c4] at H
   exact absurd H (by simp)
 ·rw [if_neg c3] at H
  exact absurd H (by simp)
def spec_l2Field.f (l0:List (S112)) (a1:Int):Option (Bool):=if a1=1 then (some true) else (if a1=3 then (some true) else (if a1=4 then (some true) else ((spec_l6In.f a1 8 (wrap64 ((wrap64 (8+(l0.length:Int))) - 1))).bind fun t255=>(some t255))))
set_option maxHeartbeats 8000000 in
set_option maxRecDepth 100000 in
theorem spec_l2Field.calls (A0:Option Addr) (c0:Nat) (l0:List (S112)) (a1:Int) (r:Bool) (w:World) (hr0:Kd.C k112 w A0 l0.length l0) (hc0:l0.length≤c0) (h:spec_l2Field.f l0 a1=some r):
  Calls Try.prog 112 #[.slice A0 l0.length c0,.int .i64 a1] w fun e w'=>e= .returned (.bool r)∧Drawn0 w w':=by
 have HR0:=aK hr0;have HC0:=aK hc0;clear hr0 hc0;have H:(if a1=1 then (some true) else (if a1=3 then (some true) else (if a1=4 then (some true) else ((spec_l6In.f a1 8 (wrap64 ((wrap64 (8+(l0.length:Int))) - 1))).bind fun t255=>(some t255)))))=some r:=h
 clear h;by_cases c3:a1=1
 ·rw [if_pos c3] at H
  have c3b0:(a1==1)=true:=beq_iff_eq.mpr c3
  have c3b1:(a1 !=1)=false:=bne_eq_false_iff_eq.mpr c3
  clear c3;obtain rfl:=Option.some.inj H;go_enter Try.func112,Try.ntmps112;go_wp2;go_ret;exact ⟨z7,z13⟩
 ·rw [if_neg c3] at H
  have c3b0:(a1==1)=false:=beq_eq_false_iff_ne.mpr c3
  have c3b1:(a1 !=1)=true:=bne_iff_ne.mpr c3
  by_cases c4:a1=3
  ·rw [if_pos c4] at H
   have c4b0:(a1==3)=true:=beq_iff_eq.mpr c4
   have c4b1:(a1 !=3)=false:=bne_eq_false_iff_eq.mpr c4
   clear c4;obtain rfl:=Option.some.inj H;go_enter Try.func112,Try.ntmps112;go_wp2;go_ret;exact ⟨z7,z13⟩
  ·rw [if_neg c4] at H
   have c4b0:(a1==3)=false:=beq_eq_false_iff_ne.mpr c4
   have c4b1:(a1 !=3)=true:=bne_iff_ne.mpr c4
   by_cases c5:a1=4
   ·rw [if_pos c5] at H
    have c5b0:(a1==4)=true:=beq_iff_eq.mpr c5
    have c5b1:(a1 !=4)=false:=bne_eq_false_iff_eq.mpr c5
    clear c5;obtain rfl:=Option.some.inj H;go_enter Try.func112,Try.ntmps112;go_wp2;go_ret;exact ⟨z7,z13⟩
   ·rw [if_neg c5] at H
    have c5b0:(a1==4)=false:=beq_eq_false_iff_ne.mpr c5
    have c5b1:(a1 !=4)=true:=bne_iff_ne.mpr c5
    replace H:=Option.bind_eq_some_iff.mp H;obtain ⟨t255,A60,H⟩:=H;(try dsimp only at H);have A6:=aK A60;clear A60;obtain rfl:=Option.some.inj H;go_enter Try.func112,Try.ntmps112
    go_wp2_with (first|(go_at_call 79;(with_reducible refine (spec_l6In.calls a1 8 (wrap64 ((wrap64 (8+(l0.length:Int))) - 1)) t255 _ A6.out).mono ?_);rintro e w' ⟨rfl,⟨nd,rfl⟩⟩))
    go_ret;exact ⟨z7,z13⟩
def spec_l2Class.l0:Nat→List (S112)→Int→Int→Int→List Int→Option (Bool)
  |0,_,_,_,_,_=>none
  |k+1,x0,x1,x6,x258000,x258001=>if x6<(x258001.length:Int) then (if 0≤x6 then ((spec_l2Field.f x0 (rd x258001 x6)).bind fun t259=>(if t259=true then (spec_l2Class.l0 k x0 x1 (wrap64 (x6+1)) x258000 x258001) else (some false))) else (none)) else (if x1=0 then (if x258000=(-1) then (some ((x258001.length:Int)==0)) else (some false)) else (if x1=1 then (if x258000=0 then (if (x258001.length:Int)=1 then (if 0<(x258001.length:Int) then (some ((rd x258001 0)==1)) else (none)) else (some false)) else (some false)) else ((spec_l6In.f x258000 0 (wrap64 (x1 - 1))).bind fun t261=>(if t261=true then (some (decide ((x258001.length:Int)≤2))) else (some false)))))
def spec_l2Class.f (k:Nat) (l0:List (S112)) (a1:Int):Option (Bool):=if 0≤a1 then (if a1<(l0.length:Int) then (spec_l2Class.l0 k l0 a1 0 ((rd_T112 l0 a1).f0) ((rd_T112 l0 a1).f1)) else (none)) else (none)
set_option maxHeartbeats 8000000 in
set_option maxRecDepth 100000 in
theorem spec_l2Class.calls (k : Nat) (A0 : Option Addr) (c0 : Nat) (l0 : List (S112)) (a1 : Int) (r : Bool) (w : World) (hr0 : Kd.C k112 w A0 l0.length l0) (hc0 : l0.length ≤ c0) (h : spec_l2Class.f k l0 a1 = some r) :
  Calls Try.prog 106 #[.slice A0 l0.length c0,.int .i64 a1] w fun e w'=>e= .returned (.bool r)∧Below w.heap.size w w':=by
 have hu112:=Try.underlying112;have HR0:=aK hr0;have HC0:=aK hc0;clear hr0 hc0;have HB:=aK (Below.refl w.heap.size w);have H:(if 0≤a1 then (if a1<(l0.length:Int) then (spec_l2Class.l0 k l0 a1 0 ((rd_T112 l0 a1).f0) ((rd_T112 l0 a1).f1)) else (none)) else (none))=some r:=h
 clear h;by_cases c3:0≤a1
 ·rw [if_pos c3] at H
  have c3b0:decide (0≤a1)=true:=decide_eq_true c3
  clear c3;by_cases c4:a1<(l0.length:Int)
  ·rw [if_pos c4] at H
   have c4b0:decide (a1<(l0.length:Int))=true:=decide_eq_true c4
   clear c4;have H':=aK H;clear H;have p256:0≤(a1:Int):=of_decide_eq_true z3
   have q256:a1<(l0.length:Int):=of_decide_eq_true z3
   obtain ⟨ad256,A256_1,c256_1,e256,hx256_0,hx256_1,hl256_1,hi256_1⟩:=at_T112 HR0.out a1 p256 q256
   cases e256
   have HR256_1:=aK hi256_1;have HC256_1:=aK hl256_1;clear hi256_1 hl256_1;replace p256:=eq_true p256;replace q256:=eq_true q256;go_enter Try.func106,Try.ntmps106
   go_wp2_with (first|((with_reducible refine gate_dst (N:=5) rfl ?_);(try (refine gate_guard (by rfl) ?_;dsimp only));refine box_event ?hg (N:=5) ?hd (cs:= #[.int .i64 0,.slice none 0 0]) (t:=112) ?hr ?_;(case hd=>rfl);(case hg=>rfl);(case hr=>first|(go_simp;done)|(go_simp;rfl));intro gb257 hg w5 hbox hb;have BK257:=aK (hbox);have GW257:=aK ((by rw [hg];exact (below_size z1):w.heap.size≤gb257));have GE257:=aK ((by rw [hg];exact (below_size z1):w.heap.size≤gb257));replace HB:=aK (below_step z1 hb);clear hb hbox hg;obtain ⟨hcz6_0,hcz6_1,hfz6_0,hfz6_1⟩:=cbf2 BK257))
   go_loopg [6] k (fun kq v6 w'=> ∃(x6_1:Int),v6= .int .i64 x6_1∧Aside0 (spec_l2Class.l0 kq l0 a1 x6_1 ((rd_T112 l0 a1).f0) ((rd_T112 l0 a1).f1)=some r)∧Aside0 (kq≤k)∧Aside0 (w'.heap[gb257]? =some (.cells #[.int .i64 ((rd_T112 l0 a1).f0),(.slice A256_1 ((rd_T112 l0 a1).f1).length c256_1)] 112 (0,0)))∧Aside0 (Below w.heap.size w w'))
   case atStart=>exact ⟨(0),z7,H',⟨Nat.le_refl _⟩,⟨by (with_reducible repeat (first|refine blk_drewN ?_ _|refine blk_drew ?_|refine blk_alloc ?_ _));refine blk_put (cs:= #[.int .i64 ((rd_T112 l0 a1).f0),.slice none 0 0]) ?_ 1 _ rfl;(with_reducible repeat (first|refine blk_drewN ?_ _|refine blk_drew ?_|refine blk_alloc ?_ _));refine blk_put (cs:= #[.int .i64 0,.slice none 0 0]) ?_ 0 _ rfl;(with_reducible repeat (first|refine blk_drewN ?_ _|refine blk_drew ?_|refine blk_alloc ?_ _));exact BK257.out⟩,⟨by repeat (first|(with_reducible first|exact HB.out|apply below_alloc|apply pw_below_drewN|apply below_drew1|refine below_set ?_ GE257.out)|exact HB.out)⟩⟩
   case round =>
    clear H';(try clear c1);(try clear c2);(try clear p2);(try clear q2);(try clear hx2);(try clear c3);(try clear c3b0);(try clear c4);(try clear c4b0);(try clear hcz6_0);(try clear hcz6_1);(try clear hfz6_0);(try clear hfz6_1);(try clear hx256_0);(try clear hx256_1);(try clear p256);(try clear q256);obtain ⟨x6_1,rfl,HA,HK1,BK257,HB⟩:=hrel
    cases gk with
    |zero=>exact absurd HA.out (by simp [spec_l2Class.l0])
    | succ k1 =>
     have H:=HA.out;clear HA;simp only [spec_l2Class.l0] at H;by_cases c7:x6_1<(((rd_T112 l0 a1).f1).length:Int)
     ·rw [if_pos c7] at H
      have c7b0:decide (x6_1<(((rd_T112 l0 a1).f1).length:Int))=true:=decide_eq_true c7
      clear c7;by_cases c8:0≤x6_1
      ·rw [if_pos c8] at H
       have c8b0:decide (0≤x6_1)=true:=decide_eq_true c8
       clear c8;replace H:=Option.bind_eq_some_iff.mp H;obtain ⟨t259,A90,H⟩:=H;(try dsimp only at H);have A9:=aK A90;clear A90;by_cases c10:t259=true
       ·subst c10
        rw [if_pos rfl] at H;have H':=aK H;clear H;obtain ⟨hcz11_0,hcz11_1,hfz11_0,hfz11_1⟩:=cbf2 BK257;have p258:0≤(x6_1:Int):=of_decide_eq_true z3
        have q258:x6_1<(((rd_T112 l0 a1).f1).length:Int):=of_decide_eq_true z3
        obtain ⟨ad258,e258,hx258_0⟩:=Kd.at_int HR256_1.out x6_1 p258 q258
        cases e258
        replace hx258_0:=(HB.out.cell (World.block_lt_of_cell? w _ hx258_0)).trans hx258_0;replace p258:=eq_true p258;replace q258:=eq_true q258
        go_wp2_with (first|((with_reducible refine gate_callee (f:=112) rfl ?_);refine goesL_ (some 24) rfl rfl Try.func112 (by kernel_rfl) rfl #[.slice (some ad256) l0.length c0,.int .i64 (rd ((rd_T112 l0 a1).f1) x6_1)] rfl z2 ?_;(with_reducible refine (spec_l2Field.calls _ _ l0 (rd ((rd_T112 l0 a1).f1) x6_1) true _ ?side1 ?side2 A9.out).mono ?_);(case side1=>exact z5);(case side2=>exact HC0.out);rintro e w' ⟨rfl,⟨nd,rfl⟩⟩;refine ⟨_,rfl,?_⟩))
        go_roundg k1
        case measure=>have:=HK1.out;omega
        case rel=>exact ⟨(wrap64 (x6_1+1)),z7,H',⟨by have:=HK1.out;omega⟩,⟨by (with_reducible repeat (first|refine blk_drewN ?_ _|refine blk_drew ?_|refine blk_alloc ?_ _));exact BK257.out⟩,⟨by repeat (first|(with_reducible first|exact HB.out|apply below_alloc|apply pw_below_drewN|apply below_drew1|refine below_set ?_ GE257.out)|exact HB.out)⟩⟩
       ·replace c10 := Bool.eq_false_iff.mpr c10
        subst c10;rw [if_neg (show¬(false=true) by decide)] at H;obtain rfl:=Option.some.inj H;obtain ⟨hcz12_0,hcz12_1,hfz12_0,hfz12_1⟩:=cbf2 BK257;have p258:0≤(x6_1:Int):=of_decide_eq_true z3
        have q258:x6_1<(((rd_T112 l0 a1).f1).length:Int):=of_decide_eq_true z3
        obtain ⟨ad258,e258,hx258_0⟩:=Kd.at_int HR256_1.out x6_1 p258 q258
        cases e258
        replace hx258_0:=(HB.out.cell (World.block_lt_of_cell? w _ hx258_0)).trans hx258_0;replace p258:=eq_true p258;replace q258:=eq_true q258
        go_wp2_with (first|((with_reducible refine gate_callee (f:=112) rfl ?_);refine goesL_ (some 24) rfl rfl Try.func112 (by kernel_rfl) rfl #[.slice (some ad256) l0.length c0,.int .i64 (rd ((rd_T112 l0 a1).f1) x6_1)] rfl z2 ?_;(with_reducible refine (spec_l2Field.calls _ _ l0 (rd ((rd_T112 l0 a1).f1) x6_1) false _ ?side1 ?side2 A9.out).mono ?_);(case side1=>exact z5);(case side2=>exact HC0.out);rintro e w' ⟨rfl,⟨nd,rfl⟩⟩;refine ⟨_,rfl,?_⟩))
        go_ret;exact ⟨z8,z23⟩
      ·rw [if_neg c8] at H
       exact absurd H (by simp)
     ·rw [if_neg c7] at H
      have c7b0:decide (x6_1<(((rd_T112 l0 a1).f1).length:Int))=false:=decide_eq_false c7
      clear c7;by_cases c13:a1=0
      ·rw [if_pos c13] at H
       have c13b0:(a1==0)=true:=beq_iff_eq.mpr c13
       have c13b1:(a1 !=0)=false:=bne_eq_false_iff_eq.mpr c13
       clear c13;by_cases c14:((rd_T112 l0 a1).f0)=(-1)
       ·rw [if_pos c14] at H
        have c14b0:(((rd_T112 l0 a1).f0)==(-1))=true:=beq_iff_eq.mpr c14
        have c14b1:(((rd_T112 l0 a1).f0) !=(-1))=false:=bne_eq_false_iff_eq.mpr c14
        clear c14;obtain rfl:=Option.some.inj H;obtain ⟨hcz15_0,hcz15_1,hfz15_0,hfz15_1⟩:=cbf2 BK257;go_wp2;go_ret;exact ⟨z8,z23⟩
       ·rw [if_neg c14] at H
        have c14b0:(((rd_T112 l0 a1).f0)==(-1))=false:=beq_eq_false_iff_ne.mpr c14
        have c14b1:(((rd_T112 l0 a1).f0) !=(-1))=true:=bne_iff_ne.mpr c14
        obtain rfl:=Option.some.inj H;obtain ⟨hcz16_0,hcz16_1,hfz16_0,hfz16_1⟩:=cbf2 BK257;go_wp2;go_ret;exact ⟨z8,z23⟩
      ·rw [if_neg c13] at H
       have c13b0:(a1==0)=false:=beq_eq_false_iff_ne.mpr c13
       have c13b1:(a1 !=0)=true:=bne_iff_ne.mpr c13
       by_cases c17:a1=1
       ·rw [if_pos c17] at H
        have c17b0:(a1==1)=true:=beq_iff_eq.mpr c17
        have c17b1:(a1 !=1)=false:=bne_eq_false_iff_eq.mpr c17
        clear c17;by_cases c18:((rd_T112 l0 a1).f0)=0
        ·rw [if_pos c18] at H
         have c18b0:(((rd_T112 l0 a1).f0)==0)=true:=beq_iff_eq.mpr c18
         have c18b1:(((rd_T112 l0 a1).f0) !=0)=false:=bne_eq_false_iff_eq.mpr c18
         clear c18;by_cases c19:(((rd_T112 l0 a1).f1).length:Int)=1
         ·rw [if_pos c19] at H
          have c19b0:((((rd_T112 l0 a1).f1).length:Int)==1)=true:=beq_iff_eq.mpr c19
          have c19b1:((((rd_T112 l0 a1).f1).length:Int) !=1)=false:=bne_eq_false_iff_eq.mpr c19
          clear c19;by_cases c20:0<(((rd_T112 l0 a1).f1).length:Int)
          ·rw [if_pos c20] at H
           have c20b0:decide (0<(((rd_T112 l0 a1).f1).length:Int))=true:=decide_eq_true c20
           have c20b1:decide (0<((rd_T112 l0 a1).f1).length)=true:=decide_eq_true (by omega)
           clear c20;obtain rfl:=Option.some.inj H;obtain ⟨hcz21_0,hcz21_1,hfz21_0,hfz21_1⟩:=cbf2 BK257;have p260:0≤(0:Int):=(by omega)
           have q260:0<(((rd_T112 l0 a1).f1).length:Int):=of_decide_eq_true z3
           obtain ⟨ad260,e260,hx260_0⟩:=Kd.at_int HR256_1.out 0 p260 q260
           cases e260
           have qi260:(0<((rd_T112 l0 a1).f1).length)=True:=eq_true (by omega)
           (try rw [show ((0:Int)).toNat=0 from rfl] at hx260_0)
           (try rw [Addr.add_zero'] at hx260_0)
           replace hx260_0:=(HB.out.cell (World.block_lt_of_cell? w _ hx260_0)).trans hx260_0;replace p260:=eq_true p260;replace q260:=eq_true q260;go_wp2;go_ret;exact ⟨z8,z23⟩
          ·rw [if_neg c20] at H
           exact absurd H (by simp)
         ·rw [if_neg c19] at H
          have c19b0:((((rd_T112 l0 a1).f1).length:Int)==1)=false:=beq_eq_false_iff_ne.mpr c19
          have c19b1:((((rd_T112 l0 a1).f1).length:Int) !=1)=true:=bne_iff_ne.mpr c19
          obtain rfl:=Option.some.inj H;obtain ⟨hcz22_0,hcz22_1,hfz22_0,hfz22_1⟩:=cbf2 BK257;go_wp2;go_ret;exact ⟨z8,z23⟩
        ·rw [if_neg c18] at H
         have c18b0:(((rd_T112 l0 a1).f0)==0)=false:=beq_eq_false_iff_ne.mpr c18
         have c18b1:(((rd_T112 l0 a1).f0) !=0)=true:=bne_iff_ne.mpr c18
         obtain rfl:=Option.some.inj H;obtain ⟨hcz23_0,hcz23_1,hfz23_0,hfz23_1⟩:=cbf2 BK257;go_wp2;go_ret;exact ⟨z8,z23⟩
       ·rw [if_neg c17] at H
        have c17b0:(a1==1)=false:=beq_eq_false_iff_ne.mpr c17
        have c17b1:(a1 !=1)=true:=bne_iff_ne.mpr c17
        replace H:=Option.bind_eq_some_iff.mp H;obtain ⟨t261,A240,H⟩:=H;(try dsimp only at H);have A24:=aK A240;clear A240;by_cases c25:t261=true
        ·subst c25
         rw [if_pos rfl] at H;obtain rfl:=Option.some.inj H;obtain ⟨hcz26_0,hcz26_1,hfz26_0,hfz26_1⟩:=cbf2 BK257
         go_wp2_with (first|((with_reducible refine gate_callee (f:=79) rfl ?_);refine goesL_ (some 60) rfl rfl Try.func79 (by kernel_rfl) rfl #[.int .i64 ((rd_T112 l0 a1).f0),.int .i64 0,.int .i64 (wrap64 (a1 - 1))] rfl z2 ?_;(with_reducible refine (spec_l6In.calls ((rd_T112 l0 a1).f0) 0 (wrap64 (a1 - 1)) true _ A24.out).mono ?_);rintro e w' ⟨rfl,⟨nd,rfl⟩⟩;refine ⟨_,rfl,?_⟩))
         go_ret;exact ⟨z8,z23⟩
        ·replace c25 := Bool.eq_false_iff.mpr c25
         subst c25;rw [if_neg (show¬(false=true) by decide)] at H;obtain rfl:=Option.some.inj H;obtain ⟨hcz27_0,hcz27_1,hfz27_0,hfz27_1⟩:=cbf2 BK257
         go_wp2_with (first|((with_reducible refine gate_callee (f:=79) rfl ?_);refine goesL_ (some 60) rfl rfl Try.func79 (by kernel_rfl) rfl #[.int .i64 ((rd_T112 l0 a1).f0),.int .i64 0,.int .i64 (wrap64 (a1 - 1))] rfl z2 ?_;(with_reducible refine (spec_l6In.calls ((rd_T112 l0 a1).f0) 0 (wrap64 (a1 - 1)) false _ A24.out).mono ?_);rintro e w' ⟨rfl,⟨nd,rfl⟩⟩;refine ⟨_,rfl,?_⟩))
         go_ret;exact ⟨z8,z23⟩
  ·rw [if_neg c4] at H
   exact absurd H (by simp)
 ·rw [if_neg c3] at H
  exact absurd H (by simp)
def spec_ClassesOk.l0:Nat→List (S112)→Int→Option (Bool)
  |0,_,_=>none
  |k+1,x0,x3=>if x3<(x0.length:Int) then ((spec_l2Class.f k x0 x3).bind fun t263=>(if t263=true then (spec_ClassesOk.l0 k x0 (wrap64 (x3+1))) else (some false))) else (some true)
def spec_ClassesOk.f (k:Nat) (l0:List (S112)):Option (Bool):=(spec_l6In.f (l0.length:Int) 2 5).bind fun t262=>(if t262=true then (spec_ClassesOk.l0 k l0 0) else (some false))
set_option maxHeartbeats 8000000 in
set_option maxRecDepth 100000 in
theorem spec_ClassesOk.calls (k:Nat) (A0:Option Addr) (c0:Nat) (l0:List (S112)) (r:Bool) (w:World) (hr0:Kd.C k112 w A0 l0.length l0) (hc0:l0.length≤c0) (h:spec_ClassesOk.f k l0=some r):
  Calls Try.prog 83 #[.slice A0 l0.length c0] w fun e w'=>e= .returned (.bool r)∧Below w.heap.size w w':=by
 have HR0:=aK hr0;have HC0:=aK hc0;clear hr0 hc0;have HB:=aK (Below.refl w.heap.size w);have H:((spec_l6In.f (l0.length:Int) 2 5).bind fun t262=>(if t262=true then (spec_ClassesOk.l0 k l0 0) else (some false)))=some r:=h
 clear h;replace H:=Option.bind_eq_some_iff.mp H;obtain ⟨t262,A20,H⟩:=H;(try dsimp only at H);have A2:=aK A20;clear A20;by_cases c3:t262=true
 ·subst c3
  rw [if_pos rfl] at H;have H':=aK H;clear H;go_enter Try.func83,Try.ntmps83
  go_wp2_with (first|((with_reducible refine gate_callee (f:=79) rfl ?_);refine goesL_ (some 6) rfl rfl Try.func79 (by kernel_rfl) rfl #[.int .i64 (l0.length:Int),.int .i64 2,.int .i64 5] rfl z2 ?_;(with_reducible refine (spec_l6In.calls (l0.length:Int) 2 5 true _ A2.out).mono ?_);rintro e w' ⟨rfl,⟨nd,rfl⟩⟩;refine ⟨_,rfl,?_⟩))
  go_loopg [3] k (fun kq v3 w'=> ∃(x3_1:Int),v3= .int .i64 x3_1∧Aside0 (spec_ClassesOk.l0 kq l0 x3_1=some r)∧Aside0 (kq≤k)∧Aside0 (Below w.heap.size w w'))
  case atStart=>exact ⟨(0),z7,H',⟨Nat.le_refl _⟩,⟨by repeat (first|(with_reducible first|exact HB.out|apply below_alloc|apply pw_below_drewN|apply below_drew1)|exact HB.out)⟩⟩
  case round=>
   clear H';(try clear p2);(try clear c3);obtain ⟨x3_1,rfl,HA,HK1,HB⟩:=hrel
   cases gk with
   |zero=>exact absurd HA.out (by simp [spec_ClassesOk.l0])
   | succ k1 =>
    have H:=HA.out;clear HA;simp only [spec_ClassesOk.l0] at H;by_cases c4:x3_1<(l0.length:Int)
    ·rw [if_pos c4] at H
     have c4b0:decide (x3_1<(l0.length:Int))=true:=decide_eq_true c4
     clear c4;replace H:=Option.bind_eq_some_iff.mp H;obtain ⟨t263,A50,H⟩:=H;(try dsimp only at H);have A5:=aK A50;clear A50;by_cases c6:t263=true
     ·subst c6
      rw [if_pos rfl] at H;have H':=aK H;clear H
      go_wp2_with (first|((with_reducible refine gate_callee (f:=106) rfl ?_);refine goesL_ (some 16) rfl rfl Try.func106 (by kernel_rfl) rfl #[.slice A0 l0.length c0,.int .i64 x3_1] rfl z2 ?_;(with_reducible refine (spec_l2Class.calls k1 _ _ l0 x3_1 true _ ?side1 ?side2 A5.out).mono ?_);(case side1=>exact z5);(case side2=>exact HC0.out);rintro e w7 ⟨rfl,hb⟩;refine ⟨_,rfl,?_⟩;replace HB:=aK (below_step z1 hb);(try clear hb);(try clear hb2);(try clear hk);(try clear hi)))
      go_roundg k1
      case measure=>have:=HK1.out;omega
      case rel=>exact ⟨(wrap64 (x3_1+1)),z7,H',⟨by have:=HK1.out;omega⟩,⟨by repeat (first|(with_reducible first|exact HB.out|apply below_alloc|apply pw_below_drewN|apply below_drew1)|exact HB.out)⟩⟩
     ·replace c6 := Bool.eq_false_iff.mpr c6
      subst c6;rw [if_neg (show¬(false=true) by decide)] at H;obtain rfl:=Option.some.inj H
      go_wp2_with (first|((with_reducible refine gate_callee (f:=106) rfl ?_);refine goesL_ (some 16) rfl rfl Try.func106 (by kernel_rfl) rfl #[.slice A0 l0.length c0,.int .i64 x3_1] rfl z2 ?_;(with_reducible refine (spec_l2Class.calls k1 _ _ l0 x3_1 false _ ?side1 ?side2 A5.out).mono ?_);(case side1=>exact z5);(case side2=>exact HC0.out);rintro e w8 ⟨rfl,hb⟩;refine ⟨_,rfl,?_⟩;replace HB:=aK (below_step z1 hb);(try clear hb);(try clear hb2);(try clear hk);(try clear hi)))
      go_ret;exact ⟨z8,z1⟩
    ·rw [if_neg c4] at H
     have c4b0:decide (x3_1<(l0.length:Int))=false:=decide_eq_false c4
     clear c4;obtain rfl:=Option.some.inj H;go_wp2;go_ret;exact ⟨z8,z1⟩
 ·replace c3 := Bool.eq_false_iff.mpr c3
  subst c3;rw [if_neg (show¬(false=true) by decide)] at H;obtain rfl:=Option.some.inj H;go_enter Try.func83,Try.ntmps83
  go_wp2_with (first|((with_reducible refine gate_callee (f:=79) rfl ?_);refine goesL_ (some 6) rfl rfl Try.func79 (by kernel_rfl) rfl #[.int .i64 (l0.length:Int),.int .i64 2,.int .i64 5] rfl z2 ?_;(with_reducible refine (spec_l6In.calls (l0.length:Int) 2 5 false _ A2.out).mono ?_);rintro e w' ⟨rfl,⟨nd,rfl⟩⟩;refine ⟨_,rfl,?_⟩))
  go_ret;exact ⟨z8,z1⟩
def spec_l21Cards.f (a0:Int):Option (Int):=some (wrap64 (Int.tdiv (wrap64 ((wrap64 (a0+4)) - 1)) 4))
set_option maxHeartbeats 8000000 in
set_option maxRecDepth 100000 in
theorem spec_l21Cards.calls (a0:Int) (r:Int) (w:World) (h:spec_l21Cards.f a0=some r):
  Calls Try.prog 84 #[.int .i64 a0] w fun e w'=>e= .returned (.int .i64 r)∧Drawn0 w w':=by
 have H:(some (wrap64 (Int.tdiv (wrap64 ((wrap64 (a0+4)) - 1)) 4)))=some r:=h
 clear h;obtain rfl:=Option.some.inj H;go_enter Try.func84,Try.ntmps84;go_wp2;go_ret;exact ⟨z7,z13⟩
end Go.Proofs.Ytnlieahdakafbaa.K
