import Derived.Test.YtnlieahdakafbaaPc24
import Derived.Test.YtnlieahdakafbaaPc30
import Derived.Test.YtnlieahdakafbaaPc25
namespace Go.Proofs.Ytnlieahdakafbaa.K
open Go.RowKit Go.Proofs.YtnlieahdakafbaaW.PrintWords Go.Proofs.YtnlieahdakafbaaW.PrintLast Go.Proofs.YtnlieahdakafbaaW.PrintMore
attribute [local go_sem] max2_int min2_int max_two min_two max_three min_three max_four min_four
set_option linter.unusedVariables false
set_option linter.unusedSimpArgs false
def spec_l71Word.f (k:Nat) (s0_0:List Int) (s0_1:Int):Option (Int×Int):=(spec_l6Rd_pick.f k s0_0 s0_1 3).bind fun bt107=>(if bt107.1=0 then ((some (([0,1,2,(-1),(-128),127]:List Int):List Int)).bind fun y109=>((spec_l6Rd_pick.f k s0_0 bt107.2 6).bind fun bt112=>(if 0≤bt112.1 then (if bt112.1<(y109.length:Int) then (some (rd y109 bt112.1,bt112.2)) else (none)) else (none)))) else ((spec_l6Rd_pick.f k s0_0 bt107.2 12).bind fun bt115=>(some (wrap64 (bt115.1 - 3),bt115.2))))
set_option maxHeartbeats 8000000 in
set_option maxRecDepth 100000 in
theorem spec_l71Word.calls (k:Nat) (g:Nat) (s0_0:List Int) (s0_1:Int) (r1:Int) (r2:Int) (w0 w:World) (hI:IsS93 w0 w g s0_0 s0_1) (hB:Below w0.heap.size w0 w) (h:spec_l71Word.f k s0_0 s0_1=some (r1,r2)):
  Calls Try.prog 32 #[.pointer (some ⟨g,0,none⟩)] w fun e w'=>e= .returned (.int .i64 r1)∧IsS93 w0 w' g s0_0 r2∧Below w0.heap.size w0 w'∧KeepBut w w' g none:=by
 have HI0:=aK hI;have HK:=aK (KeepBut.refl w g none);have HL:=aK hB.size;clear hI;have HW0:=aK hB.size;have HB:=aK hB;clear hB;have H:((spec_l6Rd_pick.f k s0_0 s0_1 3).bind fun bt107=>(if bt107.1=0 then ((some (([0,1,2,(-1),(-128),127]:List Int):List Int)).bind fun y109=>((spec_l6Rd_pick.f k s0_0 bt107.2 6).bind fun bt112=>(if 0≤bt112.1 then (if bt112.1<(y109.length:Int) then (some (rd y109 bt112.1,bt112.2)) else (none)) else (none)))) else ((spec_l6Rd_pick.f k s0_0 bt107.2 12).bind fun bt115=>(some (wrap64 (bt115.1 - 3),bt115.2)))))=some (r1,r2):=h
 clear h;replace H:=Option.bind_eq_some_iff.mp H;obtain ⟨⟨t107,t108⟩,A20,H⟩:=H;(try dsimp only at H);have A2:=aK A20;clear A20;by_cases c3:t107=0
 ·rw [if_pos c3] at H
  have c3b0:(t107==0)=true:=beq_iff_eq.mpr c3
  have c3b1:(t107 !=0)=false:=bne_eq_false_iff_eq.mpr c3
  clear c3;obtain ⟨y109,hy109⟩: ∃y_:List Int,y_=(([0,1,2,(-1),(-128),127]:List Int)):=⟨_,rfl⟩;replace H:((spec_l6Rd_pick.f k s0_0 t108 6).bind fun bt112=>(if 0≤bt112.1 then (if bt112.1<(y109.length:Int) then (some (rd y109 bt112.1,bt112.2)) else (none)) else (none)))=some (r1,r2):=by first|(rw [hy109];with_reducible exact H)|(have H2_:=(Option.bind_some _ _).symm.trans H;rw [hy109];with_reducible exact H2_)|(have H2_:=(Option.bind_some _ _).symm.trans H;with_reducible exact H2_)|with_reducible exact H|(rw [hy109];exact H)|exact H
  have Ny109:=aK hy109;clear hy109;replace H:=Option.bind_eq_some_iff.mp H;obtain ⟨⟨t112,t113⟩,A40,H⟩:=H;(try dsimp only at H);have A4:=aK A40;clear A40;by_cases c5:0≤t112
  ·rw [if_pos c5] at H
   have c5b0:decide (0≤t112)=true:=decide_eq_true c5
   clear c5;by_cases c6:t112<(y109.length:Int)
   ·rw [if_pos c6] at H
    have c6b0:decide (t112<(y109.length:Int))=true:=decide_eq_true c6
    clear c6;simp only [Option.some.injEq,Prod.mk.injEq] at H;obtain ⟨rfl,rfl⟩:=H;go_enter Try.func32,Try.ntmps32
    go_wp2_with (first|((with_reducible refine gate_callee (f:=33) rfl ?_);refine goesL_ (some 4) rfl rfl Try.func33 (by kernel_rfl) rfl #[.pointer (some ⟨g,0,none⟩),.int .i64 3] rfl zz2 ?_;(with_reducible refine (spec_l6Rd_pick.calls k g s0_0 s0_1 3 t107 t108 w0 _ ?side1 ?side2 A2.out).mono ?_);(case side1=>exact zz33);(case side2=>exact zz29);rintro e w7 ⟨rfl,hi,hb,hk⟩;refine ⟨_,rfl,?_⟩;replace HK:=aK (KeepBut.trans zz30 hk (.inl rfl));replace HB:=aK (hb);replace HI0:=aK (hi);(try clear hb);(try clear hb2);(try clear hk);(try clear hi))|((with_reducible refine gate_dst (N:=6) rfl ?_);refine Kd.R_lit (Kd.int .i64) _ 3 ?hg (N:=6) ?hd (xs:=([0,1,2,(-1),(-128),127]:List Int)) (inner:=[.int .i64 0,.int .i64 1,.int .i64 2,.int .i64 (-1),.int .i64 (-128),.int .i64 127]) (ok:=fun _=>True) (okp:=fun _=>True) ?hr ?hp (fun _ hk=>hk) trivial (Below.refl _ _) (Nat.le_refl _) (by simp) ?_;(case hd=>rfl);(case hg=>rfl);(case hr=>first|(go_simp;done)|(go_simp;rfl));(case hp=>exact (Reps.one (show Kd.M (Kd.int .i64) _ _ _ 0 [.int .i64 0] from rfl) (Reps.one (show Kd.M (Kd.int .i64) _ _ _ 1 [.int .i64 1] from rfl) (Reps.one (show Kd.M (Kd.int .i64) _ _ _ 2 [.int .i64 2] from rfl) (Reps.one (show Kd.M (Kd.int .i64) _ _ _ (-1) [.int .i64 (-1)] from rfl) (Reps.one (show Kd.M (Kd.int .i64) _ _ _ (-128) [.int .i64 (-128)] from rfl) (Reps.one (show Kd.M (Kd.int .i64) _ _ _ 127 [.int .i64 127] from rfl) (Reps.none _ _))))))));intro v110 w8 ho9 hb hg_ hnew_;clear hg_ hnew_;(first|rw [←Ny109.out] at ho9|(simp only [Int.reduceToNat] at ho9;rw [←Ny109.out] at ho9));have HO111:=aK (Kd.R_lower ho9 (keep_size (w:=w) (g:=g) (row:=none) zz30));replace HK:=aK (KeepBut.trans zz30 (KeepBut.of_below hb g none) (.inl rfl));replace HB:=aK (below_step zz29 hb);replace HI0:=aK (IsS93.below zz33 hb);clear hb ho9)|((with_reducible refine gate_callee (f:=33) rfl ?_);refine goesL_ (some 8) rfl rfl Try.func33 (by kernel_rfl) rfl #[.pointer (some ⟨g,0,none⟩),.int .i64 6] rfl zz2 ?_;(with_reducible refine (spec_l6Rd_pick.calls k g s0_0 t108 6 t112 t113 w0 _ ?side1 ?side2 A4.out).mono ?_);(case side1=>exact zz33);(case side2=>exact zz29);rintro e w10 ⟨rfl,hi,hb,hk⟩;refine ⟨_,rfl,?_⟩;replace HO111:=aK (Kd.R_mono (Kd.R_keep (IsS93.apart (show IsS93 w0 _ g s0_0 t108 from by repeat (first|(with_reducible first|exact HI0.out|apply IsS93.alloc|apply IsS93.drewN|apply IsS93.drew|apply IsS93.set_1)|exact HI0.out)) (by (with_reducible repeat (first|apply Kd.R_alloc|apply Kd.R_drewN|apply Kd.R_drew));exact HO111.out) (by decide)) hk (fun _ h=>h.2)) (fun _ h=>h.1));replace HK:=aK (KeepBut.trans zz30 hk (.inl rfl));replace HB:=aK (hb);replace HI0:=aK (hi);(try clear hb);(try clear hb2);(try clear hk);(try clear hi);obtain ⟨Ao11,co11,eo11⟩:=Kd.R_slice HO111.out;subst eo11;have p114:0≤(t112:Int):=of_decide_eq_true zz3;have q114:t112<(y109.length:Int):=of_decide_eq_true zz3;obtain ⟨ad114,e114,hx114_0⟩:=Kd.at_int (Kd.R_reads' HO111.out).2.2 t112 p114 q114;cases e114;replace p114:=eq_true p114;replace q114:=eq_true q114))
    go_ret;exact ⟨by first|rfl|(simp [errW_none,errW_some]<;>rfl)|(simp [*,errW_none,errW_some]<;>rfl),by repeat (first|(with_reducible first|exact HI0.out|apply IsS93.alloc|apply IsS93.drewN|apply IsS93.drew|apply IsS93.set_1)|exact HI0.out),by repeat (first|(with_reducible first|exact HB.out|apply below_alloc|apply pw_below_drewN|apply below_drew1|refine below_set ?_ (IsS93.ge HI0.out))|exact HB.out),by repeat (first|(with_reducible first|exact HK.out|apply KeepBut.set_|apply keep_drewN|apply keep_drew|apply keep_alloc)|exact HK.out)⟩
   ·rw [if_neg c6] at H
    exact absurd H (by simp)
  ·rw [if_neg c5] at H
   exact absurd H (by simp)
 ·rw [if_neg c3] at H
  have c3b0:(t107==0)=false:=beq_eq_false_iff_ne.mpr c3
  have c3b1:(t107 !=0)=true:=bne_iff_ne.mpr c3
  replace H:=Option.bind_eq_some_iff.mp H;obtain ⟨⟨t115,t116⟩,A120,H⟩:=H;(try dsimp only at H);have A12:=aK A120;clear A120;simp only [Option.some.injEq,Prod.mk.injEq] at H;obtain ⟨rfl,rfl⟩:=H;go_enter Try.func32,Try.ntmps32
  go_wp2_with (first|((with_reducible refine gate_callee (f:=33) rfl ?_);refine goesL_ (some 4) rfl rfl Try.func33 (by kernel_rfl) rfl #[.pointer (some ⟨g,0,none⟩),.int .i64 3] rfl zz2 ?_;(with_reducible refine (spec_l6Rd_pick.calls k g s0_0 s0_1 3 t107 t108 w0 _ ?side1 ?side2 A2.out).mono ?_);(case side1=>exact zz33);(case side2=>exact zz29);rintro e w13 ⟨rfl,hi,hb,hk⟩;refine ⟨_,rfl,?_⟩;replace HK:=aK (KeepBut.trans zz30 hk (.inl rfl));replace HB:=aK (hb);replace HI0:=aK (hi);(try clear hb);(try clear hb2);(try clear hk);(try clear hi))|((with_reducible refine gate_callee (f:=33) rfl ?_);refine goesL_ (some 12) rfl rfl Try.func33 (by kernel_rfl) rfl #[.pointer (some ⟨g,0,none⟩),.int .i64 12] rfl zz2 ?_;(with_reducible refine (spec_l6Rd_pick.calls k g s0_0 t108 12 t115 t116 w0 _ ?side1 ?side2 A12.out).mono ?_);(case side1=>exact zz33);(case side2=>exact zz29);rintro e w14 ⟨rfl,hi,hb,hk⟩;refine ⟨_,rfl,?_⟩;replace HK:=aK (KeepBut.trans zz30 hk (.inl rfl));replace HB:=aK (hb);replace HI0:=aK (hi);(try clear hb);(try clear hb2);(try clear hk);(try clear hi)))
  go_ret;exact ⟨by first|rfl|(simp [errW_none,errW_some]<;>rfl)|(simp [*,errW_none,errW_some]<;>rfl),by repeat (first|(with_reducible first|exact HI0.out|apply IsS93.alloc|apply IsS93.drewN|apply IsS93.drew|apply IsS93.set_1)|exact HI0.out),by repeat (first|(with_reducible first|exact HB.out|apply below_alloc|apply pw_below_drewN|apply below_drew1|refine below_set ?_ (IsS93.ge HI0.out))|exact HB.out),by repeat (first|(with_reducible first|exact HK.out|apply KeepBut.set_|apply keep_drewN|apply keep_drew|apply keep_alloc)|exact HK.out)⟩
def spec_l71Field.j0:Nat→Int→Int→Bool→List Int→Int→Option (Int×Int)
  |0,_,_,_,_,_=>none
  |k+1,x1,x6,x7,x1000,x1001=>if x7=true then (some (1,x1001)) else (if x6=2 then (some (3,x1001)) else (if x6=3 then (some (4,x1001)) else ((spec_l6Rd_pick.f k x1000 x1001 x1).bind fun bt119=>(some (wrap64 (8+bt119.1),bt119.2)))))
def spec_l71Field.f (k:Nat) (s0_0:List Int) (s0_1:Int) (a1:Int):Option (Int×Int):=(spec_l6Rd_pick.f k s0_0 s0_1 6).bind fun bt117=>(if bt117.1=0 then (spec_l71Field.j0 k a1 bt117.1 (bt117.1==0) s0_0 bt117.2) else (spec_l71Field.j0 k a1 bt117.1 (bt117.1==1) s0_0 bt117.2))
set_option maxHeartbeats 8000000 in
set_option maxRecDepth 100000 in
theorem spec_l71Field.calls (k:Nat) (g:Nat) (s0_0:List Int) (s0_1:Int) (a1:Int) (r1:Int) (r2:Int) (w0 w:World) (hI:IsS93 w0 w g s0_0 s0_1) (hB:Below w0.heap.size w0 w) (h:spec_l71Field.f k s0_0 s0_1 a1=some (r1,r2)):
  Calls Try.prog 95 #[.pointer (some ⟨g,0,none⟩),.int .i64 a1] w fun e w'=>e= .returned (.int .i64 r1)∧IsS93 w0 w' g s0_0 r2∧Below w0.heap.size w0 w'∧KeepBut w w' g none:=by
 have HI0:=aK hI;have HK:=aK (KeepBut.refl w g none);have HL:=aK hB.size;clear hI;have HW0:=aK hB.size;have HB:=aK hB;clear hB;have H:((spec_l6Rd_pick.f k s0_0 s0_1 6).bind fun bt117=>(if bt117.1=0 then (spec_l71Field.j0 k a1 bt117.1 (bt117.1==0) s0_0 bt117.2) else (spec_l71Field.j0 k a1 bt117.1 (bt117.1==1) s0_0 bt117.2)))=some (r1,r2):=h
 clear h;replace H:=Option.bind_eq_some_iff.mp H;obtain ⟨⟨t117,t118⟩,A30,H⟩:=H;(try dsimp only at H);have A3:=aK A30;clear A30;have HC4:=aK H;clear H;go_enter Try.func95,Try.ntmps95
 go_upto_if 7 with (first|((with_reducible refine gate_callee (f:=33) rfl ?_);refine goesL_ (some 6) rfl rfl Try.func33 (by kernel_rfl) rfl #[.pointer (some ⟨g,0,none⟩),.int .i64 6] rfl zz2 ?_;(with_reducible refine (spec_l6Rd_pick.calls k g s0_0 s0_1 6 t117 t118 w0 _ ?side1 ?side2 A3.out).mono ?_);(case side1=>exact zz33);(case side2=>exact zz29);rintro e w5 ⟨rfl,hi,hb,hk⟩;refine ⟨_,rfl,?_⟩;replace HK:=aK (KeepBut.trans zz30 hk (.inl rfl));replace HB:=aK (hb);replace HI0:=aK (hi);(try clear hb);(try clear hb2);(try clear hk);(try clear hi)))
 (try simp only [Act.put,List.setIfInBounds_toArray,List.set_cons_zero,List.set_cons_succ])
 go_cut [7] (fun v7 wc=> ∃(kq:Nat) (x7_3:Bool),v7= .bool x7_3∧Aside0 (spec_l71Field.j0 kq a1 t117 x7_3 s0_0 t118=some (r1,r2))∧Aside0 (kq≤k)∧Aside0 (IsS93 w0 wc g s0_0 t118)∧Aside0 (KeepBut w wc g none)∧Aside0 (Below w0.heap.size w0 wc))
 case first=>
  have H:=HC4.out;clear HC4;by_cases c6:t117=0
  ·rw [if_pos c6] at H
   have c6b0:(t117==0)=true:=beq_iff_eq.mpr c6
   have c6b1:(t117 !=0)=false:=bne_eq_false_iff_eq.mpr c6
   clear c6
   (first|rw [c6b0]|(simp only [i64_w,i32_w];rw [c6b0])|skip)
   have H':=aK H;clear H;go_wp2;go_meet
   case rel=>exact ⟨_,((t117==0)),zz6,H',⟨by first|omega|exact Nat.le_refl _⟩,⟨by repeat (first|(with_reducible first|exact HI0.out|apply IsS93.alloc|apply IsS93.drewN|apply IsS93.drew|apply IsS93.set_1)|exact HI0.out)⟩,⟨by repeat (first|(with_reducible first|exact HK.out|apply KeepBut.set_|apply keep_drewN|apply keep_drew|apply keep_alloc)|exact HK.out)⟩,⟨by repeat (first|(with_reducible first|exact HB.out|apply below_alloc|apply pw_below_drewN|apply below_drew1|refine below_set ?_ (IsS93.ge HI0.out))|exact HB.out)⟩⟩
  ·rw [if_neg c6] at H
   have c6b0:(t117==0)=false:=beq_eq_false_iff_ne.mpr c6
   have c6b1:(t117 !=0)=true:=bne_iff_ne.mpr c6
   (first|rw [c6b0]|(simp only [i64_w,i32_w];rw [c6b0])|skip)
   have H':=aK H;clear H;go_wp2;go_meet
   case rel=>exact ⟨_,((t117==1)),zz6,H',⟨by first|omega|exact Nat.le_refl _⟩,⟨by repeat (first|(with_reducible first|exact HI0.out|apply IsS93.alloc|apply IsS93.drewN|apply IsS93.drew|apply IsS93.set_1)|exact HI0.out)⟩,⟨by repeat (first|(with_reducible first|exact HK.out|apply KeepBut.set_|apply keep_drewN|apply keep_drew|apply keep_alloc)|exact HK.out)⟩,⟨by repeat (first|(with_reducible first|exact HB.out|apply below_alloc|apply pw_below_drewN|apply below_drew1|refine below_set ?_ (IsS93.ge HI0.out))|exact HB.out)⟩⟩
 case rest =>
  clear HC4;(try clear p2);(try clear c3);(try clear c6);(try clear c6b0);(try clear c6b1);obtain ⟨kq,x7_3,rfl,HA,HJ3,HI0,HK,HB⟩:=hcut
  cases kq with
  |zero=>exact absurd HA.out (by simp [spec_l71Field.j0])
  | succ kj3 =>
   have H:=HA.out;clear HA;simp only [spec_l71Field.j0] at H;by_cases c7:x7_3=true
   ·subst c7
    rw [if_pos rfl] at H;simp only [Option.some.injEq,Prod.mk.injEq] at H;obtain ⟨rfl,rfl⟩:=H;go_wp2;go_ret;exact ⟨by first|rfl|(simp [errW_none,errW_some]<;>rfl)|(simp [*,errW_none,errW_some]<;>rfl),by repeat (first|(with_reducible first|exact HI0.out|apply IsS93.alloc|apply IsS93.drewN|apply IsS93.drew|apply IsS93.set_1)|exact HI0.out),by repeat (first|(with_reducible first|exact HB.out|apply below_alloc|apply pw_below_drewN|apply below_drew1|refine below_set ?_ (IsS93.ge HI0.out))|exact HB.out),by repeat (first|(with_reducible first|exact HK.out|apply KeepBut.set_|apply keep_drewN|apply keep_drew|apply keep_alloc)|exact HK.out)⟩
   ·replace c7 := Bool.eq_false_iff.mpr c7
    subst c7;rw [if_neg (show¬(false=true) by decide)] at H;by_cases c8:t117=2
    ·rw [if_pos c8] at H
     have c8b0:(t117==2)=true:=beq_iff_eq.mpr c8
     have c8b1:(t117 !=2)=false:=bne_eq_false_iff_eq.mpr c8
     clear c8;simp only [Option.some.injEq,Prod.mk.injEq] at H;obtain ⟨rfl,rfl⟩:=H;go_wp2;go_ret;exact ⟨by first|rfl|(simp [errW_none,errW_some]<;>rfl)|(simp [*,errW_none,errW_some]<;>rfl),by repeat (first|(with_reducible first|exact HI0.out|apply IsS93.alloc|apply IsS93.drewN|apply IsS93.drew|apply IsS93.set_1)|exact HI0.out),by repeat (first|(with_reducible first|exact HB.out|apply below_alloc|apply pw_below_drewN|apply below_drew1|refine below_set ?_ (IsS93.ge HI0.out))|exact HB.out),by repeat (first|(with_reducible first|exact HK.out|apply KeepBut.set_|apply keep_drewN|apply keep_drew|apply keep_alloc)|exact HK.out)⟩
    ·rw [if_neg c8] at H
     have c8b0:(t117==2)=false:=beq_eq_false_iff_ne.mpr c8
     have c8b1:(t117 !=2)=true:=bne_iff_ne.mpr c8
     by_cases c9:t117=3
     ·rw [if_pos c9] at H
      have c9b0:(t117==3)=true:=beq_iff_eq.mpr c9
      have c9b1:(t117 !=3)=false:=bne_eq_false_iff_eq.mpr c9
      clear c9;simp only [Option.some.injEq,Prod.mk.injEq] at H;obtain ⟨rfl,rfl⟩:=H;go_wp2;go_ret;exact ⟨by first|rfl|(simp [errW_none,errW_some]<;>rfl)|(simp [*,errW_none,errW_some]<;>rfl),by repeat (first|(with_reducible first|exact HI0.out|apply IsS93.alloc|apply IsS93.drewN|apply IsS93.drew|apply IsS93.set_1)|exact HI0.out),by repeat (first|(with_reducible first|exact HB.out|apply below_alloc|apply pw_below_drewN|apply below_drew1|refine below_set ?_ (IsS93.ge HI0.out))|exact HB.out),by repeat (first|(with_reducible first|exact HK.out|apply KeepBut.set_|apply keep_drewN|apply keep_drew|apply keep_alloc)|exact HK.out)⟩
     ·rw [if_neg c9] at H
      have c9b0:(t117==3)=false:=beq_eq_false_iff_ne.mpr c9
      have c9b1:(t117 !=3)=true:=bne_iff_ne.mpr c9
      replace H:=Option.bind_eq_some_iff.mp H;obtain ⟨⟨t119,t120⟩,A100,H⟩:=H;(try dsimp only at H);have A10:=aK A100;clear A100;simp only [Option.some.injEq,Prod.mk.injEq] at H;obtain ⟨rfl,rfl⟩:=H
      go_wp2_with (first|((with_reducible refine gate_callee (f:=33) rfl ?_);refine goesL_ (some 16) rfl rfl Try.func33 (by kernel_rfl) rfl #[.pointer (some ⟨g,0,none⟩),.int .i64 a1] rfl zz2 ?_;(with_reducible refine (spec_l6Rd_pick.calls kj3 g s0_0 t118 a1 t119 t120 w0 _ ?side1 ?side2 A10.out).mono ?_);(case side1=>exact zz33);(case side2=>exact zz29);rintro e w11 ⟨rfl,hi,hb,hk⟩;refine ⟨_,rfl,?_⟩;replace HK:=aK (KeepBut.trans zz30 hk (.inl rfl));replace HB:=aK (hb);replace HI0:=aK (hi);(try clear hb);(try clear hb2);(try clear hk);(try clear hi)))
      go_ret;exact ⟨by first|rfl|(simp [errW_none,errW_some]<;>rfl)|(simp [*,errW_none,errW_some]<;>rfl),by repeat (first|(with_reducible first|exact HI0.out|apply IsS93.alloc|apply IsS93.drewN|apply IsS93.drew|apply IsS93.set_1)|exact HI0.out),by repeat (first|(with_reducible first|exact HB.out|apply below_alloc|apply pw_below_drewN|apply below_drew1|refine below_set ?_ (IsS93.ge HI0.out))|exact HB.out),by repeat (first|(with_reducible first|exact HK.out|apply KeepBut.set_|apply keep_drewN|apply keep_drew|apply keep_alloc)|exact HK.out)⟩
end Go.Proofs.Ytnlieahdakafbaa.K
namespace Go.Proofs.Ytnlieahdakafbaa.Pure
open Go.RowKit Go.Proofs.Ytnlieahdakafbaa.K Go.Proofs.YtnlieahdakafbaaW.PrintWords Go.Proofs.YtnlieahdakafbaaW.PrintLast Go.Proofs.YtnlieahdakafbaaW.PrintMore
set_option linter.unusedVariables false
set_option linter.unusedSimpArgs false
theorem wrap_inc {i n:Int} (h0:0≤i) (h:i<n) (hn:n≤4611686018427387904):wrap64 (i+1)=i+1:=by
  unfold wrap64;omega
theorem rd_cast (xs:List Int) (i:Nat):rd xs (i:Int)=xs.getD i 0:=by simp [rd]
theorem drop_getD {α:Type} (xs:List α) (i:Nat) (d:α) (h:i<xs.length):xs.drop i=xs.getD i d::xs.drop (i+1):=by
  rw [List.drop_eq_getElem_cons h];simp [List.getD_eq_getElem?_getD,h]
theorem wrap64_of {n:Int} (h: -9223372036854775808≤n) (h':n≤9223372036854775807):wrap64 n=n:=by unfold wrap64;omega
theorem xor_nn (a b:Int) (ha:0≤a) (hb:0≤b) (ha2:a<4611686018427387904) (hb2:b<4611686018427387904):0≤Go.bits .xor .i64 a b:=by
 obtain ⟨x,rfl⟩: ∃x:Nat,a=x:=⟨a.toNat,by omega⟩;obtain ⟨y,rfl⟩: ∃y:Nat,b=y:=⟨b.toNat,by omega⟩;have hx:x ^^^ y<2 ^ 62:=Nat.xor_lt_two_pow (by omega) (by omega)
 have h1:(BitVec.ofInt 64 (x:Int)).toNat=x:=by rw [BitVec.ofInt_natCast,BitVec.toNat_ofNat];exact Nat.mod_eq_of_lt (by omega)
 have h2:(BitVec.ofInt 64 (y:Int)).toNat=y:=by rw [BitVec.ofInt_natCast,BitVec.toNat_ofNat];exact Nat.mod_eq_of_lt (by omega)
 show 0≤IntKind.i64.wrap ((BitVec.ofInt 64 (x:Int) ^^^ BitVec.ofInt 64 (y:Int)).toNat:Int)
 rw [BitVec.toNat_xor,h1,h2,i64_w,wrap64_of (by omega) (by omega)];omega
theorem rd_byte {b:List Int} (hb: ∀x∈b,0≤x∧x≤255) (i:Int):0≤rd b i∧rd b i≤255:=by
 unfold rd;rw [List.getD_eq_getElem?_getD];by_cases h:i.toNat<b.length
 ·rw [List.getElem?_eq_getElem h];exact hb _ (List.getElem_mem h)
 ·rw [List.getElem?_eq_none (by omega)];simp
theorem tmod_in (x n:Int) (hx:0≤x) (hn:1≤n):0≤Int.tmod x n∧Int.tmod x n<n:=⟨Int.tmod_nonneg _ hx,Int.tmod_lt_of_pos _ (by omega)⟩
theorem pick_ev {b:List Int} (hb: ∀x∈b,0≤x∧x≤255) (hl:b.length≤2000) {p n:Int} (hp:0≤p) (hp2:p≤1000000) (hn:1≤n) (hn2:n≤1000000):
  ∃v,0≤v∧v<n∧∀k,1≤k→spec_l6Rd_pick.f k b p n=some (v,p+1):=by
 have key: ∃v,0≤v∧v<n∧spec_l6Rd_pick.j0 (0+1) n ((b.length:Int)==0) b (p+1)=some (v,p+1)∧∀m,spec_l6Rd_pick.j0 (m+1) n ((b.length:Int)==0) b (p+1)=spec_l6Rd_pick.j0 (0+1) n ((b.length:Int)==0) b (p+1):=by
  by_cases h0:(b.length:Int)=0
  ·refine ⟨0, by omega, by omega, ?_, fun m => ?_⟩
   ·rw [spec_l6Rd_pick.j0,if_pos (beq_iff_eq.mpr h0)]
   ·rw [spec_l6Rd_pick.j0,spec_l6Rd_pick.j0]
  have e0:((b.length:Int)==0)=false:=beq_eq_false_iff_ne.mpr h0
  have ep:wrap64 (p+1 - 1)=p:=by rw [wrap64_of (by omega) (by omega)];omega
  by_cases h1:p<(b.length:Int)
  ·obtain ⟨r0, r1⟩ := rd_byte hb p
   obtain ⟨t0,t1⟩:=tmod_in (rd b p) n r0 hn;refine ⟨Int.tmod (rd b p) n,t0,t1,?_,fun m=>?_⟩
   ·rw [spec_l6Rd_pick.j0,e0,if_neg (by simp),ep,if_pos h1,if_pos hp,if_neg (by omega),wrap64_of (n:=rd b p) (by omega) (by omega)]
   ·rw [spec_l6Rd_pick.j0,spec_l6Rd_pick.j0]
  obtain ⟨q0,q1⟩:=tmod_in p b.length hp (by omega);have w7:wrap64 (p*7)=p*7:=wrap64_of (by omega) (by omega)
  have w73:wrap64 (p*7+3)=p*7+3:=wrap64_of (by omega) (by omega)
  obtain ⟨s0,s1⟩:=tmod_in (p*7+3) b.length (by omega) (by omega);obtain ⟨a0,a1⟩:=rd_byte hb (Int.tmod p b.length);obtain ⟨c0,c1⟩:=rd_byte hb (Int.tmod (p*7+3) b.length);have d0:0≤Int.tdiv p b.length:=Int.tdiv_nonneg hp (by omega)
  have d1:Int.tdiv p b.length≤p:=by rw [Int.tdiv_eq_ediv_of_nonneg hp];exact Int.ediv_le_self _ hp
  obtain ⟨A,hA⟩: ∃A,A=rd b (Int.tmod p b.length):=⟨_,rfl⟩;obtain ⟨C,hC⟩: ∃C,C=rd b (Int.tmod (p*7+3) b.length):=⟨_,rfl⟩;obtain ⟨D,hD⟩: ∃D,D=Int.tdiv p b.length:=⟨_,rfl⟩;rw [←hA] at a0 a1;rw [←hC] at c0 c1;rw [←hD] at d0 d1;obtain ⟨X,hX⟩: ∃X,X=A*131+C*1117+p*29+D*53:=⟨_,rfl⟩;have x0:0≤X:=by omega
  have x1:X≤1000000000:=by omega
  have y0:0≤Int.tdiv X 64:=Int.tdiv_nonneg x0 (by omega)
  have y1:Int.tdiv X 64≤X:=by rw [Int.tdiv_eq_ediv_of_nonneg x0];exact Int.ediv_le_self _ x0
  obtain ⟨t0,t1⟩:=tmod_in (Go.bits .xor .i64 X (Int.tdiv X 64)) n (xor_nn _ _ x0 y0 (by omega) (by omega)) hn;have wA:wrap64 A=A:=wrap64_of (by omega) (by omega)
  have wC:wrap64 C=C:=wrap64_of (by omega) (by omega)
  have wA1:wrap64 (A*131)=A*131:=wrap64_of (by omega) (by omega)
  have wC1:wrap64 (C*1117)=C*1117:=wrap64_of (by omega) (by omega)
  have wp:wrap64 (p*29)=p*29:=wrap64_of (by omega) (by omega)
  have wD:wrap64 D=D:=wrap64_of (by omega) (by omega)
  have wD1:wrap64 (D*53)=D*53:=wrap64_of (by omega) (by omega)
  have w1:wrap64 (A*131+C*1117)=A*131+C*1117:=wrap64_of (by omega) (by omega)
  have w2:wrap64 (A*131+C*1117+p*29)=A*131+C*1117+p*29:=wrap64_of (by omega) (by omega)
  have w3:wrap64 (A*131+C*1117+p*29+D*53)=X:=by rw [←hX];exact wrap64_of (by omega) (by omega)
  have w4:wrap64 (Int.tdiv X 64)=Int.tdiv X 64:=wrap64_of (by omega) (by omega)
  refine ⟨_,t0,t1,?_,fun m=>?_⟩
  ·rw [spec_l6Rd_pick.j0,e0,if_neg (by simp),ep,if_neg h1,if_neg h0,if_pos q0,if_pos q1,w7,w73,if_pos s0,if_pos s1,if_neg (by omega),←hA,←hC,←hD,wA,wC,wA1,wC1,wp,wD,wD1,w1,w2,w3,w4]
  ·rw [spec_l6Rd_pick.j0,spec_l6Rd_pick.j0]
 obtain ⟨v,v0,v1,h1,h2⟩:=key;refine ⟨v,v0,v1,fun k hk=>?_⟩;obtain ⟨m,rfl⟩: ∃m,k=m+1:=⟨k - 1,by omega⟩;unfold spec_l6Rd_pick.f;rw [if_neg (by omega),wrap64_of (n:=p+1) (by omega) (by omega),h2,h1]
theorem l6Open_ev {l:List Int} (hl: ∀x∈l,(Lit.int .u8 x).wf=true): ∃b,spec_l6Open.f l=some (b,0)∧b.length≤2000∧∀x∈b,0≤x∧x≤255:=by
 have hb: ∀x∈l,0≤x∧x≤255:=fun x hx=>by
  have h:=hl x hx;have h1:IntKind.u8.min=0:=by decide
  have h2:IntKind.u8.max=255:=by decide
  simp [Lit.wf] at h
  omega
 unfold spec_l6Open.f;by_cases h:(l.length:Int)>2000
 ·exact ⟨l.take 2000,by rw [if_pos h,if_pos (by omega)],by rw [List.length_take];omega,fun x hx=>hb x (List.mem_of_mem_take hx)⟩
 ·exact ⟨l,by rw [if_neg h],by omega,hb⟩
end Go.Proofs.Ytnlieahdakafbaa.Pure
namespace Go.Proofs.Ytnlieahdakafbaa.K
open Go.RowKit Go.Proofs.YtnlieahdakafbaaW.PrintWords Go.Proofs.YtnlieahdakafbaaW.PrintLast Go.Proofs.YtnlieahdakafbaaW.PrintMore
attribute [local go_sem] max2_int min2_int max_two min_two max_three min_three max_four min_four
set_option linter.unusedVariables false
set_option linter.unusedSimpArgs false
open Go.Proofs.Ytnlieahdakafbaa.Pure
def Rdr (M:Int) (w0 w:World) (g:Nat):Prop:=(∃(b:List Int) (p:Int),IsS93 w0 w g b p∧b.length≤2000∧(∀x∈b,0≤x∧x≤255)∧0≤p∧p≤M)∧Below w0.heap.size w0 w
section
variable {M L:Int} {w0 w w1:World} {g:Nat}
theorem Rdr.le (h:Rdr M w0 w g) (hn:M≤L):Rdr L w0 w g:=by
  obtain ⟨⟨b,p,h1,h2,h3,h4,h5⟩,hb⟩:=h;exact ⟨⟨b,p,h1,h2,h3,h4,Int.le_trans h5 hn⟩,hb⟩
theorem Rdr.below (h:Rdr M w0 w g) (hb:Below w.heap.size w w1):Rdr M w0 w1 g:=by
  obtain ⟨⟨b,p,h1,h2,h3,h4,h5⟩,h6⟩:=h;exact ⟨⟨b,p,h1.below hb,h2,h3,h4,h5⟩,below_step h6 hb⟩
theorem Rdr.alloc (h:Rdr M w0 w g) (o:Obj):Rdr M w0 (w.alloc o) g:=h.below (below_alloc (Below.refl _ _) o)
theorem Rdr.drew (h:Rdr M w0 w g):Rdr M w0 w.drew g:=h.below (below_drew1 (Below.refl _ _))
theorem Rdr.drewN (h:Rdr M w0 w g) (m:Nat):Rdr M w0 (w.drewN m) g:=h.below (pw_below_drewN (Below.refl _ _) m)
theorem Rdr.far (h:Rdr M w0 w g) {p:Addr} (hne:g≠p.block) (hp:w0.heap.size≤p.block) (u:Value):Rdr M w0 (w.setCell p u) g:=by
  obtain ⟨⟨b,q,h1,h2,h3,h4,h5⟩,h6⟩:=h;exact ⟨⟨b,q,h1.far hne u,h2,h3,h4,h5⟩,h6.setCell hp u⟩
theorem Rdr.grown (h:Rdr M w0 w g) {row:Option Nat} (hg:w.grownBy w1 row) (hne:some g≠row) (hr: ∀k,row=some k→w0.heap.size≤k):Rdr M w0 w1 g:=by
  obtain ⟨⟨b,q,h1,h2,h3,h4,h5⟩,h6⟩:=h;exact ⟨⟨b,q,h1.grown hg hne,h2,h3,h4,h5⟩,h6.grown hg h6.size hr⟩
theorem Rdr.lt (h:Rdr M w0 w g):g<w.heap.size:=by
  obtain ⟨⟨b,q,h1,_⟩,_⟩:=h;exact h1.lt
theorem Rdr.ge (h:Rdr M w0 w g):w0.heap.size≤g:=by
  obtain ⟨⟨b,q,h1,_⟩,_⟩:=h;exact h1.ge
end
theorem pick_any (M:Int) (g:Nat) (n:Int) (w0 w:World) (h:Rdr M w0 w g) (hM:M≤1000000) (h0:1≤n) (h1:n≤1000000):
  Calls Try.prog 33 #[.pointer (some ⟨g,0,none⟩),.int .i64 n] w fun e w'=> ∃v:Int,e= .returned (.int .i64 v)∧(0≤v∧v<n)∧Rdr (M+1) w0 w' g∧KeepBut w w' g none:=by
 obtain ⟨⟨b,p,hI,hl,hb,hp,hpM⟩,hB⟩:=h;obtain ⟨v,v0,v1,hv⟩:=pick_ev hb hl hp (by omega) h0 h1;exact (spec_l6Rd_pick.calls 1 g b p n v (p+1) w0 w hI hB (hv 1 (Nat.le_refl _))).mono fun e w' ⟨he,hi,hbb,hk⟩=>⟨v,he,⟨v0,v1⟩,⟨⟨b,p+1,hi,hl,hb,by omega,by omega⟩,hbb⟩,hk⟩
theorem open_any (A0:Option Addr) (c0:Nat) (l0:List Int) (w:World) (hr0:Kd.C (Kd.int .u8) w A0 l0.length l0) (hc0:l0.length≤c0) (hl: ∀x∈l0,(Lit.int .u8 x).wf=true):
  Calls Try.prog 30 #[.slice A0 l0.length c0] w fun e w'=> ∃g:Nat,e= .returned (.pointer (some ⟨g,0,none⟩))∧Rdr 0 w w' g∧w.heap.size≤g∧Below w.heap.size w w':=by
 obtain ⟨b,hb,hb1,hb2⟩:=l6Open_ev hl;exact (spec_l6Open.calls A0 c0 l0 b 0 w w (Below.refl _ _) hr0 hc0 hb).mono fun e w' ⟨g,he,hi,hbb,hbb2⟩=>⟨g,he,⟨⟨b,0,hi,hb1,hb2,by omega,by omega⟩,hbb⟩,hi.ge,hbb2⟩
end Go.Proofs.Ytnlieahdakafbaa.K
namespace Go.Proofs.Ytnlieahdakafbaa.Pure
open Go.RowKit Go.Proofs.Ytnlieahdakafbaa.K Go.Proofs.YtnlieahdakafbaaW.PrintWords Go.Proofs.YtnlieahdakafbaaW.PrintLast Go.Proofs.YtnlieahdakafbaaW.PrintMore
set_option linter.unusedVariables false
set_option linter.unusedSimpArgs false
abbrev Cs:=List S112
def sup (cs:Cs) (c:Int):Int:=(rd_T112 cs c).f0
def flds (cs:Cs) (c:Int):List Int:=(rd_T112 cs c).f1
def fldOk (n t:Int):Bool:=decide (t=1∨t=3∨t=4∨(8≤t∧t<8+n))
def clsOk (cs : Cs) (i : Int) : Bool :=
  (flds cs i).all (fldOk cs.length)&&
    (if i=0 then decide (sup cs 0= -1∧flds cs 0=[]) else if i=1 then decide (sup cs 1=0∧flds cs 1=[1]) else decide ((0≤sup cs i∧sup cs i<i)∧(flds cs i).length≤2))
def csOk (cs:Cs):Bool:=decide (2≤cs.length∧cs.length≤5)&&(List.range cs.length).all (fun i:Nat=>clsOk cs i)
theorem csOk_len {cs:Cs} (h:csOk cs=true):2≤cs.length∧cs.length≤5:=by
  simp only [csOk,Bool.and_eq_true,decide_eq_true_eq] at h;exact h.1
theorem csOk_at {cs:Cs} (h:csOk cs=true) {i:Int} (h0:0≤i) (h1:i<cs.length):clsOk cs i=true:=by
 simp only [csOk,Bool.and_eq_true,decide_eq_true_eq,List.all_eq_true,List.mem_range] at h;have:=h.2 i.toNat (by omega)
 rwa [Int.toNat_of_nonneg h0] at this
theorem csOk_sup {cs:Cs} (h:csOk cs=true) {i:Int} (h0:0<i) (h1:i<cs.length):0≤sup cs i∧sup cs i<i:=by
 have:=csOk_at h (i:=i) (by omega) h1
 simp only [clsOk,Bool.and_eq_true] at this;have h2:=this.2;rw [if_neg (by omega)] at h2;by_cases h3:i=1
 ·subst h3
  simp only [if_true,decide_eq_true_eq] at h2;omega
 ·rw [if_neg h3, decide_eq_true_eq] at h2
  exact h2.1
def upN (cs:Cs):Nat→Int→Int→Bool
  |0,a,b=>decide (a=b)
  |n+1,a,b=>decide (a=b)||(decide (0<a)&&upN cs n (sup cs a) b)
theorem upN_more {cs:Cs} (h:csOk cs=true): ∀(n:Nat) (a b:Int),0≤a→a<cs.length→a.toNat≤n→upN cs (n+1) a b=upN cs n a b
 |0,a,b,h0,h1,hn=>by
  have:a=0:=by omega
  subst this;simp [upN]
 | n + 1, a, b, h0, h1, hn => by
  have e1:upN cs (n+1+1) a b=(decide (a=b)||(decide (0<a)&&upN cs (n+1) (sup cs a) b)):=rfl
  have e2:upN cs (n+1) a b=(decide (a=b)||(decide (0<a)&&upN cs n (sup cs a) b)):=rfl
  rw [e1,e2];by_cases hp:0<a
  ·have hs := csOk_sup h hp h1
   rw [upN_more h n (sup cs a) b (by omega) (by omega) (by omega)]
  ·simp [hp]
theorem cls_ind {cs:Cs} (h:csOk cs=true) {P:Int→Prop} (h00:P 0) (hs: ∀a:Int,0<a→a<cs.length→P (sup cs a)→P a): ∀a:Int,0≤a→a<cs.length→P a:=by
  suffices H: ∀(n:Nat) (a:Int),a.toNat≤n→0≤a→a<cs.length→P a from fun a h0 h1=>H a.toNat a (Nat.le_refl _) h0 h1
  intro n
  induction n with
  | zero => intro a hn h0 h1; have : a = 0 := by omega
            subst this;exact h00
  | succ n ih =>
    intro a hn h0 h1;by_cases hp:0<a
    · have := csOk_sup h hp h1
      exact hs a hp h1 (ih _ (by omega) (by omega) (by omega))
    · have : a = 0 := by omega
      subst this;exact h00
theorem field_ev {b:List Int} (hb: ∀x∈b,0≤x∧x≤255) (hl:b.length≤2000) {p n:Int} (hp:0≤p) (hp2:p≤900000) (hn:1≤n) (hn2:n≤1000):
  ∃t q,fldOk n t=true∧p≤q∧q≤p+2∧∀k,3≤k→spec_l71Field.f k b p n=some (t,q):=by
 obtain ⟨v,v0,v1,hv⟩:=pick_ev hb hl hp (by omega) (show (1:Int)≤6 by omega) (by omega);obtain ⟨u,u0,u1,hu⟩:=pick_ev hb hl (p:=p+1) (by omega) (by omega) hn (by omega)
 have hj: ∀(x:Bool) k,2≤k→spec_l71Field.j0 k n v x b (p+1)=some (if x=true then (1,p+1) else if v=2 then (3,p+1) else if v=3 then (4,p+1) else (8+u,p+2)):=fun x k hk=>by
  obtain ⟨k,rfl⟩: ∃m,k=m+1:=⟨k - 1,by omega⟩;rw [spec_l71Field.j0];by_cases c1:x=true
  ·rw [if_pos c1,if_pos c1]
  rw [if_neg c1,if_neg c1];by_cases c2:v=2
  ·rw [if_pos c2,if_pos c2]
  rw [if_neg c2,if_neg c2];by_cases c3:v=3
  ·rw [if_pos c3,if_pos c3]
  rw [if_neg c3,if_neg c3,hu k (by omega),Option.bind_some,wrap64_of (n:=8+u) (by omega) (by omega)];simp only [show p+1+1=p+2 by omega]
 have hf: ∀x:Bool,∃t q,fldOk n t=true∧p≤q∧q≤p+2∧(if x=true then ((1:Int),p+1) else if v=2 then (3,p+1) else if v=3 then (4,p+1) else (8+u,p+2))=(t,q):=fun x=>by
  unfold fldOk
  split
  ·exact ⟨1,p+1,by simp,by omega,by omega,rfl⟩
  split
  ·exact ⟨3,p+1,by simp,by omega,by omega,rfl⟩
  split
  ·exact ⟨4,p+1,by simp,by omega,by omega,rfl⟩
  ·exact ⟨8+u,p+2,by simp only [decide_eq_true_eq];omega,by omega,by omega,rfl⟩
 by_cases c0:v=0
 ·obtain ⟨t, q, h1, h2, h3, h4⟩ := hf (v == 0)
  exact ⟨t,q,h1,h2,h3,fun k hk=>by unfold spec_l71Field.f;rw [hv k (by omega),Option.bind_some,if_pos c0,hj _ k (by omega),h4]⟩
 ·obtain ⟨t, q, h1, h2, h3, h4⟩ := hf (v == 1)
  exact ⟨t,q,h1,h2,h3,fun k hk=>by unfold spec_l71Field.f;rw [hv k (by omega),Option.bind_some,if_neg c0,hj _ k (by omega),h4]⟩
theorem word_ev {b:List Int} (hb: ∀x∈b,0≤x∧x≤255) (hl:b.length≤2000) {p:Int} (hp:0≤p) (hp2:p≤900000):
  ∃v,∀k,3≤k→spec_l71Word.f k b p=some (v,p+2):=by
 obtain ⟨v,v0,v1,hv⟩:=pick_ev hb hl hp (by omega) (show (1:Int)≤3 by omega) (by omega);by_cases c:v=0
 ·obtain ⟨u, u0, u1, hu⟩ := pick_ev hb hl (p := p + 1) (by omega) (by omega) (show (1 : Int) ≤ 6 by omega) (by omega)
  exact ⟨rd [0,1,2,(-1),(-128),127] u,fun k hk=>by
   unfold spec_l71Word.f;rw [hv k (by omega),Option.bind_some,if_pos c,Option.bind_some,hu k (by omega),Option.bind_some,if_pos u0,if_pos (by simp only [List.length_cons,List.length_nil];omega)]
   simp only [show p+1+1=p+2 by omega]⟩
 ·obtain ⟨u, u0, u1, hu⟩ := pick_ev hb hl (p := p + 1) (by omega) (by omega) (show (1 : Int) ≤ 12 by omega) (by omega)
  exact ⟨wrap64 (u - 3),fun k hk=>by
   unfold spec_l71Word.f;rw [hv k (by omega),Option.bind_some,if_neg c,hu k (by omega),Option.bind_some]
   simp only [show p+1+1=p+2 by omega]⟩
end Go.Proofs.Ytnlieahdakafbaa.Pure
namespace Go.Proofs.Ytnlieahdakafbaa.K
open Go.RowKit Go.Proofs.YtnlieahdakafbaaW.PrintWords Go.Proofs.YtnlieahdakafbaaW.PrintLast Go.Proofs.YtnlieahdakafbaaW.PrintMore
attribute [local go_sem] max2_int min2_int max_two min_two max_three min_three max_four min_four
set_option linter.unusedVariables false
set_option linter.unusedSimpArgs false
open Go.Proofs.Ytnlieahdakafbaa.Pure
theorem field_any (M:Int) (g:Nat) (n:Int) (w0 w:World) (h:Rdr M w0 w g) (hM:M≤800000) (h0:1≤n) (h1:n≤1000):
  Calls Try.prog 95 #[.pointer (some ⟨g,0,none⟩),.int .i64 n] w fun e w'=> ∃t:Int,e= .returned (.int .i64 t)∧fldOk n t=true∧Rdr (M+2) w0 w' g∧KeepBut w w' g none:=by
 obtain ⟨⟨b,p,hI,hl,hb,hp,hpM⟩,hB⟩:=h;obtain ⟨t,q,ht,q0,q1,hv⟩:=field_ev hb hl hp (by omega) h0 h1;exact (spec_l71Field.calls 3 g b p n t q w0 w hI hB (hv 3 (Nat.le_refl _))).mono fun e w' ⟨he,hi,hbb,hk⟩=>⟨t,he,ht,⟨⟨b,q,hi,hl,hb,by omega,by omega⟩,hbb⟩,hk⟩
theorem word_any (M:Int) (g:Nat) (w0 w:World) (h:Rdr M w0 w g) (hM:M≤800000):
  Calls Try.prog 32 #[.pointer (some ⟨g,0,none⟩)] w fun e w'=> ∃t:Int,e= .returned (.int .i64 t)∧Rdr (M+2) w0 w' g∧KeepBut w w' g none:=by
 obtain ⟨⟨b,p,hI,hl,hb,hp,hpM⟩,hB⟩:=h;obtain ⟨t,hv⟩:=word_ev hb hl hp (by omega);exact (spec_l71Word.calls 3 g b p t (p+2) w0 w hI hB (hv 3 (Nat.le_refl _))).mono fun e w' ⟨he,hi,hbb,hk⟩=>⟨t,he,⟨⟨b,p+2,hi,hl,hb,by omega,by omega⟩,hbb⟩,hk⟩
theorem upd2 {w:World} {gb T:Nat} {x y:Value} (h:w.heap[gb]? =some (.cells #[x,y] T (0,0))) (u v:Value):((w.setCell ⟨gb,0,none⟩ u).setCell ⟨gb,1,none⟩ v).heap[gb]? =some (.cells #[u,v] T (0,0)):=
  blk_put (blk_put h 0 _ rfl) 1 _ rfl
end Go.Proofs.Ytnlieahdakafbaa.K
namespace Go.Proofs.Ytnlieahdakafbaa.Pure
open Go.RowKit Go.Proofs.Ytnlieahdakafbaa.K Go.Proofs.YtnlieahdakafbaaW.PrintWords Go.Proofs.YtnlieahdakafbaaW.PrintLast Go.Proofs.YtnlieahdakafbaaW.PrintMore
set_option linter.unusedVariables false
set_option linter.unusedSimpArgs false
def clsAt (n:Int) (x:S112) (i:Nat):Prop:=x.f1.all (fldOk n)=true∧x.f1.length≤2∧(if i=0 then x.f0= -1∧x.f1=[] else if i=1 then x.f0=0∧x.f1=[1] else 0≤x.f0∧x.f0<i)
def growOk (n:Int) (cs:Cs):Prop:=2≤cs.length∧∀(i:Nat) (x:S112),cs[i]? =some x→clsAt n x i
theorem growOk_two (n:Int):growOk n [⟨-1,[]⟩,⟨0,[1]⟩]:=by
  refine ⟨by simp,fun i x h=>?_⟩
  match i,h with
  | 0, h => obtain rfl : (⟨-1, []⟩ : S112) = x := by simpa using h
            exact ⟨rfl,by simp,rfl,rfl⟩
  | 1, h => obtain rfl : (⟨0, [1]⟩ : S112) = x := by simpa using h
            exact ⟨by simp [fldOk],by simp,rfl,rfl⟩
  |(i+2),h=>simp at h
theorem growOk_snoc {n:Int} {cs:Cs} (h:growOk n cs) {s:Int} {fs:List Int} (h0:0≤s) (h1:s<cs.length) (hl:fs.length≤2) (hf:fs.all (fldOk n)=true):growOk n (cs++[⟨s,fs⟩]):=by
 refine ⟨by have:=h.1;simp;omega,fun i x hx=>?_⟩;rw [List.getElem?_append] at hx
 split at hx
 ·exact h.2 i x hx
 ·next hi =>
  have:i - cs.length=0:=by
   have:=(List.getElem?_eq_some_iff.1 hx).1
   simp at this;omega
  rw [this] at hx;obtain rfl:(⟨s,fs⟩:S112)=x:=by simpa using hx
  have:=h.1
  exact ⟨hf,hl,by rw [if_neg (by omega),if_neg (by omega)];exact ⟨h0,by show s<_;omega⟩⟩
theorem rdC_at {cs:Cs} {i:Nat} (h:i<cs.length):cs[i]? =some (rd_T112 cs (i:Int)):=by
  unfold rd_T112;rw [Int.toNat_natCast,List.getD_eq_getElem?_getD,List.getElem?_eq_getElem h];rfl
theorem growOk_ok {n:Int} {cs:Cs} (h:growOk n cs) (hn:(cs.length:Int)=n) (h5:n≤5):csOk cs=true:=by
 unfold csOk;rw [Bool.and_eq_true,decide_eq_true_eq,List.all_eq_true];have h2:=h.1;refine ⟨by omega,fun i hi=>?_⟩;rw [List.mem_range] at hi;obtain ⟨k1,k2,k3⟩:=h.2 i _ (rdC_at hi);unfold clsOk flds sup;rw [Bool.and_eq_true,hn];refine ⟨k1,?_⟩;by_cases c0:i=0
 ·subst c0
  rw [if_pos rfl] at k3;rw [if_pos (by rfl),decide_eq_true_eq];exact k3
 rw [if_neg c0] at k3;rw [if_neg (by omega)];by_cases c1:i=1
 ·subst c1
  rw [if_pos rfl] at k3;rw [if_pos (by rfl),decide_eq_true_eq];exact k3
 rw [if_neg c1] at k3;rw [if_neg (by omega),decide_eq_true_eq];exact ⟨k3,k2⟩
theorem growOk_few {n:Int} {cs:Cs} (h:growOk n cs): ∀x∈cs,x.f1.length≤2:=by
 intro x hx;obtain ⟨i,hi,rfl⟩:=List.getElem_of_mem hx;exact (h.2 i _ (List.getElem?_eq_getElem hi)).2.1
end Go.Proofs.Ytnlieahdakafbaa.Pure
namespace Go.Proofs.Ytnlieahdakafbaa.K
open Go.RowKit Go.Proofs.YtnlieahdakafbaaW.PrintWords Go.Proofs.YtnlieahdakafbaaW.PrintLast Go.Proofs.YtnlieahdakafbaaW.PrintMore
attribute [local go_sem] max2_int min2_int max_two min_two max_three min_three max_four min_four
set_option linter.unusedVariables false
set_option linter.unusedSimpArgs false
open Go.Proofs.Ytnlieahdakafbaa.Pure
theorem S_grown2 {α:Type} {d:Kd α} {e base:Nat} {ok:Nat→Prop} {w w1:World} {v:Value} {xs:List α} {row:Option Nat} (h:Kd.S d e w base ok v xs) (hg:w.grownBy w1 row) (hne: ∀k,ok k→some k≠row):Kd.S d e w1 base ok v xs:=by
  obtain ⟨f,hR⟩:=h;exact ⟨f,Kd.R_grown hR hg hne⟩
set_option maxHeartbeats 16000000 in
set_option maxRecDepth 100000 in
theorem classes_any (M : Int) (g : Nat) (w0 w : World) (h : Rdr M w0 w g) (hM : M ≤ 700000) :
    Calls Try.prog 61 #[.pointer (some ⟨g,0,none⟩)] w fun e w'=> ∃(v:Value) (cs:Cs),e= .returned v∧(csOk cs=true∧∀x∈cs,x.f1.length≤2)∧Kd.S k112 112 w' w.heap.size (fun _=>True) v cs∧Rdr (M+40) w0 w' g∧KeepBut w w' g none:=by
  obtain ⟨b0,hb0⟩: ∃b,b=w.heap.size:=⟨_,rfl⟩;have HG:=aK (show g<b0 by rw [hb0];exact h.lt);have HG0:=aK (show w0.heap.size≤b0 by have:=h.ge;have:=HG.out;omega);have HBW:=aK hb0;rw [←hb0];have HI:=aK h;have HM:=aK hM;clear h hb0 hM;go_enter Try.func61,Try.ntmps61
  go_wp2_with fail
  go_at_call 33;refine (pick_any _ g 4 w0 _ HI.out zz48 (by omega) (by omega)).mono ?_;rintro e w1 ⟨v,rfl,hv,hi,hk⟩;have HI1:=aK hi;have HK1:=aK (KeepBut.trans (KeepBut.refl w g none) hk (.inl rfl));clear hi hk HI;obtain ⟨n,hn⟩: ∃n,n=2+v:=⟨_,rfl⟩;have q1:IntKind.i64.wrap (2+v)=n:=by rw [hn];exact IntWalk.i64_in _ ⟨by omega,by omega⟩
  have HN:=aK (show 2≤n∧n≤5 by omega);clear hn hv
  go_wp2_with (first|((with_reducible refine gate_dst (N:=12) rfl ?_);refine Kd.R_lit (Kd.int .i64) _ 3 ?hg (N:=12) ?hd (xs:=([1]:List Int)) (inner:=[.int .i64 1]) (ok:=fun _=>True) (okp:=fun _=>True) ?hr ?hp (fun _ hk=>hk) trivial (Below.refl _ _) (Nat.le_refl _) (by simp) ?_;(case hd=>rfl);(case hg=>rfl);(case hr=>first|(go_simp;done)|(go_simp;rfl));(case hp=>exact (Reps.one (show Kd.M (Kd.int .i64) _ _ _ 1 [.int .i64 1] from rfl) (Reps.none _ _)));intro v1 w2 ho hb hg_ hnew_;have HR:=aK (Kd.R_lower ho (show b0≤w1.heap.size by rw [HBW.out];exact keep_size HK1.out));have HI2:=aK (HI1.out.below hb);have HK2:=aK (KeepBut.trans HK1.out (KeepBut.of_below hb g none) (.inl rfl));clear ho hb hg_ hnew_ HI1 HK1;obtain ⟨Ao,co,eo⟩:=Kd.R_slice HR.out;subst eo)|((with_reducible refine gate_dst (N:=14) rfl ?_);refine Kd.S_lits k112 b0 112 ?hg (N:=14) ?hd (xs:=([(⟨(-1),([]:List Int)⟩:S112),(⟨0,[1]⟩:S112)]:List S112)) (inner:=[.int .i64 (-1),.slice none 0 0,.int .i64 0,.slice Ao ([1]:List Int).length co]) (ok:=fun k_=>b0≤k_) (fun j_ k_=>j_=1∧some k_=(Value.slice Ao ([1]:List Int).length co).ownBlock) ?hr rfl ?hp (fun i_ j_ k_ h1_ h2_=>h1_.1.trans h2_.1.symm) (fun j_ k_ h_=>Kd.R_base HR.out k_ h_.2.symm) (by rw [HBW.out];exact keep_size HK2.out) (Below.refl _ _) (by rw [HBW.out];exact keep_size HK2.out) (by simp) ?_;(case hd=>rfl);(case hg=>rfl);(case hr=>first|(go_simp;done)|(go_simp;rfl));(case hp=>intro j x hx;match j,hx with|0,hx=>(obtain rfl:(⟨-1,[]⟩:S112)=x:=(by simpa using hx);exact k112_mkM _ _ _ (⟨-1,[]⟩:S112) (Kd.R_nil _ _ _ _ _))|1,hx=>(obtain rfl:(⟨0,[1]⟩:S112)=x:=(by simpa using hx);exact k112_mkM _ _ _ (⟨0,[1]⟩:S112) (Kd.R_mono (Kd.R_tight rfl HR.out) (fun k_ hk_=>⟨rfl,hk_⟩)))|(j+2),hx=>simp at hx);intro v2 w3 ho hb hg_ hnew_;have HS:=aK ho;have hb2:=pw_below_grown (Below.refl w2.heap.size w2) none (Nat.le_refl _) hg_ (by simp);have HI3:=aK (HI2.out.below hb2);have HK3:=aK (KeepBut.trans HK2.out (KeepBut.of_below hb2 g none) (.inl rfl));clear ho hb hg_ hnew_ hb2 HI2 HK2 HR))
  go_loopw [4,5] (fun v4 v5 wr=> ∃cs:Cs,v5= .int .i64 (cs.length:Int)∧Aside0 (growOk n cs)∧Aside0 ((cs.length:Int)≤n)∧Aside0 (Kd.S k112 112 wr b0 (fun k_=>b0≤k_) v4 cs)∧Aside0 (Rdr (M+1+6*cs.length) w0 wr g)∧Aside0 (KeepBut w wr g none)) (fun _ v5 _=>(n - intOf v5).toNat)
  case atStart=>exact ⟨_,rfl,⟨growOk_two n⟩,⟨by have:=HN.out;simp;omega⟩,HS,⟨HI3.out.le (by simp;omega)⟩,HK3⟩
  case round=>
    clear HS HI3 HK3;obtain ⟨cs,rfl,HGo,HLe,HS,HI,HK⟩:=hrel;by_cases c:(cs.length:Int)<n
    · have d0 : decide ((cs.length : Int) < n) = true := decide_eq_true c
      have h2:=HGo.out.1;have hN:=HN.out;have HC:=aK (show 2≤cs.length∧(cs.length:Int)<n∧n≤5 by omega);clear h2 hN c HLe
      go_wp2_with fail
      go_at_call 33;refine (pick_any _ g cs.length w0 _ HI.out (by have:=HM.out;have:=HC.out;omega) (by have:=HC.out;omega) (by have:=HC.out;omega)).mono ?_;rintro e w1 ⟨s,rfl,hs,hi,hk⟩;have HI1:=aK hi;have HK1:=aK (KeepBut.trans HK.out hk (.inl rfl));have HS1:=aK (Kd.S_keep HS.out hk (fun k_ hk_=>by have:=HG.out;omega));have Hs:=aK hs;have HZ1:=aK (show b0≤w1.heap.size by rw [HBW.out];exact keep_size HK1.out);clear hi hk hs HI HK HS
      go_wp2_with (first|((with_reducible refine gate_dst (N:=6) rfl ?_);refine box_event ?hg (N:=6) ?hd (cs:= #[.int .i64 0,.slice none 0 0]) (t:=112) ?hr ?_;(case hd=>rfl);(case hg=>rfl);(case hr=>first|(go_simp;done)|(go_simp;rfl));intro gb hg w2 hbox hb;have HS2:=aK (show Kd.S k112 112 w2 b0 (fun k_=>b0≤k_∧k_<gb) u4 cs from Kd.S_below (Kd.S_mono (Kd.S_bound HS1.out) (fun k_ hk_=>⟨hk_.1,by rw [hg];exact hk_.2.2.1⟩)) hb);have HI2:=aK (HI1.out.below hb);have HK2:=aK (KeepBut.trans HK1.out (KeepBut.of_below hb g none) (.inl rfl));have BK:=aK hbox;have HGB:=aK (show b0≤gb by rw [hg];exact HZ1.out);clear hb hbox hg HS1 HI1 HK1 HZ1;have c0:=(blk_cell BK.out 0).trans rfl;have c1:=(blk_cell BK.out 1).trans rfl;have f0:=blk_frozen BK.out 0;have f1:=blk_frozen BK.out 1)|(go_at_call 33;refine (pick_any _ g 3 w0 _ (Rdr.far (Rdr.far HI2.out (p:=⟨gb,0,none⟩) (by have:=HG.out;have:=HGB.out;show g≠gb;omega) (by have:=HG0.out;have:=HGB.out;show _≤gb;omega) _) (p:=⟨gb,1,none⟩) (by have:=HG.out;have:=HGB.out;show g≠gb;omega) (by have:=HG0.out;have:=HGB.out;show _≤gb;omega) _) (by have:=HM.out;have:=HC.out;omega) (by omega) (by omega)).mono ?_;rintro e w3 ⟨k0,rfl,hk0,hi,hk⟩;have BK3:=aK (KeepBut.blk hk (upd2 BK.out _ _) (by have:=HG.out;have:=HGB.out;omega) (by simp));have HS3:=aK (Kd.S_keep (Kd.S_far (Kd.S_far HS2.out (p:=⟨gb,0,none⟩) (fun k_ hk_=>by show k_≠gb;omega) _) (p:=⟨gb,1,none⟩) (fun k_ hk_=>by show k_≠gb;omega) _) hk (fun k_ hk_=>by have:=HG.out;omega));have HI3:=aK hi;have HK3:=aK (KeepBut.trans (keep_far (keep_far HK2.out (p:=⟨gb,0,none⟩) (by rw [←HBW.out];exact HGB.out) _) (p:=⟨gb,1,none⟩) (by rw [←HBW.out];exact HGB.out) _) hk (.inl rfl));have Hk0:=aK hk0;have HW3:=aK (show gb<w3.heap.size from blk_lt BK3.out);clear hi hk hk0 BK HS2 HI2 HK2 c0 c1 f0 f1))
      have RV:=aK (show Kd.R (Kd.int .i64) 3 w3 (gb+1) (fun k_=>gb<k_) (.slice none 0 0) [] from Kd.R_nil _ _ _ _ _)
      go_loopw [7] (fun v7 wi=> ∃(x:Int) (fs:List Int) (u:Value),v7= .int .i64 x∧Aside0 (0≤x∧x+fs.length≤2)∧Aside0 (fs.all (fldOk n)=true)∧Aside0 (wi.heap[gb]? =some (.cells #[.int .i64 s,u] 112 (0,0)))∧Aside0 (Kd.R (Kd.int .i64) 3 wi (gb+1) (fun k_=>gb<k_) u fs)∧Aside0 (Kd.S k112 112 wi b0 (fun k_=>b0≤k_∧k_<gb) u4 cs)∧Aside0 (Rdr (M+1+6*cs.length+2+2*fs.length) w0 wi g)∧Aside0 (KeepBut w wi g none)∧Aside0 (gb<wi.heap.size)) (fun v7 _=>(intOf v7).toNat)
      case atStart=>exact ⟨k0,[],_,rfl,⟨by have:=Hk0.out;simp;omega⟩,⟨rfl⟩,BK3,RV,HS3,⟨HI3.out.le (by simp;omega)⟩,HK3,HW3⟩
      case round=>
      clear RV BK3 HS3 HI3 HK3 HW3 Hk0;obtain ⟨x,fs,u,rfl,HX,HF,BK,RV,HS,HI,HK,HW⟩:=hrel;by_cases c2:0<x
      · have d1 : decide (0 < x) = true := decide_eq_true c2
        have HX2:=aK (show 0<x∧x+fs.length≤2 by have:=HX.out;omega);have q2:IntKind.i64.wrap (x - 1)=x - 1:=IntWalk.i64_in _ (by have:=HX.out;omega)
        clear c2 HX;go_wp2;replace BK:=aK (blk_drew BK.out);replace RV:=aK (Kd.R_drew RV.out);replace HS:=aK (Kd.S_drew HS.out);replace HI:=aK HI.out.drew;replace HK:=aK (keep_drew HK.out);replace HW:=aK (show gb<wr.drew.heap.size from HW.out);refine sT 9 (S:=fun w'=>w'.cell? ⟨gb,1,none⟩=some (u)) (ds:=[8]) (((blk_cell BK.out 1).trans rfl)) (fun hHeld=>?_);generalize wr.drew=w4 at BK RV HS HI HK HW hHeld ⊢;refine pS 0 30 #[true,false,false,false,false,false,false,false,false] ?_;refine pS 2 32 #[true,false,true,false,false,false,false,false,false] ?_;refine pS 3 33 #[true,false,true,true,false,false,false,false,false] ?_;refine tS 1 31 #[true,true,true,true,false,false,false,false,false] rfl rfl (by kernel_rfl) hHeld (by intro w' s0;go_simp;with_reducible rfl) ?_;refine oS 4 34 #[true,true,true,true,true,false,false,false,false] rfl rfl (fun K hK=>?_);refine gO Try.func95 #[.pointer (some ⟨g,0,none⟩),.int .i64 n] ?_;(with_reducible refine (field_any _ g n w0 _ HI.out (by have:=HM.out;have:=HC.out;have:=HX2.out;omega) (by have:=HC.out;omega) (by have:=HC.out;omega)).mono ?_);rintro e w5 ⟨t,rfl,ht,hi,hk⟩;refine ⟨_,rfl,?_⟩;have BK5:=aK (KeepBut.blk hk BK.out (by have:=HG.out;have:=HGB.out;omega) (by simp));have R5:=aK (Kd.R_keep RV.out hk (fun k_ hk_=>by have:=HG.out;have:=HGB.out;omega));have HS5:=aK (Kd.S_keep HS.out hk (fun k_ hk_=>by have:=HG.out;omega));have HI5:=aK hi;have HK5:=aK (KeepBut.trans HK.out hk (.inl rfl));have HW5:=aK (show gb<w5.heap.size from blk_lt BK5.out);have Ht:=aK ht;clear hi hk ht BK RV HS HI HK HW;refine hK.out _ _ (((blk_cell BK5.out 1).trans rfl)) (fun hHeld=>?_);clear hK K;refine nS 34 ?_;refine one_ (i:=5) (N:=some 35) #[true,true,true,true,true,true,false,false,false] rfl rfl (by kernel_rfl) (by decide) (fun K hK=>?_);refine value_ (w1:=?_) (v:=?_) (by rfl) rfl ?_ ?_;rotate_left 2
        · go_simp
          constructor
          · rfl
          · rfl
        refine hK.out _ _ (((blk_cell (blk_alloc BK5.out _) 1).trans rfl)) (fun hHeld=>?_);clear hK K;refine nS 35 ?_;refine one_ (i:=6) (N:=some 36) #[true,true,true,true,true,true,true,false,false] rfl rfl (by kernel_rfl) (by decide) (fun K hK=>?_);refine Kd.R_append_step (Kd.int .i64) (gb+1) (by rfl) (.tmp 31) (.tmp 35) 24 3 (.int .i64 0) 8 rfl Try.underlying24 info3 rfl (by decide) (by omega) u fs t [.int .i64 t] (fun k_=>gb<k_) (fun _=>False) rfl rfl ?aP (fun _ hk=>hk.elim) ?aF ?aO (Below.refl _ _) ?aS ?aL ?_
        (case aP=>exact rfl)
        (case aF=>exact fun k_ hk_=>by have:=HW5.out;omega)
        (case aO=>exact R5.out)
        (case aS=>have:=HW5.out;omega)
        (case aL=>have:=HX2.out;omega)
        intro v6 w6 ho hbn hgr hat;have BK6:=aK (blk_grown BK5.out hgr (fun e_=>by have:=R5.out.1 gb e_.symm;omega));obtain ⟨AN,cN,eN⟩:=Kd.R_slice ho;subst eN;have R6:=aK ho;have HS6:=aK (S_grown2 HS5.out hgr (fun k_ hk_ e_=>by have:=R5.out.1 k_ e_.symm;omega));have HI6:=aK (HI5.out.grown hgr (fun e_=>by have:=R5.out.1 g e_.symm;have:=HG.out;have:=HGB.out;omega) (fun k_ e_=>by have:=R5.out.1 k_ e_;have:=HG0.out;have:=HGB.out;omega));have HK6:=aK (KeepBut.trans HK5.out (KeepBut.of_grown hgr g) (by rw [←HBW.out];exact Kd.R_base2 (Kd.R_lower R5.out (by have:=HGB.out;omega))));have HW6:=aK (show gb<w6.heap.size from blk_lt BK6.out);have o6:=(blk_cell BK6.out 1).trans rfl;have y6:=blk_frozen BK6.out 1;clear ho hbn hgr hat BK5 R5 HS5 HI5 HK5 HW5;refine hK.out _ _ (((blk_cell BK6.out 1).trans rfl)) (fun hHeld=>?_);clear hK K;refine nS 36 ?_;refine pS 7 37 #[true,true,true,true,true,true,true,true,false] ?_;refine last_ (i:=8) (N:=none) #[true,true,true,true,true,true,true,true,true] rfl rfl (by kernel_rfl) (by decide) (fun K hK=>?_);refine skip_ (w1:=?_) (by rfl) rfl ?_ ?_;rotate_left
        · go_simp
          rfl
        refine hK.out _ _ ?_;clear hK K;refine done_ (by kernel_rfl) ?_;go_wp2
        go_roundw
        case rel=>exact ⟨x - 1,fs++[t],_,rfl,⟨by have:=HX2.out;simp;omega⟩,⟨by rw [List.all_append,HF.out];simpa using Ht.out⟩,⟨blk_put BK6.out 1 _ rfl⟩,⟨by rw [show fs.length+1=(fs++[t]).length by simp];exact Kd.R_far (p:=⟨gb,1,none⟩) R6.out (fun k_ hk_=>by show k_≠gb;omega) _⟩,⟨Kd.S_far (p:=⟨gb,1,none⟩) HS6.out (fun k_ hk_=>by show k_≠gb;omega) _⟩,⟨(Rdr.far HI6.out (p:=⟨gb,1,none⟩) (by have:=HG.out;have:=HGB.out;show g≠gb;omega) (by have:=HG0.out;have:=HGB.out;show _≤gb;omega) _).le (by simp;omega)⟩,⟨keep_far HK6.out (p:=⟨gb,1,none⟩) (by rw [←HBW.out];exact HGB.out) _⟩,⟨by have:=HW6.out;simpa using this⟩⟩
        case measure=>have:=HX2.out;simp only [intOf];omega
      · have d1 : decide (0 < x) = false := decide_eq_false c2
        obtain ⟨AV,cV,rfl⟩:=Kd.R_slice RV.out;have o0:=(blk_cell BK.out 0).trans rfl;have o1:=(blk_cell BK.out 1).trans rfl;clear c2
        go_wp2_with ((with_reducible refine gate_builtin (b:= .append) (xs:= #[.tmp 38,.tmp 40]) rfl ?_);at_builtin;refine Kd.S_append k112 (w0:=wr) b0 rfl (.tmp 38) (.tmp 40) 23 112 (.agg #[(.int .i64 0),(.slice none 0 0)]) 32 rfl Try.underlying23 info112 rfl (by decide) (by omega) u4 cs (⟨s,fs⟩:S112) [.int .i64 s,.slice AV fs.length cV] (fun k_=>b0≤k_) (fun k_=>gb<k_) rfl (by first|rfl|(go_simp;done)|(go_simp;rfl)) ?aP ?aK ?aF ?aO ?aB ?aS ?aL ?_;(case aP=>exact k112_mkM _ _ _ (⟨s,fs⟩:S112) (Kd.R_lower RV.out (by have:=HGB.out;omega)));(case aK=>exact fun k_ hk_=>⟨by have:=HGB.out;omega,fun e_=>by have:=(Kd.S_R HS.out).1 k_ e_.symm;omega⟩);(case aF=>exact fun k_ hk_=>by have:=HW.out;have:=HGB.out;omega);(case aO=>exact Kd.S_mono HS.out (fun k_ hk_=>⟨hk_.1,by omega⟩));(case aB=>exact Below.refl _ _);(case aS=>have:=HW.out;have:=HGB.out;omega);(case aL=>have:=HC.out;omega);intro v9 w9 ho hbn hgr hat;have HS9:=aK ho;have HI9:=aK (HI.out.grown hgr (fun e_=>by have:=Kd.S_base HS.out g e_.symm;have:=HG.out;omega) (fun k_ e_=>by have:=Kd.S_base HS.out k_ e_;have:=HG0.out;omega));have HK9:=aK (KeepBut.trans HK.out (KeepBut.of_grown hgr g) (by rw [←HBW.out];exact Kd.S_base2 HS.out));clear ho hbn hgr hat o0 o1)
        have q3:wrap64 ((cs.length:Int)+1)=((cs++[(⟨s,fs⟩:S112)]).length:Int):=by have:=HC.out;unfold wrap64;simp;omega
        go_roundw
        case rel=>exact ⟨cs++[⟨s,fs⟩],by rw [q3],⟨growOk_snoc HGo.out Hs.out.1 Hs.out.2 (by have:=HX.out;omega) HF.out⟩,⟨by have:=HC.out;simp;omega⟩,HS9,⟨HI9.out.le (by have:=HX.out;simp;omega)⟩,HK9⟩
        case measure=>rw [q3];have:=HC.out;simp only [intOf];simp;omega
    · have d0 : decide ((cs.length : Int) < n) = false := decide_eq_false c
      have hle:=HLe.out;have HE:=aK (show (cs.length:Int)=n by omega);clear c hle;go_wp2;go_ret;exact ⟨u4,cs,rfl,⟨growOk_ok HGo.out HE.out (by have:=HN.out;omega),growOk_few HGo.out⟩,Kd.S_mono HS.out (fun _ _=>trivial),HI.out.le (by have:=HE.out;have:=HN.out;omega),HK.out⟩
end Go.Proofs.Ytnlieahdakafbaa.K
namespace Go.Proofs.Ytnlieahdakafbaa.K
open Go.RowKit Go.Proofs.YtnlieahdakafbaaW.PrintWords Go.Proofs.YtnlieahdakafbaaW.PrintLast Go.Proofs.YtnlieahdakafbaaW.PrintMore
attribute [local go_sem] max2_int min2_int max_two min_two max_three min_three max_four min_four
set_option linter.unusedVariables false
set_option linter.unusedSimpArgs false
def spec_MemNew.f (a0:Int) (a1:Int):Option (List Int×Int×Int×Int×List Bool):=(spec_l6In.f a0 0 40).bind fun t168=>(if t168=true then ((spec_l6In.f a1 14 120).bind fun t169=>(if t169=true then (if 0≤(wrap64 (a0+a1)) then (if (wrap64 (a0+a1):Int).toNat≤35184372088832 then ((spec_l21Cards.f a1).bind fun t173=>(if 0≤t173 then (if (t173:Int).toNat≤281474976710656 then (some ((List.replicate (wrap64 (a0+a1):Int).toNat 0),a0,0,a0,(List.replicate (t173:Int).toNat false))) else (none)) else (none))) else (none)) else (none)) else (some (([]:List Int),0,0,0,([]:List Bool))))) else (some (([]:List Int),0,0,0,([]:List Bool))))
def spec_MemNew.T3:Bool×List (List Nat×List Nat):=(true,[([],[]),([],[]),([0,1],[0,1]),([2,2],[2]),([],[]),([],[]),([],[]),([6],[6]),([7,7],[7]),([3,4,5,8],[3,4,5,8]),([9,7,0,1,2,3,4,5,6,7,8,9],[9])])
def spec_MemNew.B3:List Nat:=[0,0,3,7,0,0,0,64,192,511,1023]
theorem spec_MemNew.tab3:rtab .any (opsOf Try.f96 3)=spec_MemNew.T3:=by kernel_rfl
theorem spec_MemNew.bits3:waitsOk spec_MemNew.T3.2 spec_MemNew.B3=true:=by kernel_rfl
set_option maxHeartbeats 8000000 in
set_option maxRecDepth 100000 in
theorem spec_MemNew.calls (a0 : Int) (a1 : Int) (r1 : List Int) (r2 : Int) (r3 : Int) (r4 : Int) (r5 : List Bool) (w : World) (h : spec_MemNew.f a0 a1 = some (r1, r2, r3, r4, r5)) :
  Calls Try.prog 96 #[.int .i64 a0,.int .i64 a1] w fun e w'=> ∃v0_ v4_:Value,e= .returned (.agg #[v0_,.int .i64 r2,.int .i64 r3,.int .i64 r4,v4_])∧Kd.R (Kd.int .i64) 3 w' w.heap.size (fun _=>True) v0_ r1∧Kd.R Kd.bool 4 w' w.heap.size (fun _=>True) v4_ r5∧Below w.heap.size w w':=by
 have hu27:=Try.underlying27;have HB:=aK (Below.refl w.heap.size w);have H:((spec_l6In.f a0 0 40).bind fun t168=>(if t168=true then ((spec_l6In.f a1 14 120).bind fun t169=>(if t169=true then (if 0≤(wrap64 (a0+a1)) then (if (wrap64 (a0+a1):Int).toNat≤35184372088832 then ((spec_l21Cards.f a1).bind fun t173=>(if 0≤t173 then (if (t173:Int).toNat≤281474976710656 then (some ((List.replicate (wrap64 (a0+a1):Int).toNat 0),a0,0,a0,(List.replicate (t173:Int).toNat false))) else (none)) else (none))) else (none)) else (none)) else (some (([]:List Int),0,0,0,([]:List Bool))))) else (some (([]:List Int),0,0,0,([]:List Bool)))))=some (r1,r2,r3,r4,r5):=h
 clear h;replace H:=Option.bind_eq_some_iff.mp H;obtain ⟨t168,A30,H⟩:=H;(try dsimp only at H);have A3:=aK A30;clear A30;by_cases c4:t168=true
 ·subst c4
  rw [if_pos rfl] at H;replace H:=Option.bind_eq_some_iff.mp H;obtain ⟨t169,A50,H⟩:=H;(try dsimp only at H);have A5:=aK A50;clear A50;by_cases c6:t169=true
  ·subst c6
   rw [if_pos rfl] at H;obtain ⟨ji7,hji7⟩: ∃j_:Int,(wrap64 (a0+a1))=j_:=⟨_,rfl⟩;replace H:(if 0≤(ji7) then (if (ji7:Int).toNat≤35184372088832 then ((spec_l21Cards.f a1).bind fun t173=>(if 0≤t173 then (if (t173:Int).toNat≤281474976710656 then (some ((List.replicate (ji7:Int).toNat 0),a0,0,a0,(List.replicate (t173:Int).toNat false))) else (none)) else (none))) else (none)) else (none))=some (r1,r2,r3,r4,r5):=by first|(rw [hji7] at H;exact H)|(simp only [hji7] at H ⊢;exact H)
   (try rw [hji7] at A3)
   (try rw [hji7] at A5)
   have hji7w:(IntKind.i64.wrap (a0+a1))=ji7:=(i64_w _).trans hji7
   by_cases c8:0≤(ji7)
   ·rw [if_pos c8] at H
    have c8b0:=eq_true c8;have c8b1:decide (0≤(ji7))=true:=decide_eq_true c8
    clear c8;by_cases c9:(ji7:Int).toNat≤35184372088832
    ·rw [if_pos c9] at H
     have c9b0:=eq_true c9;have c9b1:decide ((ji7:Int).toNat≤35184372088832)=true:=decide_eq_true c9
     clear c9;obtain ⟨y170,hy170⟩: ∃y_:List Int,y_=(List.replicate (ji7:Int).toNat 0):=⟨_,rfl⟩;replace H:((spec_l21Cards.f a1).bind fun t173=>(if 0≤t173 then (if (t173:Int).toNat≤281474976710656 then (some (y170,a0,0,a0,(List.replicate (t173:Int).toNat false))) else (none)) else (none)))=some (r1,r2,r3,r4,r5):=by first|(rw [hy170];with_reducible exact H)|(have H2_:=(Option.bind_some _ _).symm.trans H;rw [hy170];with_reducible exact H2_)|(have H2_:=(Option.bind_some _ _).symm.trans H;with_reducible exact H2_)|with_reducible exact H|(rw [hy170];exact H)|exact H
     have Ny170:=aK hy170;clear hy170;replace H:=Option.bind_eq_some_iff.mp H;obtain ⟨t173,A100,H⟩:=H;(try dsimp only at H);have A10:=aK A100;clear A100;by_cases c11:0≤t173
     ·rw [if_pos c11] at H
      have c11b0:=eq_true c11;have c11b1:decide (0≤t173)=true:=decide_eq_true c11
      clear c11;by_cases c12:(t173:Int).toNat≤281474976710656
      ·rw [if_pos c12] at H
       have c12b0:=eq_true c12;have c12b1:decide ((t173:Int).toNat≤281474976710656)=true:=decide_eq_true c12
       clear c12;obtain ⟨y174,hy174⟩: ∃y_:List Bool,y_=(List.replicate (t173:Int).toNat false):=⟨_,rfl⟩;replace H:(some (y170,a0,0,a0,y174))=some (r1,r2,r3,r4,r5):=by first|(rw [hy174];with_reducible exact H)|(have H2_:=(Option.bind_some _ _).symm.trans H;rw [hy174];with_reducible exact H2_)|(have H2_:=(Option.bind_some _ _).symm.trans H;with_reducible exact H2_)|with_reducible exact H|(rw [hy174];exact H)|exact H
       have Ny174:=aK hy174;clear hy174;simp only [Option.some.injEq,Prod.mk.injEq] at H;obtain ⟨rfl,rfl,rfl,rfl,rfl⟩:=H;go_enter Try.func96,Try.ntmps96;try go_wp2_with (first|((with_reducible refine gate_dst (N:=4) rfl ?_);refine box_event ?hg (N:=4) ?hd (cs:= #[.slice none 0 0,.int .i64 0,.int .i64 0,.int .i64 0,.slice none 0 0]) (t:=27) ?hr ?_;(case hd=>rfl);(case hg=>rfl);(case hr=>first|(go_simp;done)|(go_simp;rfl));intro gb167 hg w13 hbox hb;have BK167:=aK (hbox);have GW167:=aK ((by rw [hg];exact (below_size zz1):w.heap.size≤gb167));have GE167:=aK ((by rw [hg];exact (below_size zz1):w.heap.size≤gb167));replace HB:=aK (below_step zz1 hb);clear hb hbox hg)|((with_reducible refine gate_callee (f:=79) rfl ?_);refine goesL_ (some 6) rfl rfl Try.func79 (by kernel_rfl) rfl #[.int .i64 a0,.int .i64 0,.int .i64 40] rfl zz2 ?_;(with_reducible refine (spec_l6In.calls a0 0 40 true _ A3.out).mono ?_);rintro e w' ⟨rfl,⟨nd,rfl⟩⟩;refine ⟨_,rfl,?_⟩;(try (rw [drewN_self w13];generalize hq_:World.drewN w13 _=w13;have n0_:Aside0 (w13.heap[gb167]? =some (.cells #[.slice none 0 0,.int .i64 0,.int .i64 0,.int .i64 0,.slice none 0 0] 27 (0,0))):=⟨by rw [←hq_];exact zz21⟩;have n1_:Aside0 (Below w.heap.size w w13):=⟨by rw [←hq_];exact zz9⟩;clear BK167 HB hq_;have BK167:=n0_;have HB:=n1_;clear n0_ n1_)))|(go_at_call 79;(with_reducible refine (spec_l6In.calls a1 14 120 true _ A5.out).mono ?_);rintro e w' ⟨rfl,⟨nd,rfl⟩⟩;(try (rw [drewN_self w13];generalize hq_:World.drewN w13 _=w13;have n0_:Aside0 (w13.heap[gb167]? =some (.cells #[.slice none 0 0,.int .i64 0,.int .i64 0,.int .i64 0,.slice none 0 0] 27 (0,0))):=⟨by rw [←hq_];exact zz21⟩;have n1_:Aside0 (Below w.heap.size w w13):=⟨by rw [←hq_];exact zz9⟩;clear BK167 HB hq_;have BK167:=n0_;have HB:=n1_;clear n0_ n1_))))
       have n0_:=aK (blk_drew BK167.out);have n1_:=aK (below_drew1 HB.out);clear BK167;clear HB;have BK167:=n0_;have HB:=n1_;clear n0_ n1_;refine sT 11 (S:=fun w'=>True) (ds:=[]) trivial (fun hHeld=>?_);refine with_tabW spec_MemNew.tab3 spec_MemNew.bits3 (fun HT_ HW_=>?_);generalize w13.drew=w14 at BK167 HB hHeld ⊢;refine pT 0 14 #[true,false,false,false,false,false,false,false,false,false,false] HT_ ?_;refine pT 1 15 #[true,true,false,false,false,false,false,false,false,false,false] HT_ ?_;refine pT 2 16 #[true,true,true,false,false,false,false,false,false,false,false] HT_ ?_;refine pT 4 18 #[true,true,true,false,true,false,false,false,false,false,false] HT_ ?_;refine pT 5 19 #[true,true,true,false,true,true,false,false,false,false,false] HT_ ?_;refine pT 6 20 #[true,true,true,false,true,true,true,false,false,false,false] HT_ ?_;refine join_ (σ:=Value×Value) 2 #[true,true,true,true,true,true,true,true,true,false,false] (fun s_=>[(17,s_.1),(21,.int .i64 t173),(22,s_.2)]) (fun s_ w'=>(Kd.R (Kd.int .i64) 3 w' w.heap.size (fun _=>True) s_.1 y170)∧(Kd.R Kd.bool 4 w' w.heap.size (fun _=>True) s_.2 y174)∧(w'.heap[gb167]? =some (.cells #[.slice none 0 0,.int .i64 0,.int .i64 0,.int .i64 0,.slice none 0 0] 27 (0,0)))∧(Below w.heap.size w w')) ?_ ?_;rotate_left
       ·intro hCont
        refine two_ (i:=3) (j:=7) (Ni:=some 17) (Nj:=some 21) #[true,true,true,true,true,true,true,false,false,false,false] #[true,true,true,false,true,true,true,true,false,false,false] rfl rfl rfl rfl (two_of HT_.out (by kernel_rfl)) (by decide) (by decide) (fun K hK=>?_) (fun K hK=>?_)
        ·skip
         refine Kd.R_make_step (Kd.int .i64) _ 3 (by rfl) (N:=17) rfl 24 _ _ rfl ji7 rfl rfl Try.underlying24 (.int .i64 0) 8 info3 rfl (by decide) (by omega) 0 (ok:=fun _=>True) (okp:=fun _=>True) rfl (fun _ hk=>hk) trivial (of_decide_eq_true zz3) (Nat.le_trans (Nat.mul_le_mul_right _ (of_decide_eq_true zz3:ji7.toNat≤35184372088832)) (by omega)) (Below.refl _ _) (Nat.le_refl _) ?_;intro v171 w15 ho16 hb hg_ hnew_;clear hg_ hnew_
         (first|rw [←Ny170.out] at ho16|(simp only [Int.reduceToNat] at ho16;rw [←Ny170.out] at ho16))
         have n0_:=aK (Kd.R_lower ho16 (below_size zz9));have n1_:=aK (blk_below (g:=gb167) (o:= .cells #[.slice none 0 0,.int .i64 0,.int .i64 0,.int .i64 0,.slice none 0 0] 27 (0,0)) zz21 hb);have n2_:=aK (below_step zz9 hb);clear BK167;clear HB;have HO172:=n0_;have BK167:=n1_;have HB:=n2_;clear n0_ n1_ n2_;clear hb ho16;refine hK.out _ _ trivial (fun hHeld=>?_);clear hK K;refine nS 17 ?_;refine one_ (i:=7) (N:=some 21) #[true,true,true,true,true,true,true,true,false,false,false] rfl rfl (one_of HT_.out (by kernel_rfl)) (by decide) (fun K hK=>?_);refine goes_ Try.func84 (by kernel_rfl) rfl #[.int .i64 a1] (by rfl) rfl rfl zz2 ?_;(with_reducible refine (spec_l21Cards.calls a1 t173 _ A10.out).mono ?_);rintro e w' ⟨rfl,⟨nd,rfl⟩⟩;refine ⟨_,rfl,?_⟩;refine hK.out _ _ trivial (fun hHeld=>?_);clear hK K;refine nS 21 ?_;refine one_ (i:=8) (N:=some 22) #[true,true,true,true,true,true,true,true,true,false,false] rfl rfl (one_of HT_.out (by kernel_rfl)) (by decide) (fun K hK=>?_);refine Kd.R_make_step Kd.bool _ 4 (by rfl) (N:=22) rfl 25 _ _ rfl t173 rfl rfl Try.underlying25 (.bool false) 1 info4 rfl (by decide) (by omega) false (ok:=fun _=>True) (okp:=fun _=>True) rfl (fun _ hk=>hk) trivial (of_decide_eq_true zz3) (Nat.le_trans (Nat.mul_le_mul_right _ (of_decide_eq_true zz3:t173.toNat≤281474976710656)) (by omega)) (Below.refl _ _) (Nat.le_refl _) ?_;intro v175 w17 ho18 hb hg_ hnew_;clear hg_ hnew_
         (first|rw [←Ny174.out] at ho18|(simp only [Int.reduceToNat] at ho18;rw [←Ny174.out] at ho18))
         have n0_:=aK (Kd.R_below zz51 hb);have n1_:=aK (Kd.R_lower ho18 (below_size zz9));have n2_:=aK (blk_below (g:=gb167) (o:= .cells #[.slice none 0 0,.int .i64 0,.int .i64 0,.int .i64 0,.slice none 0 0] 27 (0,0)) zz21 hb);have n3_:=aK (below_step zz9 hb);clear HO172;clear BK167;clear HB;have HO172:=n0_;have HO176:=n1_;have BK167:=n2_;have HB:=n3_;clear n0_ n1_ n2_ n3_;clear hb ho18;obtain ⟨Ao19,co19,eo19⟩:=Kd.R_slice HO176.out
         (first|subst eo19|(injection eo19 with f1_ f2_ f3_;have f4_:=f1_.symm;have f5_:=f3_.symm;clear f1_ f2_ f3_;subst f4_;subst f5_))
         obtain ⟨Ao20,co20,eo20⟩:=Kd.R_slice HO172.out
         (first|subst eo20|(injection eo20 with f1_ f2_ f3_;have f4_:=f1_.symm;have f5_:=f3_.symm;clear f1_ f2_ f3_;subst f4_;subst f5_))
         refine hK.out _ _ trivial (fun hHeld=>?_);clear hK K;refine nS 22 ?_;exact norm_ zz31 (hCont (.slice Ao20 y170.length co20,.slice Ao19 y174.length co19) _ ⟨zz51,(by (with_reducible repeat (first|apply Kd.R_alloc|apply Kd.R_drewN|apply Kd.R_drew));exact HO176.out),zz21,zz9⟩)
        ·skip
         refine goes_ Try.func84 (by kernel_rfl) rfl #[.int .i64 a1] (by rfl) rfl rfl zz2 ?_;(with_reducible refine (spec_l21Cards.calls a1 t173 _ A10.out).mono ?_);rintro e w' ⟨rfl,⟨nd,rfl⟩⟩;refine ⟨_,rfl,?_⟩;refine hK.out _ _ trivial (fun hHeld=>?_);clear hK K;refine nS 21 ?_;refine two_ (i:=3) (j:=8) (Ni:=some 17) (Nj:=some 22) #[true,true,true,true,true,true,true,true,false,false,false] #[true,true,true,false,true,true,true,true,true,false,false] rfl rfl rfl rfl (two_of HT_.out (by kernel_rfl)) (by decide) (by decide) (fun K hK=>?_) (fun K hK=>?_)
         ·skip
          refine Kd.R_make_step (Kd.int .i64) _ 3 (by rfl) (N:=17) rfl 24 _ _ rfl ji7 rfl rfl Try.underlying24 (.int .i64 0) 8 info3 rfl (by decide) (by omega) 0 (ok:=fun _=>True) (okp:=fun _=>True) rfl (fun _ hk=>hk) trivial (of_decide_eq_true zz3) (Nat.le_trans (Nat.mul_le_mul_right _ (of_decide_eq_true zz3:ji7.toNat≤35184372088832)) (by omega)) (Below.refl _ _) (Nat.le_refl _) ?_;intro v171 w15 ho16 hb hg_ hnew_;clear hg_ hnew_
          (first|rw [←Ny170.out] at ho16|(simp only [Int.reduceToNat] at ho16;rw [←Ny170.out] at ho16))
          have n0_:=aK (Kd.R_lower ho16 (below_size zz9));have n1_:=aK (blk_below (g:=gb167) (o:= .cells #[.slice none 0 0,.int .i64 0,.int .i64 0,.int .i64 0,.slice none 0 0] 27 (0,0)) zz21 hb);have n2_:=aK (below_step zz9 hb);clear BK167;clear HB;have HO172:=n0_;have BK167:=n1_;have HB:=n2_;clear n0_ n1_ n2_;clear hb ho16;refine hK.out _ _ trivial (fun hHeld=>?_);clear hK K;refine nS 17 ?_;refine one_ (i:=8) (N:=some 22) #[true,true,true,true,true,true,true,true,true,false,false] rfl rfl (one_of HT_.out (by kernel_rfl)) (by decide) (fun K hK=>?_);refine Kd.R_make_step Kd.bool _ 4 (by rfl) (N:=22) rfl 25 _ _ rfl t173 rfl rfl Try.underlying25 (.bool false) 1 info4 rfl (by decide) (by omega) false (ok:=fun _=>True) (okp:=fun _=>True) rfl (fun _ hk=>hk) trivial (of_decide_eq_true zz3) (Nat.le_trans (Nat.mul_le_mul_right _ (of_decide_eq_true zz3:t173.toNat≤281474976710656)) (by omega)) (Below.refl _ _) (Nat.le_refl _) ?_;intro v175 w17 ho18 hb hg_ hnew_;clear hg_ hnew_
          (first|rw [←Ny174.out] at ho18|(simp only [Int.reduceToNat] at ho18;rw [←Ny174.out] at ho18))
          have n0_:=aK (Kd.R_below zz51 hb);have n1_:=aK (Kd.R_lower ho18 (below_size zz9));have n2_:=aK (blk_below (g:=gb167) (o:= .cells #[.slice none 0 0,.int .i64 0,.int .i64 0,.int .i64 0,.slice none 0 0] 27 (0,0)) zz21 hb);have n3_:=aK (below_step zz9 hb);clear HO172;clear BK167;clear HB;have HO172:=n0_;have HO176:=n1_;have BK167:=n2_;have HB:=n3_;clear n0_ n1_ n2_ n3_;clear hb ho18;obtain ⟨Ao19,co19,eo19⟩:=Kd.R_slice HO176.out
          (first|subst eo19|(injection eo19 with f1_ f2_ f3_;have f4_:=f1_.symm;have f5_:=f3_.symm;clear f1_ f2_ f3_;subst f4_;subst f5_))
          obtain ⟨Ao20,co20,eo20⟩:=Kd.R_slice HO172.out
          (first|subst eo20|(injection eo20 with f1_ f2_ f3_;have f4_:=f1_.symm;have f5_:=f3_.symm;clear f1_ f2_ f3_;subst f4_;subst f5_))
          refine hK.out _ _ trivial (fun hHeld=>?_);clear hK K;refine nS 22 ?_;exact norm_ zz31 (hCont (.slice Ao20 y170.length co20,.slice Ao19 y174.length co19) _ ⟨zz51,(by (with_reducible repeat (first|apply Kd.R_alloc|apply Kd.R_drewN|apply Kd.R_drew));exact HO176.out),zz21,zz9⟩)
         ·skip
          refine Kd.R_make_step Kd.bool _ 4 (by rfl) (N:=22) rfl 25 _ _ rfl t173 rfl rfl Try.underlying25 (.bool false) 1 info4 rfl (by decide) (by omega) false (ok:=fun _=>True) (okp:=fun _=>True) rfl (fun _ hk=>hk) trivial (of_decide_eq_true zz3) (Nat.le_trans (Nat.mul_le_mul_right _ (of_decide_eq_true zz3:t173.toNat≤281474976710656)) (by omega)) (Below.refl _ _) (Nat.le_refl _) ?_;intro v175 w15 ho16 hb hg_ hnew_;clear hg_ hnew_
          (first|rw [←Ny174.out] at ho16|(simp only [Int.reduceToNat] at ho16;rw [←Ny174.out] at ho16))
          have n0_:=aK (Kd.R_lower ho16 (below_size zz9));have n1_:=aK (blk_below (g:=gb167) (o:= .cells #[.slice none 0 0,.int .i64 0,.int .i64 0,.int .i64 0,.slice none 0 0] 27 (0,0)) zz21 hb);have n2_:=aK (below_step zz9 hb);clear BK167;clear HB;have HO176:=n0_;have BK167:=n1_;have HB:=n2_;clear n0_ n1_ n2_;clear hb ho16;refine hK.out _ _ trivial (fun hHeld=>?_);clear hK K;refine nS 22 ?_;refine one_ (i:=3) (N:=some 17) #[true,true,true,true,true,true,true,true,true,false,false] rfl rfl (one_of HT_.out (by kernel_rfl)) (by decide) (fun K hK=>?_);refine Kd.R_make_step (Kd.int .i64) _ 3 (by rfl) (N:=17) rfl 24 _ _ rfl ji7 rfl rfl Try.underlying24 (.int .i64 0) 8 info3 rfl (by decide) (by omega) 0 (ok:=fun _=>True) (okp:=fun _=>True) rfl (fun _ hk=>hk) trivial (of_decide_eq_true zz3) (Nat.le_trans (Nat.mul_le_mul_right _ (of_decide_eq_true zz3:ji7.toNat≤35184372088832)) (by omega)) (Below.refl _ _) (Nat.le_refl _) ?_;intro v171 w17 ho18 hb hg_ hnew_;clear hg_ hnew_
          (first|rw [←Ny170.out] at ho18|(simp only [Int.reduceToNat] at ho18;rw [←Ny170.out] at ho18))
          have n0_:=aK (Kd.R_below (by (with_reducible repeat (first|apply Kd.R_alloc|apply Kd.R_drewN|apply Kd.R_drew));exact HO176.out) hb);have n1_:=aK (Kd.R_lower ho18 (below_size zz9));have n2_:=aK (blk_below (g:=gb167) (o:= .cells #[.slice none 0 0,.int .i64 0,.int .i64 0,.int .i64 0,.slice none 0 0] 27 (0,0)) zz21 hb);have n3_:=aK (below_step zz9 hb);clear HO176;clear BK167;clear HB;have HO176:=n0_;have HO172:=n1_;have BK167:=n2_;have HB:=n3_;clear n0_ n1_ n2_ n3_;clear hb ho18;obtain ⟨Ao19,co19,eo19⟩:=Kd.R_slice HO176.out
          (first|subst eo19|(injection eo19 with f1_ f2_ f3_;have f4_:=f1_.symm;have f5_:=f3_.symm;clear f1_ f2_ f3_;subst f4_;subst f5_))
          obtain ⟨Ao20,co20,eo20⟩:=Kd.R_slice HO172.out
          (first|subst eo20|(injection eo20 with f1_ f2_ f3_;have f4_:=f1_.symm;have f5_:=f3_.symm;clear f1_ f2_ f3_;subst f4_;subst f5_))
          refine hK.out _ _ trivial (fun hHeld=>?_);clear hK K;refine nS 17 ?_;exact norm_ zz31 (hCont (.slice Ao20 y170.length co20,.slice Ao19 y174.length co19) _ ⟨zz51,(by (with_reducible repeat (first|apply Kd.R_alloc|apply Kd.R_drewN|apply Kd.R_drew));exact HO176.out),zz21,zz9⟩)
       rintro ⟨v171,v175⟩ w21 ⟨h0_,h1_,h2_,h3_⟩;have n0_:Aside0 (Kd.R (Kd.int .i64) 3 w21 w.heap.size (fun _=>True) v171 y170):=⟨h0_⟩
       have n1_:Aside0 (Kd.R Kd.bool 4 w21 w.heap.size (fun _=>True) v175 y174):=⟨h1_⟩
       have n2_:Aside0 (w21.heap[gb167]? =some (.cells #[.slice none 0 0,.int .i64 0,.int .i64 0,.int .i64 0,.slice none 0 0] 27 (0,0))):=⟨h2_⟩
       have n3_:Aside0 (Below w.heap.size w w21):=⟨h3_⟩
       clear BK167;clear HB;clear h0_ h1_ h2_ h3_;have HO172:=n0_;have HO176:=n1_;have BK167:=n2_;have HB:=n3_;clear n0_ n1_ n2_ n3_;have hHeld:=trivial;obtain ⟨Ao22,co22,eo22⟩:=Kd.R_slice HO176.out
       (first|subst eo22|(injection eo22 with f1_ f2_ f3_;have f4_:=f1_.symm;have f5_:=f3_.symm;clear f1_ f2_ f3_;subst f4_;subst f5_))
       obtain ⟨Ao23,co23,eo23⟩:=Kd.R_slice HO172.out
       (first|subst eo23|(injection eo23 with f1_ f2_ f3_;have f4_:=f1_.symm;have f5_:=f3_.symm;clear f1_ f2_ f3_;subst f4_;subst f5_))
       refine norm_ (a':=?_) ?_ ?_;rotate_left
       ·simp only [putAll, Act.put, List.setIfInBounds_toArray, List.set_cons_zero, List.set_cons_succ]
        rfl
       refine pT 9 23 #[true,true,true,true,true,true,true,true,true,true,false] HT_ ?_;refine one_ (i:=10) (N:=none) #[true,true,true,true,true,true,true,true,true,true,true] rfl rfl (one_of HT_.out (by kernel_rfl)) (by decide) (fun K hK=>?_);have hs24:w21.cell? ⟨gb167,0,none⟩=some (.slice none 0 0):=(blk_cell BK167.out 0).trans rfl
       have hfs24:=blk_frozen BK167.out 0;have hs25:w21.cell? ⟨gb167,1,none⟩=some (.int .i64 0):=(blk_cell BK167.out 1).trans rfl
       have hfs25:=blk_frozen BK167.out 1;have hs26:w21.cell? ⟨gb167,2,none⟩=some (.int .i64 0):=(blk_cell BK167.out 2).trans rfl
       have hfs26:=blk_frozen BK167.out 2;have hs27:w21.cell? ⟨gb167,3,none⟩=some (.int .i64 0):=(blk_cell BK167.out 3).trans rfl
       have hfs27:=blk_frozen BK167.out 3;have hs28:w21.cell? ⟨gb167,4,none⟩=some (.slice none 0 0):=(blk_cell BK167.out 4).trans rfl
       have hfs28:=blk_frozen BK167.out 4;refine skip_ (w1:=?_) (by rfl) rfl ?_ ?_;rotate_left
       ·go_simp
        rfl
       refine hK.out _ _ trivial (fun hHeld=>?_);clear hK K;refine done_ (done_of HT_.out (by kernel_rfl)) ?_;try go_wp2
       refine bodyPost_ret (results_cell_row rfl _ _ gb167 27 #[.slice Ao23 y170.length co23,.int .i64 a0,.int .i64 0,.int .i64 a0,.slice Ao22 y174.length co22] (0,0) _ rfl (by (with_reducible repeat (first|refine blk_drewN ?_ _|refine blk_drew ?_|refine blk_alloc ?_ _));refine blk_put (cs:= #[.slice Ao23 y170.length co23,.int .i64 a0,.int .i64 0,.int .i64 a0,.slice none 0 0]) ?_ 4 _ rfl;(with_reducible repeat (first|refine blk_drewN ?_ _|refine blk_drew ?_|refine blk_alloc ?_ _));refine blk_put (cs:= #[.slice Ao23 y170.length co23,.int .i64 a0,.int .i64 0,.int .i64 0,.slice none 0 0]) ?_ 3 _ rfl;(with_reducible repeat (first|refine blk_drewN ?_ _|refine blk_drew ?_|refine blk_alloc ?_ _));refine blk_put (cs:= #[.slice Ao23 y170.length co23,.int .i64 a0,.int .i64 0,.int .i64 0,.slice none 0 0]) ?_ 2 _ rfl;(with_reducible repeat (first|refine blk_drewN ?_ _|refine blk_drew ?_|refine blk_alloc ?_ _));refine blk_put (cs:= #[.slice Ao23 y170.length co23,.int .i64 0,.int .i64 0,.int .i64 0,.slice none 0 0]) ?_ 1 _ rfl;(with_reducible repeat (first|refine blk_drewN ?_ _|refine blk_drew ?_|refine blk_alloc ?_ _));refine blk_put (cs:= #[.slice none 0 0,.int .i64 0,.int .i64 0,.int .i64 0,.slice none 0 0]) ?_ 0 _ rfl;(with_reducible repeat (first|refine blk_drewN ?_ _|refine blk_drew ?_|refine blk_alloc ?_ _));exact BK167.out) Try.underlying27 rfl (by kernel_rfl)) rfl ?_;exact ⟨_,_,by first|rfl|(simp [errW_none,errW_some]<;>rfl)|(simp only [←hji7];first|rfl|(simp [errW_none,errW_some]<;>rfl))|(simp [*,errW_none,errW_some]<;>rfl),by (with_reducible repeat (first|apply Kd.R_alloc|apply Kd.R_drewN|apply Kd.R_drew));exact Kd.R_mono (Kd.R_far (p:=⟨gb167,4,none⟩) (Kd.R_far (p:=⟨gb167,3,none⟩) (Kd.R_far (p:=⟨gb167,2,none⟩) (Kd.R_far (p:=⟨gb167,1,none⟩) (Kd.R_far (p:=⟨gb167,0,none⟩) (Kd.R_types HO172.out BK167.out (by decide)) (fun _ hk=>hk.2) (.slice Ao23 y170.length co23)) (fun _ hk=>hk.2) (.int .i64 a0)) (fun _ hk=>hk.2) (.int .i64 0)) (fun _ hk=>hk.2) (.int .i64 a0)) (fun _ hk=>hk.2) (.slice Ao22 y174.length co22)) (fun _ hk=>trivial),by (with_reducible repeat (first|apply Kd.R_alloc|apply Kd.R_drewN|apply Kd.R_drew));exact Kd.R_mono (Kd.R_far (p:=⟨gb167,4,none⟩) (Kd.R_far (p:=⟨gb167,3,none⟩) (Kd.R_far (p:=⟨gb167,2,none⟩) (Kd.R_far (p:=⟨gb167,1,none⟩) (Kd.R_far (p:=⟨gb167,0,none⟩) (Kd.R_types HO176.out BK167.out (by decide)) (fun _ hk=>hk.2) (.slice Ao23 y170.length co23)) (fun _ hk=>hk.2) (.int .i64 a0)) (fun _ hk=>hk.2) (.int .i64 0)) (fun _ hk=>hk.2) (.int .i64 a0)) (fun _ hk=>hk.2) (.slice Ao22 y174.length co22)) (fun _ hk=>trivial),by repeat (first|(with_reducible first|exact HB.out|apply below_alloc|apply pw_below_drewN|apply below_drew1|refine below_set ?_ GE167.out)|exact HB.out)⟩
      ·rw [if_neg c12] at H
       exact absurd H (by simp)
     ·rw [if_neg c11] at H
      exact absurd H (by simp)
    ·rw [if_neg c9] at H
     exact absurd H (by simp)
   ·rw [if_neg c8] at H
    exact absurd H (by simp)
  ·replace c6 := Bool.eq_false_iff.mpr c6
   subst c6;rw [if_neg (show¬(false=true) by decide)] at H;simp only [Option.some.injEq,Prod.mk.injEq] at H;obtain ⟨rfl,rfl,rfl,rfl,rfl⟩:=H;go_enter Try.func96,Try.ntmps96
   go_wp2_with (first|((with_reducible refine gate_dst (N:=4) rfl ?_);refine box_event ?hg (N:=4) ?hd (cs:= #[.slice none 0 0,.int .i64 0,.int .i64 0,.int .i64 0,.slice none 0 0]) (t:=27) ?hr ?_;(case hd=>rfl);(case hg=>rfl);(case hr=>first|(go_simp;done)|(go_simp;rfl));intro gb167 hg w29 hbox hb;have BK167:=aK (hbox);have GW167:=aK ((by rw [hg];exact (below_size zz1):w.heap.size≤gb167));have GE167:=aK ((by rw [hg];exact (below_size zz1):w.heap.size≤gb167));replace HB:=aK (below_step zz1 hb);clear hb hbox hg)|((with_reducible refine gate_callee (f:=79) rfl ?_);refine goesL_ (some 6) rfl rfl Try.func79 (by kernel_rfl) rfl #[.int .i64 a0,.int .i64 0,.int .i64 40] rfl zz2 ?_;(with_reducible refine (spec_l6In.calls a0 0 40 true _ A3.out).mono ?_);rintro e w' ⟨rfl,⟨nd,rfl⟩⟩;refine ⟨_,rfl,?_⟩;(try (rw [drewN_self w29];generalize hq_:World.drewN w29 _=w29;have n0_:Aside0 (w29.heap[gb167]? =some (.cells #[.slice none 0 0,.int .i64 0,.int .i64 0,.int .i64 0,.slice none 0 0] 27 (0,0))):=⟨by rw [←hq_];exact zz21⟩;have n1_:Aside0 (Below w.heap.size w w29):=⟨by rw [←hq_];exact zz9⟩;clear BK167 HB hq_;have BK167:=n0_;have HB:=n1_;clear n0_ n1_)))|(go_at_call 79;(with_reducible refine (spec_l6In.calls a1 14 120 false _ A5.out).mono ?_);rintro e w' ⟨rfl,⟨nd,rfl⟩⟩;(try (rw [drewN_self w29];generalize hq_:World.drewN w29 _=w29;have n0_:Aside0 (w29.heap[gb167]? =some (.cells #[.slice none 0 0,.int .i64 0,.int .i64 0,.int .i64 0,.slice none 0 0] 27 (0,0))):=⟨by rw [←hq_];exact zz21⟩;have n1_:Aside0 (Below w.heap.size w w29):=⟨by rw [←hq_];exact zz9⟩;clear BK167 HB hq_;have BK167:=n0_;have HB:=n1_;clear n0_ n1_));obtain ⟨hcz30_0,hcz30_1,hcz30_2,hcz30_3,hcz30_4,hfz30_0,hfz30_1,hfz30_2,hfz30_3,hfz30_4⟩:=cbf5 BK167))
   refine bodyPost_ret (results_cell_row rfl _ _ gb167 27 #[.slice none 0 0,.int .i64 0,.int .i64 0,.int .i64 0,.slice none 0 0] (0,0) _ rfl (by (with_reducible repeat (first|refine blk_drewN ?_ _|refine blk_drew ?_|refine blk_alloc ?_ _));refine blk_put (cs:= #[.slice none 0 0,.int .i64 0,.int .i64 0,.int .i64 0,.slice none 0 0]) ?_ 4 _ rfl;(with_reducible repeat (first|refine blk_drewN ?_ _|refine blk_drew ?_|refine blk_alloc ?_ _));refine blk_put (cs:= #[.slice none 0 0,.int .i64 0,.int .i64 0,.int .i64 0,.slice none 0 0]) ?_ 3 _ rfl;(with_reducible repeat (first|refine blk_drewN ?_ _|refine blk_drew ?_|refine blk_alloc ?_ _));refine blk_put (cs:= #[.slice none 0 0,.int .i64 0,.int .i64 0,.int .i64 0,.slice none 0 0]) ?_ 2 _ rfl;(with_reducible repeat (first|refine blk_drewN ?_ _|refine blk_drew ?_|refine blk_alloc ?_ _));refine blk_put (cs:= #[.slice none 0 0,.int .i64 0,.int .i64 0,.int .i64 0,.slice none 0 0]) ?_ 1 _ rfl;(with_reducible repeat (first|refine blk_drewN ?_ _|refine blk_drew ?_|refine blk_alloc ?_ _));refine blk_put (cs:= #[.slice none 0 0,.int .i64 0,.int .i64 0,.int .i64 0,.slice none 0 0]) ?_ 0 _ rfl;(with_reducible repeat (first|refine blk_drewN ?_ _|refine blk_drew ?_|refine blk_alloc ?_ _));exact BK167.out) Try.underlying27 rfl (by kernel_rfl)) rfl ?_;exact ⟨_,_,by first|rfl|(simp [errW_none,errW_some]<;>rfl)|(simp [*,errW_none,errW_some]<;>rfl),by first|exact Kd.R_nil _ _ _ _ _|exact Kd.N_nil _ _ _ _ _|exact Kd.V_nil _ _ _ _ _|exact Kd.Q_nil _ _ _ _ _|exact Kd.S_nil _ _ _ _ _,by first|exact Kd.R_nil _ _ _ _ _|exact Kd.N_nil _ _ _ _ _|exact Kd.V_nil _ _ _ _ _|exact Kd.Q_nil _ _ _ _ _|exact Kd.S_nil _ _ _ _ _,by repeat (first|(with_reducible first|exact HB.out|apply below_alloc|apply pw_below_drewN|apply below_drew1|refine below_set ?_ GE167.out)|exact HB.out)⟩
 ·replace c4 := Bool.eq_false_iff.mpr c4
  subst c4;rw [if_neg (show¬(false=true) by decide)] at H;simp only [Option.some.injEq,Prod.mk.injEq] at H;obtain ⟨rfl,rfl,rfl,rfl,rfl⟩:=H;go_enter Try.func96,Try.ntmps96
  go_wp2_with (first|((with_reducible refine gate_dst (N:=4) rfl ?_);refine box_event ?hg (N:=4) ?hd (cs:= #[.slice none 0 0,.int .i64 0,.int .i64 0,.int .i64 0,.slice none 0 0]) (t:=27) ?hr ?_;(case hd=>rfl);(case hg=>rfl);(case hr=>first|(go_simp;done)|(go_simp;rfl));intro gb167 hg w31 hbox hb;have BK167:=aK (hbox);have GW167:=aK ((by rw [hg];exact (below_size zz1):w.heap.size≤gb167));have GE167:=aK ((by rw [hg];exact (below_size zz1):w.heap.size≤gb167));replace HB:=aK (below_step zz1 hb);clear hb hbox hg)|((with_reducible refine gate_callee (f:=79) rfl ?_);refine goesL_ (some 6) rfl rfl Try.func79 (by kernel_rfl) rfl #[.int .i64 a0,.int .i64 0,.int .i64 40] rfl zz2 ?_;(with_reducible refine (spec_l6In.calls a0 0 40 false _ A3.out).mono ?_);rintro e w' ⟨rfl,⟨nd,rfl⟩⟩;refine ⟨_,rfl,?_⟩;(try (rw [drewN_self w31];generalize hq_:World.drewN w31 _=w31;have n0_:Aside0 (w31.heap[gb167]? =some (.cells #[.slice none 0 0,.int .i64 0,.int .i64 0,.int .i64 0,.slice none 0 0] 27 (0,0))):=⟨by rw [←hq_];exact zz21⟩;have n1_:Aside0 (Below w.heap.size w w31):=⟨by rw [←hq_];exact zz9⟩;clear BK167 HB hq_;have BK167:=n0_;have HB:=n1_;clear n0_ n1_));obtain ⟨hcz32_0,hcz32_1,hcz32_2,hcz32_3,hcz32_4,hfz32_0,hfz32_1,hfz32_2,hfz32_3,hfz32_4⟩:=cbf5 BK167))
  refine bodyPost_ret (results_cell_row rfl _ _ gb167 27 #[.slice none 0 0,.int .i64 0,.int .i64 0,.int .i64 0,.slice none 0 0] (0,0) _ rfl (by (with_reducible repeat (first|refine blk_drewN ?_ _|refine blk_drew ?_|refine blk_alloc ?_ _));refine blk_put (cs:= #[.slice none 0 0,.int .i64 0,.int .i64 0,.int .i64 0,.slice none 0 0]) ?_ 4 _ rfl;(with_reducible repeat (first|refine blk_drewN ?_ _|refine blk_drew ?_|refine blk_alloc ?_ _));refine blk_put (cs:= #[.slice none 0 0,.int .i64 0,.int .i64 0,.int .i64 0,.slice none 0 0]) ?_ 3 _ rfl;(with_reducible repeat (first|refine blk_drewN ?_ _|refine blk_drew ?_|refine blk_alloc ?_ _));refine blk_put (cs:= #[.slice none 0 0,.int .i64 0,.int .i64 0,.int .i64 0,.slice none 0 0]) ?_ 2 _ rfl;(with_reducible repeat (first|refine blk_drewN ?_ _|refine blk_drew ?_|refine blk_alloc ?_ _));refine blk_put (cs:= #[.slice none 0 0,.int .i64 0,.int .i64 0,.int .i64 0,.slice none 0 0]) ?_ 1 _ rfl;(with_reducible repeat (first|refine blk_drewN ?_ _|refine blk_drew ?_|refine blk_alloc ?_ _));refine blk_put (cs:= #[.slice none 0 0,.int .i64 0,.int .i64 0,.int .i64 0,.slice none 0 0]) ?_ 0 _ rfl;(with_reducible repeat (first|refine blk_drewN ?_ _|refine blk_drew ?_|refine blk_alloc ?_ _));exact BK167.out) Try.underlying27 rfl (by kernel_rfl)) rfl ?_;exact ⟨_,_,by first|rfl|(simp [errW_none,errW_some]<;>rfl)|(simp [*,errW_none,errW_some]<;>rfl),by first|exact Kd.R_nil _ _ _ _ _|exact Kd.N_nil _ _ _ _ _|exact Kd.V_nil _ _ _ _ _|exact Kd.Q_nil _ _ _ _ _|exact Kd.S_nil _ _ _ _ _,by first|exact Kd.R_nil _ _ _ _ _|exact Kd.N_nil _ _ _ _ _|exact Kd.V_nil _ _ _ _ _|exact Kd.Q_nil _ _ _ _ _|exact Kd.S_nil _ _ _ _ _,by repeat (first|(with_reducible first|exact HB.out|apply below_alloc|apply pw_below_drewN|apply below_drew1|refine below_set ?_ GE167.out)|exact HB.out)⟩
def memBox (w:World) (g:Nat) (a b c d e:Value):World:=((((w.setCell ⟨g,0,none⟩ a).setCell ⟨g,1,none⟩ b).setCell ⟨g,2,none⟩ c).setCell ⟨g,3,none⟩ d).setCell ⟨g,4,none⟩ e
theorem blk_box5 {w:World} {g:Nat} {t:TypeId} {c0 c1 c2 c3 c4 a b c d e:Value} (h:w.heap[g]? =some (.cells #[c0,c1,c2,c3,c4] t (0,0))):(memBox w g a b c d e).heap[g]? =some (.cells #[a,b,c,d,e] t (0,0)):=
  blk_put (blk_put (blk_put (blk_put (blk_put h 0 _ rfl) 1 _ rfl) 2 _ rfl) 3 _ rfl) 4 _ rfl
theorem box5_far {w:World} {g k:Nat} {a b c d e:Value} (hk:k≠g):(memBox w g a b c d e).heap[k]? =w.heap[k]? :=by
  unfold memBox;rw [Below.heap_setCell _ _ _ k hk,Below.heap_setCell _ _ _ k hk,Below.heap_setCell _ _ _ k hk,Below.heap_setCell _ _ _ k hk,Below.heap_setCell _ _ _ k hk]
theorem R_box5n {α:Type} {K:Kd α} {q:TypeId} {w:World} {base g:Nat} {ok:Nat→Prop} {v:Value} {xs:List α} {a b c d e:Value} (h:K.R q w base ok v xs) (hg: ∀k,ok k→k≠g):K.R q (memBox w g a b c d e) base ok v xs:=
  Kd.R_step h (fun k hk _=>box5_far (hg k hk))
theorem types_ne {α:Type} {K:Kd α} {q t:TypeId} {w:World} {base g gc n cap:Nat} {ok:Nat→Prop} {xs:List α} {cs:Array Value} (h:w.heap[g]? =some (.cells cs t (0,0))) (hr:K.R q w base ok (.slice (some ⟨gc,0,none⟩) n cap) xs) (hq:t≠q):g≠gc:=by
 intro e;subst e;obtain ⟨inner,ho⟩:=Kd.R_own hr;obtain ⟨cells,hc⟩:=own_typed ho g (by simp [Value.ownBlock]);rw [h] at hc;injection hc with hc;injection hc with _ h2;exact hq h2
theorem R_box5t {α:Type} {K:Kd α} {q t:TypeId} {w:World} {base g:Nat} {ok:Nat→Prop} {v:Value} {xs:List α} {cs:Array Value} {a b c d e:Value} (h:K.R q w base ok v xs) (hz:w.heap[g]? =some (.cells cs t (0,0))) (ht: ∀z,z∈q::K.E→z≠t):K.R q (memBox w g a b c d e) base ok v xs:=
  Kd.R_mono (R_box5n (Kd.R_types h hz ht) (fun _ hk=>hk.2)) (fun _ hk=>hk.1)
structure Ch (S:Nat→Prop) (w w':World):Prop where
 os:w'.os=w.os
 tape:w'.tape=w.tape
 output:w'.output=w.output
 size:w.heap.size≤w'.heap.size
 block: ∀k,k<w.heap.size→¬S k→w'.heap[k]? =w.heap[k]?
section
variable {S S2:Nat→Prop} {w w0 w1 w2:World}
theorem Ch.refl (S:Nat→Prop) (w:World):Ch S w w:=⟨rfl,rfl,rfl,Nat.le_refl _,fun _ _ _=>rfl⟩
theorem Ch.trans (h:Ch S w w1) (k:Ch S2 w1 w2) (hs: ∀k,S2 k→S k∨w.heap.size≤k):Ch S w w2:=
  ⟨k.os.trans h.os,k.tape.trans h.tape,k.output.trans h.output,Nat.le_trans h.size k.size,fun i hi hn=>(k.block i (Nat.lt_of_lt_of_le hi h.size) (fun h2=>(hs i h2).elim hn (fun h3=>by omega))).trans (h.block i hi hn)⟩
theorem Ch.then_ (h:Ch S w w1) (k:Ch S w1 w2):Ch S w w2:=h.trans k (fun _ h=> .inl h)
theorem Ch.below (h:Ch S w w1) (hb:Below w1.heap.size w1 w2):Ch S w w2:=
  h.trans (S2:=fun _=>False) ⟨hb.os,hb.tape,hb.output,hb.size,fun i hi _=>hb.block i hi⟩ (fun _ h=>h.elim)
theorem Ch.alloc (h:Ch S w w1) (o:Obj):Ch S w (w1.alloc o):=h.below (below_alloc (Below.refl _ _) o)
theorem Ch.drew (h:Ch S w w1):Ch S w w1.drew:=h.below (below_drew1 (Below.refl _ _))
theorem Ch.drewN (h:Ch S w w1) (m:Nat):Ch S w (w1.drewN m):=h.below (pw_below_drewN (Below.refl _ _) m)
theorem Ch.set (h:Ch S w w1) {p:Addr} (hp:S p.block∨w.heap.size≤p.block) (u:Value):Ch S w (w1.setCell p u):=
  h.trans (S2:=fun k=>k=p.block) ⟨rfl,rfl,rfl,by simp [World.setCell],fun k _ hn=>Below.heap_setCell _ _ _ _ hn⟩ (fun k hk=>by rw [hk];exact hp)
theorem Ch.box5 (h:Ch S w w1) {g:Nat} (hp:S g∨w.heap.size≤g) (a b c d e:Value):Ch S w (memBox w1 g a b c d e):=
  ((((h.set (p:=⟨g,0,none⟩) hp a).set (p:=⟨g,1,none⟩) hp b).set (p:=⟨g,2,none⟩) hp c).set (p:=⟨g,3,none⟩) hp d).set (p:=⟨g,4,none⟩) hp e
theorem Ch.grown (h:Ch S w w1) {row:Option Nat} (hg:w1.grownBy w2 row) (hr: ∀k,row=some k→S k∨w.heap.size≤k):Ch S w w2:=
  h.trans (S2:=fun k=>row=some k) ⟨hg.os,hg.tape,hg.output,hg.size,fun k hk hn=>hg.block k hk (fun e=>hn e.symm)⟩ hr
theorem Ch.kept (h:Ch S w w1):Kept w w1 S:=⟨h.size,h.block⟩
theorem Ch.toBelow (h:Ch S w w1) {B:Nat} (hB:B≤w.heap.size) (hS: ∀k,S k→B≤k):Below B w w1:=⟨h.os,h.tape,h.output,h.size,fun k hk=>h.block k (by omega) (fun h2=>by have:=hS k h2;omega)⟩
theorem Ch.keep {g:Nat} (h:Ch (fun k=>k=g) w w1):KeepBut w w1 g none:=⟨h.size,fun i hi hn _=>h.block i hi hn⟩
theorem Ch.blk (h:Ch S w w1) {g:Nat} {o:Obj} (hb:w.heap[g]? =some o) (hn: ¬S g):w1.heap[g]? =some o:=blk_kept hb h.kept hn
theorem Ch.R {α:Type} {d:Kd α} {e base:Nat} {ok:Nat→Prop} {v:Value} {xs:List α} (h:Ch S w w1) (hr:d.R e w base ok v xs) (hne: ∀k,ok k→¬S k):d.R e w1 base ok v xs:=Kd.R_kept hr h.kept hne
end
section
variable {M L:Int} {w0 w w1:World} {g:Nat} {S:Nat→Prop}
theorem Rdr.ch (h:Rdr M w0 w g) (hc:Ch S w w1) (hne: ¬S g) (hS: ∀k,S k→w0.heap.size≤k):Rdr M w0 w1 g:=by
  obtain ⟨⟨b,q,⟨A0,c0,hb,hg,hC⟩,h2,h3,h4,h5⟩,h6⟩:=h;exact ⟨⟨b,q,⟨A0,c0,hc.blk hb hne,hg,hC⟩,h2,h3,h4,h5⟩,h6.trans (hc.toBelow h6.size hS)⟩
theorem Rdr.step (h:Rdr M w0 w g) (h1:Rdr L w0 w1 g) (hk:KeepBut w w1 g none):Ch (fun k=>k=g) w w1:=
  ⟨h1.2.os.trans h.2.os.symm,h1.2.tape.trans h.2.tape.symm,h1.2.output.trans h.2.output.symm,hk.1,fun k hlt hn=>hk.2 k hlt hn (by simp)⟩
end
structure OM (b gw cW gc cC:Nat) (w:World) (ws:List Int) (cards:List Bool):Prop where
 hw:Kd.R (Kd.int .i64) 3 w b (fun k=>k=gw) (.slice (some ⟨gw,0,none⟩) ws.length cW) ws
 hc:Kd.R Kd.bool 4 w b (fun k=>k=gc) (.slice (some ⟨gc,0,none⟩) cards.length cC) cards
 ne:gw≠gc
section
variable {b gw cW gc cC:Nat} {w w1:World} {ws:List Int} {cards:List Bool} {S:Nat→Prop}
theorem OM.bw (h:OM b gw cW gc cC w ws cards):b≤gw∧gw<w.heap.size:=⟨Kd.R_base h.hw gw (by simp [Value.ownBlock]),Kd.R_lt h.hw gw (by simp [Value.ownBlock])⟩
theorem OM.bc (h:OM b gw cW gc cC w ws cards):b≤gc∧gc<w.heap.size:=⟨Kd.R_base h.hc gc (by simp [Value.ownBlock]),Kd.R_lt h.hc gc (by simp [Value.ownBlock])⟩
theorem OM.ch (h:OM b gw cW gc cC w ws cards) (hc:Ch S w w1) (h1: ¬S gw) (h2: ¬S gc):OM b gw cW gc cC w1 ws cards:=⟨hc.R h.hw (fun k hk=>by rw [hk];exact h1),hc.R h.hc (fun k hk=>by rw [hk];exact h2),h.ne⟩
theorem OM.nbox (h:OM b gw cW gc cC w ws cards) {g:Nat} {cs:Array Value} (hg:w.heap[g]? =some (.cells cs 27 (0,0))):gw≠g∧gc≠g:=⟨fun e=>types_ne hg h.hw (by decide) e.symm,fun e=>types_ne hg h.hc (by decide) e.symm⟩
theorem OM.wcell (h:OM b gw cW gc cC w ws cards) (x:Int) (h0:0≤x) (h1:x<ws.length):w.cell? ⟨gw,x.toNat,none⟩=some (.int .i64 (rd ws x))∧w.frozen? ⟨gw,x.toNat,none⟩=false:=Kd.R_cell (enc:=Value.int .i64) (h1:=fun _=>rfl) 0 h.hw x h0 h1
theorem OM.ccell (h:OM b gw cW gc cC w ws cards) (x:Int) (h0:0≤x) (h1:x<cards.length):w.cell? ⟨gc,x.toNat,none⟩=some (.bool (rdOf false cards x))∧w.frozen? ⟨gc,x.toNat,none⟩=false:=Kd.R_cell (enc:=Value.bool) (h1:=fun _=>rfl) false h.hc x h0 h1
theorem OM.setw (h:OM b gw cW gc cC w ws cards) (x v:Int):OM b gw cW gc cC (w.setCell ⟨gw,x.toNat,none⟩ (.int .i64 v)) (ws.set x.toNat v) cards:=
  ⟨by rw [List.length_set];exact (Kd.R_put (enc:=Value.int .i64) (h1:=fun _=>rfl) h.hw x v).1,Kd.R_far h.hc (fun k hk=>by rw [hk];exact h.ne.symm) _,h.ne⟩
theorem OM.setc (h:OM b gw cW gc cC w ws cards) (x:Int) (v:Bool):OM b gw cW gc cC (w.setCell ⟨gc,x.toNat,none⟩ (.bool v)) ws (cards.set x.toNat v):=
  ⟨Kd.R_far h.hw (fun k hk=>by rw [hk];exact h.ne) _,by rw [List.length_set];exact (Kd.R_put (enc:=Value.bool) (h1:=fun _=>rfl) h.hc x v).1,h.ne⟩
end
structure Fl (b0 gz gm gw cW gc cC:Nat) (wr:World) (v7 v8:Value) (ws:List Int) (y t o:Int) (cards:List Bool) (pl rt:List Int):Prop where
 om:OM b0 gw cW gc cC wr ws cards
 bx:wr.heap[gm]? =some (.cells #[.slice (some ⟨gw,0,none⟩) ws.length cW,.int .i64 y,.int .i64 t,.int .i64 o,.slice (some ⟨gc,0,none⟩) cards.length cC] 27 (0,0))
 bz:wr.heap[gz]? =some (.cells #[.slice none 0 0,.int .i64 0,.int .i64 0,.int .i64 0,.slice none 0 0] 27 (0,0))
 hp:Kd.R (Kd.int .i64) 3 wr b0 (fun k=>(b0≤k∧k≠gw)∧some k≠v7.ownBlock) v8 pl
 hr:Kd.R (Kd.int .i64) 3 wr b0 (fun k=>(b0≤k∧k≠gw)∧some k≠v8.ownBlock) v7 rt
 gm0:b0≤gz∧gz<gm
section
variable {b0 gz gm gw cW gc cC g:Nat} {wr w1:World} {v7 v8:Value} {ws ws':List Int} {y t o:Int} {cards cards':List Bool} {pl rt:List Int} {S:Nat→Prop}
theorem Fl.ch (h:Fl b0 gz gm gw cW gc cC wr v7 v8 ws y t o cards pl rt) (hc:Ch S wr w1) (hS: ∀k,S k→k<b0):Fl b0 gz gm gw cW gc cC w1 v7 v8 ws y t o cards pl rt:=by
  have hw:=h.om.bw;have hcc:=h.om.bc;have hm:=h.gm0;exact ⟨h.om.ch hc (fun q=>by have:=hS _ q;omega) (fun q=>by have:=hS _ q;omega),hc.blk h.bx (fun q=>by have:=hS _ q;omega),hc.blk h.bz (fun q=>by have:=hS _ q;omega),hc.R h.hp (fun k hk q=>by have:=hS _ q;omega),hc.R h.hr (fun k hk q=>by have:=hS _ q;omega),h.gm0⟩
theorem Fl.below (h:Fl b0 gz gm gw cW gc cC wr v7 v8 ws y t o cards pl rt) (hb:Below wr.heap.size wr w1):Fl b0 gz gm gw cW gc cC w1 v7 v8 ws y t o cards pl rt:=h.ch ((Ch.refl (fun _=>False) _).below hb) (fun _ h=>h.elim)
theorem OM.ctype (h:OM b0 gw cW gc cC wr ws cards): ∃cells,wr.heap[gc]? =some (.cells cells 4 (0,0)):=Kd.R_typed h.hc gc (by simp [Value.ownBlock])
theorem OM.apart (h:OM b0 gw cW gc cC wr ws cards) {ok:Nat→Prop} {v:Value} {xs:List Int} (hr:Kd.R (Kd.int .i64) 3 wr b0 ok v xs):Kd.R (Kd.int .i64) 3 wr b0 (fun k=>ok k∧k≠gc) v xs:=by
  obtain ⟨cells,hcc⟩:=h.ctype;exact Kd.R_types hr hcc (by decide)
theorem Fl.plC {A:Option Addr} {n c:Nat} (h:Fl b0 gz gm gw cW gc cC wr v7 (.slice A n c) ws y t o cards pl rt) (hg:g<b0): ∀W',Kept wr W' (fun k=>(k=gw∨k=gc)∨k=g)→(Kd.int .i64).C W' A n pl:=
  Kd.C_kept_own (h.om.apart h.hp) (fun k hk q=>by obtain ⟨⟨⟨q1,q2⟩,q3⟩,q4⟩:=hk;omega)
theorem Fl.stored (h:Fl b0 gz gm gw cW gc cC wr v7 v8 ws y t o cards pl rt) (hc:Ch (fun k=>(k=gw∨k=gc)∨k=g) wr w1) (hO:OM b0 gw cW gc cC w1 ws' cards') (hl:ws'.length=ws.length∧cards'.length=cards.length) (hg:g<b0) (t' o':Int):
  Fl b0 gz gm gw cW gc cC (memBox w1 gm (.slice (some ⟨gw,0,none⟩) ws.length cW) (.int .i64 y) (.int .i64 t') (.int .i64 o') (.slice (some ⟨gc,0,none⟩) cards.length cC)) v7 v8 ws' y t' o' cards' pl rt:=by
 have hw:=h.om.bw;have hcc:=h.om.bc;have hm:=h.gm0;have n1:=h.om.nbox h.bx;have n2:=h.om.nbox h.bz;have bx1:=hc.blk h.bx (by omega);have bz1:=hc.blk h.bz (by omega);have hp1:=hc.R (h.om.apart h.hp) (fun k hk q=>by obtain ⟨⟨⟨q1,q2⟩,q3⟩,q4⟩:=hk;omega);have hr1:=hc.R (h.om.apart h.hr) (fun k hk q=>by obtain ⟨⟨⟨q1,q2⟩,q3⟩,q4⟩:=hk;omega);refine ⟨hO.ch (Ch.box5 (Ch.refl (fun k=>k=gm) _) (.inl rfl) _ _ _ _ _) n1.1 n1.2,?_,(box5_far (by omega)).trans bz1,Kd.R_mono (R_box5t hp1 bx1 (by decide)) (fun _ hk=>hk.1),Kd.R_mono (R_box5t hr1 bx1 (by decide)) (fun _ hk=>hk.1),h.gm0⟩;rw [hl.1,hl.2];exact blk_box5 bx1
theorem Fl.try_ (h:Fl b0 gz gm gw cW gc cC wr v7 v8 ws y t o cards pl rt) (hc:Ch (fun k=>k=gw) wr w1) (hO:OM b0 gw cW gc cC w1 ws' cards) (hl:ws'.length=ws.length):Fl b0 gz gm gw cW gc cC w1 v7 v8 ws' y t o cards pl rt:=by
 have n1:=h.om.nbox h.bx;have n2:=h.om.nbox h.bz;exact ⟨hO,by rw [hl];exact hc.blk h.bx (fun e=>n1.1 e.symm),hc.blk h.bz (fun e=>n2.1 e.symm),hc.R h.hp (fun k hk q=>hk.1.2 q),hc.R h.hr (fun k hk q=>hk.1.2 q),h.gm0⟩
theorem Fl.other (h:Fl b0 gz gm gw cW gc cC wr v7 v8 ws y t o cards pl rt) {gx:Nat} {cs:Array Value} (hx:wr.heap[gx]? =some (.cells cs 27 (0,0))) (hm:gm<gx) (a b c d e:Value):Fl b0 gz gm gw cW gc cC (memBox wr gx a b c d e) v7 v8 ws y t o cards pl rt:=
  ⟨h.om.ch (Ch.box5 (Ch.refl (fun k=>k=gx) _) (.inl rfl) _ _ _ _ _) (h.om.nbox hx).1 (h.om.nbox hx).2,(box5_far (by omega)).trans h.bx,(box5_far (by have:=h.gm0;omega)).trans h.bz,R_box5t h.hp hx (by decide),R_box5t h.hr hx (by decide),h.gm0⟩
theorem Fl.nrow (h:Fl b0 gz gm gw cW gc cC wr v7 v8 ws y t o cards pl rt) {u:Value} {xs:List Int} {ok:Nat→Prop} (hu:Kd.R (Kd.int .i64) 3 wr b0 ok u xs) (hok: ∀k,ok k→k≠gw) (hg:wr.grownBy w1 u.ownBlock):
  OM b0 gw cW gc cC w1 ws cards∧w1.heap[gm]? =some (.cells #[.slice (some ⟨gw,0,none⟩) ws.length cW,.int .i64 y,.int .i64 t,.int .i64 o,.slice (some ⟨gc,0,none⟩) cards.length cC] 27 (0,0))∧w1.heap[gz]? =some (.cells #[.slice none 0 0,.int .i64 0,.int .i64 0,.int .i64 0,.slice none 0 0] 27 (0,0)):=by
 have hc:Ch (fun k=>u.ownBlock=some k) wr w1:=(Ch.refl _ wr).grown hg (fun k e=> .inl e)
 have hne:=(h.om.apart hu).1;exact ⟨h.om.ch hc (fun e=>hok gw (hu.1 gw e) rfl) (fun e=>(hne gc e).2 rfl),hc.blk h.bx (fun e=>Kd.R_ne hu h.bx (by decide) e.symm),hc.blk h.bz (fun e=>Kd.R_ne hu h.bz (by decide) e.symm)⟩
theorem Fl.appP (h:Fl b0 gz gm gw cW gc cC wr v7 v8 ws y t o cards pl rt) {v:Value} {ys:List Int} (hg:wr.grownBy w1 v8.ownBlock) (hat:v.ownBlock=v8.ownBlock∨∃b,v.ownBlock=some b∧wr.heap.size≤b) (hv:Kd.R (Kd.int .i64) 3 w1 b0 (fun k=>(b0≤k∧k≠gw)∧some k≠v7.ownBlock) v ys):Fl b0 gz gm gw cW gc cC w1 v7 v ws y t o cards ys rt:=by
  obtain ⟨h1,h2,h3⟩:=h.nrow h.hp (fun k hk=>hk.1.2) hg;exact ⟨h1,h2,h3,hv,Kd.R_after h.hr hg hat,h.gm0⟩
theorem Fl.appR (h:Fl b0 gz gm gw cW gc cC wr v7 v8 ws y t o cards pl rt) {v:Value} {ys:List Int} (hg:wr.grownBy w1 v7.ownBlock) (hat:v.ownBlock=v7.ownBlock∨∃b,v.ownBlock=some b∧wr.heap.size≤b) (hv:Kd.R (Kd.int .i64) 3 w1 b0 (fun k=>(b0≤k∧k≠gw)∧some k≠v8.ownBlock) v ys):Fl b0 gz gm gw cW gc cC w1 v v8 ws y t o cards pl ys:=by
  obtain ⟨h1,h2,h3⟩:=h.nrow h.hr (fun k hk=>hk.1.2) hg;exact ⟨h1,h2,h3,Kd.R_after h.hp hg hat,hv,h.gm0⟩
theorem Fl.freshP (h:Fl b0 gz gm gw cW gc cC wr v7 v8 ws y t o cards pl rt): ∀k,wr.heap.size≤k→(b0≤k∧k≠gw)∧some k≠v7.ownBlock:=fun k hk=>⟨⟨by have:=h.om.bw;omega,by have:=h.om.bw;omega⟩,fun e=>by have:=Kd.R_lt h.hr k e.symm;omega⟩
theorem Fl.freshR (h:Fl b0 gz gm gw cW gc cC wr v7 v8 ws y t o cards pl rt): ∀k,wr.heap.size≤k→(b0≤k∧k≠gw)∧some k≠v8.ownBlock:=fun k hk=>⟨⟨by have:=h.om.bw;omega,by have:=h.om.bw;omega⟩,fun e=>by have:=Kd.R_lt h.hp k e.symm;omega⟩
end
end Go.Proofs.Ytnlieahdakafbaa.K
