import Derived.Test.YtehefmgplkolaaaPe24
import Derived.Test.YtehefmgplkolaaaPe31
import Derived.Test.YtehefmgplkolaaaPe28
import Derived.Test.YtehefmgplkolaaaPe33
import Derived.Test.YtehefmgplkolaaaPe30
import Derived.Test.YtehefmgplkolaaaPe32
import Derived.Test.YtehefmgplkolaaaPe25
import Derived.Test.YtehefmgplkolaaaPe26
import Derived.Test.YtehefmgplkolaaaPe27
namespace Go.Proofs.Ytehefmgplkolaaa.K
open Go.RowKit Go.Proofs.YtehefmgplkolaaaW.PrintWords Go.Proofs.YtehefmgplkolaaaW.PrintLast Go.Proofs.YtehefmgplkolaaaW.PrintMore
attribute [local go_sem] max2_int min2_int max_two min_two max_three min_three max_four min_four
set_option linter.unusedVariables false
set_option linter.unusedSimpArgs false
def spec_ShapeJoin.f (k:Nat) (l0:List (S48)) (a1_0:Bool) (l1_1:List Int) (l1_2:List Int) (a2_0:Bool) (l2_1:List Int) (l2_2:List Int):Option (Bool×List Int×List Int):=(spec_l11Fits.f k l0 a1_0 l1_1 l1_2 a2_0 l2_1 l2_2).bind fun t199=>(if t199=true then ((spec_l11Join.f k l0 a1_0 l1_1 l1_2 a2_0 l2_1 l2_2).bind fun bt200=>(some (bt200.1,bt200.2.1,bt200.2.2))) else ((spec_l11None.f).bind fun bt207=>(some (bt207.1,bt207.2.1,bt207.2.2))))
set_option maxHeartbeats 8000000 in
set_option maxRecDepth 100000 in
theorem spec_ShapeJoin.calls (k:Nat) (A0:Option Addr) (c0:Nat) (l0:List (S48)) (a1_0:Bool) (A1_1:Option Addr) (c1_1:Nat) (l1_1:List Int) (A1_2:Option Addr) (c1_2:Nat) (l1_2:List Int) (a2_0:Bool) (A2_1:Option Addr) (c2_1:Nat) (l2_1:List Int) (A2_2:Option Addr) (c2_2:Nat) (l2_2:List Int) (r1:Bool) (r2:List Int) (r3:List Int) (w:World) (hr0:Kd.C k48 w A0 l0.length l0) (hc0:l0.length≤c0) (hr1_1:Kd.C (Kd.int .i64) w A1_1 l1_1.length l1_1) (hc1_1:l1_1.length≤c1_1) (hr1_2:Kd.C (Kd.int .i64) w A1_2 l1_2.length l1_2) (hc1_2:l1_2.length≤c1_2) (hr2_1:Kd.C (Kd.int .i64) w A2_1 l2_1.length l2_1) (hc2_1:l2_1.length≤c2_1) (hr2_2:Kd.C (Kd.int .i64) w A2_2 l2_2.length l2_2) (hc2_2:l2_2.length≤c2_2) (h:spec_ShapeJoin.f k l0 a1_0 l1_1 l1_2 a2_0 l2_1 l2_2=some (r1,r2,r3)):
  Calls Try.prog 7 #[.slice A0 l0.length c0,.agg #[.bool a1_0,.slice A1_1 l1_1.length c1_1,.slice A1_2 l1_2.length c1_2],.agg #[.bool a2_0,.slice A2_1 l2_1.length c2_1,.slice A2_2 l2_2.length c2_2]] w fun e w'=> ∃v1_ v2_:Value,e= .returned (.agg #[.bool r1,v1_,v2_])∧Kd.R (Kd.int .i64) 3 w' w.heap.size (fun k_=>some k_≠(v2_:Value).ownBlock) v1_ r2∧Kd.R (Kd.int .i64) 3 w' w.heap.size (fun k_=>some k_≠(v1_:Value).ownBlock) v2_ r3∧Below w.heap.size w w':=by
 have hu28:=Try.underlying28;have HR0:=aK hr0;have HC0:=aK hc0;clear hr0 hc0;have HR1_1:=aK hr1_1;have HC1_1:=aK hc1_1;clear hr1_1 hc1_1;have HR1_2:=aK hr1_2;have HC1_2:=aK hc1_2;clear hr1_2 hc1_2;have HR2_1:=aK hr2_1;have HC2_1:=aK hc2_1;clear hr2_1 hc2_1;have HR2_2:=aK hr2_2;have HC2_2:=aK hc2_2;clear hr2_2 hc2_2;have HB:=aK (Below.refl w.heap.size w);have H:((spec_l11Fits.f k l0 a1_0 l1_1 l1_2 a2_0 l2_1 l2_2).bind fun t199=>(if t199=true then ((spec_l11Join.f k l0 a1_0 l1_1 l1_2 a2_0 l2_1 l2_2).bind fun bt200=>(some (bt200.1,bt200.2.1,bt200.2.2))) else ((spec_l11None.f).bind fun bt207=>(some (bt207.1,bt207.2.1,bt207.2.2)))))=some (r1,r2,r3):=h
 clear h;replace H:=Option.bind_eq_some_iff.mp H;obtain ⟨t199,A40,H⟩:=H;(try dsimp only at H);have A4:=aK A40;clear A40;by_cases c5:t199=true
 ·subst c5
  rw [if_pos rfl] at H;replace H:=Option.bind_eq_some_iff.mp H;obtain ⟨⟨t200,t201,t204⟩,A60,H⟩:=H;(try dsimp only at H);have A6:=aK A60;clear A60;simp only [Option.some.injEq,Prod.mk.injEq] at H;obtain ⟨rfl,rfl,rfl⟩:=H;go_enter Try.func7,Try.ntmps7
  go_wp2_with (first|((with_reducible refine gate_dst (N:=4) rfl ?_);refine box_event ?hg (N:=4) ?hd (cs:= #[.bool a1_0,.slice A1_1 l1_1.length c1_1,.slice A1_2 l1_2.length c1_2]) (t:=28) ?hr ?_;(case hd=>rfl);(case hg=>rfl);(case hr=>first|(go_simp;done)|(go_simp;rfl));intro gb196 hg w7 hbox hb;have BK196:=aK (hbox);have GW196:=aK ((by rw [hg];exact (below_size zz1):w.heap.size≤gb196));have GE196:=aK ((by rw [hg];exact (below_size zz1):w.heap.size≤gb196));replace HB:=aK (below_step zz1 hb);clear hb hbox hg)|((with_reducible refine gate_dst (N:=5) rfl ?_);refine box_event ?hg (N:=5) ?hd (cs:= #[.bool a2_0,.slice A2_1 l2_1.length c2_1,.slice A2_2 l2_2.length c2_2]) (t:=28) ?hr ?_;(case hd=>rfl);(case hg=>rfl);(case hr=>first|(go_simp;done)|(go_simp;rfl));intro gb197 hg w8 hbox hb;have BK197:=aK (hbox);have GW197:=aK ((by rw [hg];exact (below_size (by repeat (first|(with_reducible first|exact HB.out|apply below_alloc|apply pw_below_drewN|apply below_drew1|refine below_set ?_ GE196.out)|exact HB.out))):w.heap.size≤gb197));have GE197:=aK ((by rw [hg];exact (below_size (by repeat (first|(with_reducible first|exact HB.out|apply below_alloc|apply pw_below_drewN|apply below_drew1|refine below_set ?_ GE196.out)|exact HB.out))):w.heap.size≤gb197));have NB196_197:=aK ((by rw [hg];exact Nat.ne_of_lt (blk_lt (g:=gb196) (o:= .cells #[.bool a1_0,.slice A1_1 l1_1.length c1_1,.slice A1_2 l1_2.length c1_2] 28 (0,0)) zz37):gb196≠gb197));have NB197_196:=aK ((by rw [hg];exact Nat.ne_of_gt (blk_lt (g:=gb196) (o:= .cells #[.bool a1_0,.slice A1_1 l1_1.length c1_1,.slice A1_2 l1_2.length c1_2] 28 (0,0)) zz37):gb197≠gb196));replace BK196:=aK (blk_below (g:=gb196) (o:= .cells #[.bool a1_0,.slice A1_1 l1_1.length c1_1,.slice A1_2 l1_2.length c1_2] 28 (0,0)) zz37 hb);replace HB:=aK (below_step (by repeat (first|(with_reducible first|exact HB.out|apply below_alloc|apply pw_below_drewN|apply below_drew1|refine below_set ?_ GE196.out)|exact HB.out)) hb);clear hb hbox hg)|((with_reducible refine gate_dst (N:=6) rfl ?_);refine box_event ?hg (N:=6) ?hd (cs:= #[.bool false,.slice none 0 0,.slice none 0 0]) (t:=28) ?hr ?_;(case hd=>rfl);(case hg=>rfl);(case hr=>first|(go_simp;done)|(go_simp;rfl));intro gb198 hg w9 hbox hb;have BK198:=aK (hbox);have GW198:=aK ((by rw [hg];exact (below_size zz57):w.heap.size≤gb198));have GE198:=aK ((by rw [hg];exact (below_size zz57):w.heap.size≤gb198));have NB196_198:=aK ((by rw [hg];exact Nat.ne_of_lt (blk_lt (g:=gb196) (o:= .cells #[.bool a1_0,.slice A1_1 l1_1.length c1_1,.slice A1_2 l1_2.length c1_2] 28 (0,0)) zz37):gb196≠gb198));have NB198_196:=aK ((by rw [hg];exact Nat.ne_of_gt (blk_lt (g:=gb196) (o:= .cells #[.bool a1_0,.slice A1_1 l1_1.length c1_1,.slice A1_2 l1_2.length c1_2] 28 (0,0)) zz37):gb198≠gb196));have NB197_198:=aK ((by rw [hg];exact Nat.ne_of_lt (blk_lt (g:=gb197) (o:= .cells #[.bool a2_0,.slice A2_1 l2_1.length c2_1,.slice A2_2 l2_2.length c2_2] 28 (0,0)) zz52):gb197≠gb198));have NB198_197:=aK ((by rw [hg];exact Nat.ne_of_gt (blk_lt (g:=gb197) (o:= .cells #[.bool a2_0,.slice A2_1 l2_1.length c2_1,.slice A2_2 l2_2.length c2_2] 28 (0,0)) zz52):gb198≠gb197));replace BK196:=aK (blk_below (g:=gb196) (o:= .cells #[.bool a1_0,.slice A1_1 l1_1.length c1_1,.slice A1_2 l1_2.length c1_2] 28 (0,0)) zz37 hb);replace BK197:=aK (blk_below (g:=gb197) (o:= .cells #[.bool a2_0,.slice A2_1 l2_1.length c2_1,.slice A2_2 l2_2.length c2_2] 28 (0,0)) zz52 hb);replace HB:=aK (below_step zz57 hb);clear hb hbox hg;have hnb10:=NB196_197.out;have hnc10:=NB197_196.out;have hnb11:=NB196_198.out;have hnc11:=NB198_196.out;obtain ⟨hcz12_0,hcz12_1,hcz12_2,hfz12_0,hfz12_1,hfz12_2⟩:=cbf3 BK196;have hnb13:=NB197_198.out;have hnc13:=NB198_197.out;obtain ⟨hcz14_0,hcz14_1,hcz14_2,hfz14_0,hfz14_1,hfz14_2⟩:=cbf3 BK197)|((with_reducible refine gate_callee (f:=21) rfl ?_);refine goesL_ (some 10) rfl rfl Try.func21 (by kernel_rfl) rfl #[.slice A0 l0.length c0,.agg #[.bool a1_0,.slice A1_1 l1_1.length c1_1,.slice A1_2 l1_2.length c1_2],.agg #[.bool a2_0,.slice A2_1 l2_1.length c2_1,.slice A2_2 l2_2.length c2_2]] rfl zz2 ?_;(with_reducible refine (spec_l11Fits.calls k _ _ l0 a1_0 _ _ l1_1 _ _ l1_2 a2_0 _ _ l2_1 _ _ l2_2 true _ ?side1 ?side2 ?side3 ?side4 ?side5 ?side6 ?side7 ?side8 ?side9 ?side10 A4.out).mono ?_);(case side1=>exact zz3);(case side2=>exact HC0.out);(case side3=>exact zz14);(case side4=>exact HC1_1.out);(case side5=>exact zz16);(case side6=>exact HC1_2.out);(case side7=>exact zz32);(case side8=>exact HC2_1.out);(case side9=>exact zz31);(case side10=>exact HC2_2.out);rintro e w15 ⟨rfl,hb⟩;refine ⟨_,rfl,?_⟩;replace BK196:=aK (blk_below (g:=gb196) (o:= .cells #[.bool a1_0,.slice A1_1 l1_1.length c1_1,.slice A1_2 l1_2.length c1_2] 28 (0,0)) zz37 hb);replace BK197:=aK (blk_below (g:=gb197) (o:= .cells #[.bool a2_0,.slice A2_1 l2_1.length c2_1,.slice A2_2 l2_2.length c2_2] 28 (0,0)) zz52 hb);replace BK198:=aK (blk_below (g:=gb198) (o:= .cells #[.bool false,.slice none 0 0,.slice none 0 0] 28 (0,0)) (by (with_reducible repeat (first|refine blk_drewN ?_ _|refine blk_drew ?_|refine blk_alloc ?_ _));exact BK198.out) hb);replace HB:=aK (below_step zz41 hb);(try clear hb);(try clear hb2);(try clear hk);(try clear hi);obtain ⟨hcz16_0,hcz16_1,hcz16_2,hfz16_0,hfz16_1,hfz16_2⟩:=cbf3 BK196;obtain ⟨hcz17_0,hcz17_1,hcz17_2,hfz17_0,hfz17_1,hfz17_2⟩:=cbf3 BK197)|((with_reducible refine gate_callee (f:=23) rfl ?_);refine goesL_ (some 16) rfl rfl Try.func23 (by kernel_rfl) rfl #[.slice A0 l0.length c0,.agg #[.bool a1_0,.slice A1_1 l1_1.length c1_1,.slice A1_2 l1_2.length c1_2],.agg #[.bool a2_0,.slice A2_1 l2_1.length c2_1,.slice A2_2 l2_2.length c2_2]] rfl zz2 ?_;(with_reducible refine (spec_l11Join.calls k _ _ l0 a1_0 _ _ l1_1 _ _ l1_2 a2_0 _ _ l2_1 _ _ l2_2 t200 t201 t204 _ ?side1 ?side2 ?side3 ?side4 ?side5 ?side6 ?side7 ?side8 ?side9 ?side10 A6.out).mono ?_);(case side1=>exact zz3);(case side2=>exact HC0.out);(case side3=>exact zz14);(case side4=>exact HC1_1.out);(case side5=>exact zz16);(case side6=>exact HC1_2.out);(case side7=>exact zz32);(case side8=>exact HC2_1.out);(case side9=>exact zz31);(case side10=>exact HC2_2.out);rintro e w18 ⟨v202,v205,rfl,ho0,ho1,hb⟩;refine ⟨_,rfl,?_⟩;have HO203:=aK (Kd.R_lower ho0 (below_size zz41));have HO206:=aK (Kd.R_lower ho1 (below_size zz41));replace BK196:=aK (blk_below (g:=gb196) (o:= .cells #[.bool a1_0,.slice A1_1 l1_1.length c1_1,.slice A1_2 l1_2.length c1_2] 28 (0,0)) zz37 hb);replace BK197:=aK (blk_below (g:=gb197) (o:= .cells #[.bool a2_0,.slice A2_1 l2_1.length c2_1,.slice A2_2 l2_2.length c2_2] 28 (0,0)) zz52 hb);replace BK198:=aK (blk_below (g:=gb198) (o:= .cells #[.bool false,.slice none 0 0,.slice none 0 0] 28 (0,0)) (by (with_reducible repeat (first|refine blk_drewN ?_ _|refine blk_drew ?_|refine blk_alloc ?_ _));exact BK198.out) hb);replace HB:=aK (below_step zz41 hb);(try clear hb);(try clear hb2);(try clear hk);(try clear hi);(try clear ho0);(try clear ho1);obtain ⟨hcz19_0,hcz19_1,hcz19_2,hfz19_0,hfz19_1,hfz19_2⟩:=cbf3 BK198;obtain ⟨Ao20,co20,eo20⟩:=Kd.R_slice HO203.out;subst eo20;obtain ⟨Ao21,co21,eo21⟩:=Kd.R_slice HO206.out;subst eo21))
  refine bodyPost_ret (results_cell_row rfl _ _ gb198 28 #[.bool t200,.slice Ao20 t201.length co20,.slice Ao21 t204.length co21] (0,0) _ rfl (by (with_reducible repeat (first|refine blk_drewN ?_ _|refine blk_drew ?_|refine blk_alloc ?_ _));refine blk_put (cs:= #[.bool t200,.slice Ao20 t201.length co20,.slice none 0 0]) ?_ 2 _ rfl;(with_reducible repeat (first|refine blk_drewN ?_ _|refine blk_drew ?_|refine blk_alloc ?_ _));refine blk_put (cs:= #[.bool t200,.slice none 0 0,.slice none 0 0]) ?_ 1 _ rfl;(with_reducible repeat (first|refine blk_drewN ?_ _|refine blk_drew ?_|refine blk_alloc ?_ _));refine blk_put (cs:= #[.bool false,.slice none 0 0,.slice none 0 0]) ?_ 0 _ rfl;(with_reducible repeat (first|refine blk_drewN ?_ _|refine blk_drew ?_|refine blk_alloc ?_ _));exact BK198.out) Try.underlying28 rfl (by kernel_rfl)) rfl ?_;exact ⟨_,_,by first|rfl|(simp [errW_none,errW_some]<;>rfl)|(simp [*,errW_none,errW_some]<;>rfl),by (with_reducible repeat (first|apply Kd.R_alloc|apply Kd.R_drewN|apply Kd.R_drew));exact Kd.R_mono (Kd.R_far (p:=⟨gb198,2,none⟩) (Kd.R_far (p:=⟨gb198,1,none⟩) (Kd.R_far (p:=⟨gb198,0,none⟩) (Kd.R_types HO203.out BK198.out (by decide)) (fun _ hk=>hk.2) (.bool t200)) (fun _ hk=>hk.2) (.slice Ao20 t201.length co20)) (fun _ hk=>hk.2) (.slice Ao21 t204.length co21)) (fun _ hk=>hk.1),by (with_reducible repeat (first|apply Kd.R_alloc|apply Kd.R_drewN|apply Kd.R_drew));exact Kd.R_mono (Kd.R_far (p:=⟨gb198,2,none⟩) (Kd.R_far (p:=⟨gb198,1,none⟩) (Kd.R_far (p:=⟨gb198,0,none⟩) (Kd.R_types HO206.out BK198.out (by decide)) (fun _ hk=>hk.2) (.bool t200)) (fun _ hk=>hk.2) (.slice Ao20 t201.length co20)) (fun _ hk=>hk.2) (.slice Ao21 t204.length co21)) (fun _ hk=>hk.1),by repeat (first|(with_reducible first|exact HB.out|apply below_alloc|apply pw_below_drewN|apply below_drew1|refine below_set ?_ GE196.out|refine below_set ?_ GE197.out|refine below_set ?_ GE198.out)|exact HB.out)⟩
 ·replace c5 := Bool.eq_false_iff.mpr c5
  subst c5;rw [if_neg (show¬(false=true) by decide)] at H;replace H:=Option.bind_eq_some_iff.mp H;obtain ⟨⟨t207,t208,t211⟩,A220,H⟩:=H;(try dsimp only at H);have A22:=aK A220;clear A220;simp only [Option.some.injEq,Prod.mk.injEq] at H;obtain ⟨rfl,rfl,rfl⟩:=H;go_enter Try.func7,Try.ntmps7
  go_wp2_with (first|((with_reducible refine gate_dst (N:=4) rfl ?_);refine box_event ?hg (N:=4) ?hd (cs:= #[.bool a1_0,.slice A1_1 l1_1.length c1_1,.slice A1_2 l1_2.length c1_2]) (t:=28) ?hr ?_;(case hd=>rfl);(case hg=>rfl);(case hr=>first|(go_simp;done)|(go_simp;rfl));intro gb196 hg w23 hbox hb;have BK196:=aK (hbox);have GW196:=aK ((by rw [hg];exact (below_size zz1):w.heap.size≤gb196));have GE196:=aK ((by rw [hg];exact (below_size zz1):w.heap.size≤gb196));replace HB:=aK (below_step zz1 hb);clear hb hbox hg)|((with_reducible refine gate_dst (N:=5) rfl ?_);refine box_event ?hg (N:=5) ?hd (cs:= #[.bool a2_0,.slice A2_1 l2_1.length c2_1,.slice A2_2 l2_2.length c2_2]) (t:=28) ?hr ?_;(case hd=>rfl);(case hg=>rfl);(case hr=>first|(go_simp;done)|(go_simp;rfl));intro gb197 hg w24 hbox hb;have BK197:=aK (hbox);have GW197:=aK ((by rw [hg];exact (below_size (by repeat (first|(with_reducible first|exact HB.out|apply below_alloc|apply pw_below_drewN|apply below_drew1|refine below_set ?_ GE196.out)|exact HB.out))):w.heap.size≤gb197));have GE197:=aK ((by rw [hg];exact (below_size (by repeat (first|(with_reducible first|exact HB.out|apply below_alloc|apply pw_below_drewN|apply below_drew1|refine below_set ?_ GE196.out)|exact HB.out))):w.heap.size≤gb197));have NB196_197:=aK ((by rw [hg];exact Nat.ne_of_lt (blk_lt (g:=gb196) (o:= .cells #[.bool a1_0,.slice A1_1 l1_1.length c1_1,.slice A1_2 l1_2.length c1_2] 28 (0,0)) zz37):gb196≠gb197));have NB197_196:=aK ((by rw [hg];exact Nat.ne_of_gt (blk_lt (g:=gb196) (o:= .cells #[.bool a1_0,.slice A1_1 l1_1.length c1_1,.slice A1_2 l1_2.length c1_2] 28 (0,0)) zz37):gb197≠gb196));replace BK196:=aK (blk_below (g:=gb196) (o:= .cells #[.bool a1_0,.slice A1_1 l1_1.length c1_1,.slice A1_2 l1_2.length c1_2] 28 (0,0)) zz37 hb);replace HB:=aK (below_step (by repeat (first|(with_reducible first|exact HB.out|apply below_alloc|apply pw_below_drewN|apply below_drew1|refine below_set ?_ GE196.out)|exact HB.out)) hb);clear hb hbox hg)|((with_reducible refine gate_dst (N:=6) rfl ?_);refine box_event ?hg (N:=6) ?hd (cs:= #[.bool false,.slice none 0 0,.slice none 0 0]) (t:=28) ?hr ?_;(case hd=>rfl);(case hg=>rfl);(case hr=>first|(go_simp;done)|(go_simp;rfl));intro gb198 hg w25 hbox hb;have BK198:=aK (hbox);have GW198:=aK ((by rw [hg];exact (below_size zz57):w.heap.size≤gb198));have GE198:=aK ((by rw [hg];exact (below_size zz57):w.heap.size≤gb198));have NB196_198:=aK ((by rw [hg];exact Nat.ne_of_lt (blk_lt (g:=gb196) (o:= .cells #[.bool a1_0,.slice A1_1 l1_1.length c1_1,.slice A1_2 l1_2.length c1_2] 28 (0,0)) zz37):gb196≠gb198));have NB198_196:=aK ((by rw [hg];exact Nat.ne_of_gt (blk_lt (g:=gb196) (o:= .cells #[.bool a1_0,.slice A1_1 l1_1.length c1_1,.slice A1_2 l1_2.length c1_2] 28 (0,0)) zz37):gb198≠gb196));have NB197_198:=aK ((by rw [hg];exact Nat.ne_of_lt (blk_lt (g:=gb197) (o:= .cells #[.bool a2_0,.slice A2_1 l2_1.length c2_1,.slice A2_2 l2_2.length c2_2] 28 (0,0)) zz52):gb197≠gb198));have NB198_197:=aK ((by rw [hg];exact Nat.ne_of_gt (blk_lt (g:=gb197) (o:= .cells #[.bool a2_0,.slice A2_1 l2_1.length c2_1,.slice A2_2 l2_2.length c2_2] 28 (0,0)) zz52):gb198≠gb197));replace BK196:=aK (blk_below (g:=gb196) (o:= .cells #[.bool a1_0,.slice A1_1 l1_1.length c1_1,.slice A1_2 l1_2.length c1_2] 28 (0,0)) zz37 hb);replace BK197:=aK (blk_below (g:=gb197) (o:= .cells #[.bool a2_0,.slice A2_1 l2_1.length c2_1,.slice A2_2 l2_2.length c2_2] 28 (0,0)) zz52 hb);replace HB:=aK (below_step zz57 hb);clear hb hbox hg;have hnb26:=NB196_197.out;have hnc26:=NB197_196.out;have hnb27:=NB196_198.out;have hnc27:=NB198_196.out;obtain ⟨hcz28_0,hcz28_1,hcz28_2,hfz28_0,hfz28_1,hfz28_2⟩:=cbf3 BK196;have hnb29:=NB197_198.out;have hnc29:=NB198_197.out;obtain ⟨hcz30_0,hcz30_1,hcz30_2,hfz30_0,hfz30_1,hfz30_2⟩:=cbf3 BK197)|((with_reducible refine gate_callee (f:=21) rfl ?_);refine goesL_ (some 10) rfl rfl Try.func21 (by kernel_rfl) rfl #[.slice A0 l0.length c0,.agg #[.bool a1_0,.slice A1_1 l1_1.length c1_1,.slice A1_2 l1_2.length c1_2],.agg #[.bool a2_0,.slice A2_1 l2_1.length c2_1,.slice A2_2 l2_2.length c2_2]] rfl zz2 ?_;(with_reducible refine (spec_l11Fits.calls k _ _ l0 a1_0 _ _ l1_1 _ _ l1_2 a2_0 _ _ l2_1 _ _ l2_2 false _ ?side1 ?side2 ?side3 ?side4 ?side5 ?side6 ?side7 ?side8 ?side9 ?side10 A4.out).mono ?_);(case side1=>exact zz3);(case side2=>exact HC0.out);(case side3=>exact zz14);(case side4=>exact HC1_1.out);(case side5=>exact zz16);(case side6=>exact HC1_2.out);(case side7=>exact zz32);(case side8=>exact HC2_1.out);(case side9=>exact zz31);(case side10=>exact HC2_2.out);rintro e w31 ⟨rfl,hb⟩;refine ⟨_,rfl,?_⟩;replace BK196:=aK (blk_below (g:=gb196) (o:= .cells #[.bool a1_0,.slice A1_1 l1_1.length c1_1,.slice A1_2 l1_2.length c1_2] 28 (0,0)) zz37 hb);replace BK197:=aK (blk_below (g:=gb197) (o:= .cells #[.bool a2_0,.slice A2_1 l2_1.length c2_1,.slice A2_2 l2_2.length c2_2] 28 (0,0)) zz52 hb);replace BK198:=aK (blk_below (g:=gb198) (o:= .cells #[.bool false,.slice none 0 0,.slice none 0 0] 28 (0,0)) (by (with_reducible repeat (first|refine blk_drewN ?_ _|refine blk_drew ?_|refine blk_alloc ?_ _));exact BK198.out) hb);replace HB:=aK (below_step zz41 hb);(try clear hb);(try clear hb2);(try clear hk);(try clear hi))|((with_reducible refine gate_callee (f:=22) rfl ?_);refine goesL_ (some 12) rfl rfl Try.func22 (by kernel_rfl) rfl #[] rfl zz2 ?_;(with_reducible refine (spec_l11None.calls t207 t208 t211 _ A22.out).mono ?_);rintro e w32 ⟨v209,v212,rfl,ho0,ho1,hb⟩;refine ⟨_,rfl,?_⟩;have HO210:=aK (Kd.R_lower ho0 (below_size zz41));have HO213:=aK (Kd.R_lower ho1 (below_size zz41));replace BK196:=aK (blk_below (g:=gb196) (o:= .cells #[.bool a1_0,.slice A1_1 l1_1.length c1_1,.slice A1_2 l1_2.length c1_2] 28 (0,0)) zz37 hb);replace BK197:=aK (blk_below (g:=gb197) (o:= .cells #[.bool a2_0,.slice A2_1 l2_1.length c2_1,.slice A2_2 l2_2.length c2_2] 28 (0,0)) zz52 hb);replace BK198:=aK (blk_below (g:=gb198) (o:= .cells #[.bool false,.slice none 0 0,.slice none 0 0] 28 (0,0)) (by (with_reducible repeat (first|refine blk_drewN ?_ _|refine blk_drew ?_|refine blk_alloc ?_ _));exact BK198.out) hb);replace HB:=aK (below_step zz41 hb);(try clear hb);(try clear hb2);(try clear hk);(try clear hi);(try clear ho0);(try clear ho1);obtain ⟨hcz33_0,hcz33_1,hcz33_2,hfz33_0,hfz33_1,hfz33_2⟩:=cbf3 BK198;obtain ⟨Ao34,co34,eo34⟩:=Kd.R_slice HO210.out;subst eo34;obtain ⟨Ao35,co35,eo35⟩:=Kd.R_slice HO213.out;subst eo35))
  refine bodyPost_ret (results_cell_row rfl _ _ gb198 28 #[.bool t207,.slice Ao34 t208.length co34,.slice Ao35 t211.length co35] (0,0) _ rfl (by (with_reducible repeat (first|refine blk_drewN ?_ _|refine blk_drew ?_|refine blk_alloc ?_ _));refine blk_put (cs:= #[.bool t207,.slice Ao34 t208.length co34,.slice none 0 0]) ?_ 2 _ rfl;(with_reducible repeat (first|refine blk_drewN ?_ _|refine blk_drew ?_|refine blk_alloc ?_ _));refine blk_put (cs:= #[.bool t207,.slice none 0 0,.slice none 0 0]) ?_ 1 _ rfl;(with_reducible repeat (first|refine blk_drewN ?_ _|refine blk_drew ?_|refine blk_alloc ?_ _));refine blk_put (cs:= #[.bool false,.slice none 0 0,.slice none 0 0]) ?_ 0 _ rfl;(with_reducible repeat (first|refine blk_drewN ?_ _|refine blk_drew ?_|refine blk_alloc ?_ _));exact BK198.out) Try.underlying28 rfl (by kernel_rfl)) rfl ?_;exact ⟨_,_,by first|rfl|(simp [errW_none,errW_some]<;>rfl)|(simp [*,errW_none,errW_some]<;>rfl),by (with_reducible repeat (first|apply Kd.R_alloc|apply Kd.R_drewN|apply Kd.R_drew));exact Kd.R_mono (Kd.R_far (p:=⟨gb198,2,none⟩) (Kd.R_far (p:=⟨gb198,1,none⟩) (Kd.R_far (p:=⟨gb198,0,none⟩) (Kd.R_types HO210.out BK198.out (by decide)) (fun _ hk=>hk.2) (.bool t207)) (fun _ hk=>hk.2) (.slice Ao34 t208.length co34)) (fun _ hk=>hk.2) (.slice Ao35 t211.length co35)) (fun _ hk=>hk.1),by (with_reducible repeat (first|apply Kd.R_alloc|apply Kd.R_drewN|apply Kd.R_drew));exact Kd.R_mono (Kd.R_far (p:=⟨gb198,2,none⟩) (Kd.R_far (p:=⟨gb198,1,none⟩) (Kd.R_far (p:=⟨gb198,0,none⟩) (Kd.R_types HO213.out BK198.out (by decide)) (fun _ hk=>hk.2) (.bool t207)) (fun _ hk=>hk.2) (.slice Ao34 t208.length co34)) (fun _ hk=>hk.2) (.slice Ao35 t211.length co35)) (fun _ hk=>hk.1),by repeat (first|(with_reducible first|exact HB.out|apply below_alloc|apply pw_below_drewN|apply below_drew1|refine below_set ?_ GE196.out|refine below_set ?_ GE197.out|refine below_set ?_ GE198.out)|exact HB.out)⟩
end Go.Proofs.Ytehefmgplkolaaa.K
namespace Go.Proofs.Ytehefmgplkolaaa.Pure
open Go.RowKit Go.Proofs.Ytehefmgplkolaaa.K Go.Proofs.YtehefmgplkolaaaW.PrintWords Go.Proofs.YtehefmgplkolaaaW.PrintLast Go.Proofs.YtehefmgplkolaaaW.PrintMore
set_option linter.unusedVariables false
set_option linter.unusedSimpArgs false
theorem spec_l6In_eq (a b c:Int):spec_l6In.f a b c=some (decide (b≤a∧a≤c)):=by
 unfold spec_l6In.f;by_cases h:a≥b
 ·rw [if_pos h];simp [show b≤a from h]
 ·rw [if_neg h];simp [show¬b≤a from h]
theorem all_drop (fs:List Int) (P:Int→Bool) (i:Nat) (h:i<fs.length):(fs.drop i).all P=(P (fs.getD i 0)&&(fs.drop (i+1)).all P):=by
  rw [drop_getD fs i 0 h,List.all_cons]
theorem spec_l2Field_eq (cs:Cs) (t:Int) (hl:cs.length≤1000):spec_l2Field.f cs t=some (fldOk cs.length t):=by
 unfold spec_l2Field.f fldOk;by_cases c1:t=1
 ·rw [if_pos c1];simp [c1]
 rw [if_neg c1];by_cases c2:t=3
 ·rw [if_pos c2];simp [c2]
 rw [if_neg c2];by_cases c3:t=4
 ·rw [if_pos c3];simp [c3]
 rw [if_neg c3,wrap64_of (n:=8+(cs.length:Int)) (by omega) (by omega),wrap64_of (by omega) (by omega),spec_l6In_eq];simp only [Option.bind_some,Option.some.injEq]
 rw [Bool.eq_iff_iff];simp only [decide_eq_true_eq];omega
def clsTail (cs:Cs) (i su:Int) (fs:List Int):Bool:=
  if i=0 then decide (su= -1∧fs=[]) else if i=1 then decide (su=0∧fs=[1]) else decide ((0≤su∧su<i)∧fs.length≤2)
theorem len_nil (fs:List Int):((fs.length:Int)==0)=decide (fs=[]):=by cases fs<;>simp;omega
theorem spec_l2Class_l0 (cs:Cs) (c su:Int) (fs:List Int) (hl:cs.length≤1000) (hf:fs.length≤140737488355328) (hc:0≤c∧c<1000) (d:Nat): ∀(k i:Nat),i≤fs.length→fs.length - i=d→d<k→
  spec_l2Class.l0 k cs c i su fs=some ((fs.drop i).all (fldOk cs.length)&&clsTail cs c su fs):=by
 induction d with
 | zero =>
  intro k i hi hd hk;obtain ⟨k,rfl⟩: ∃m,k=m+1:=⟨k - 1,by omega⟩;have:i=fs.length:=by omega
  subst this;simp only [spec_l2Class.l0]
  rw [if_neg (by omega),List.drop_length];simp only [List.all_nil,Bool.true_and]
  unfold clsTail;by_cases c0:c=0
  ·rw [if_pos c0, if_pos c0]
   by_cases s0:su= -1
   ·rw [if_pos s0,len_nil];simp [s0]
   ·rw [if_neg s0];simp [s0]
  rw [if_neg c0,if_neg c0];by_cases c1:c=1
  ·rw [if_pos c1, if_pos c1]
   by_cases s0:su=0
   ·rw [if_pos s0]
    by_cases l1:(fs.length:Int)=1
    ·rw [if_pos l1, if_pos (by omega)]
     obtain ⟨x,rfl⟩:=List.length_eq_one_iff.1 (show fs.length=1 by omega);by_cases e:x=1
     ·simp [rd,s0,e]
     ·simp [rd,s0,e]
    ·rw [if_neg l1]
     have:fs≠[1]:=fun e=>l1 (by rw [e];rfl)
     simp [this]
   ·rw [if_neg s0];simp [s0]
  rw [if_neg c1,if_neg c1,wrap64_of (by omega) (by omega),spec_l6In_eq];simp only [Option.bind_some,decide_eq_true_eq]
  by_cases z:0≤su∧su≤c - 1
  ·rw [if_pos z]
   congr 1
   rw [Bool.eq_iff_iff];simp only [decide_eq_true_eq];omega
  ·rw [if_neg z]
   congr 1
   rw [Bool.eq_iff_iff];simp only [decide_eq_true_eq,Bool.false_eq_true,false_iff];omega
 | succ d ih =>
  intro k i hi hd hk;obtain ⟨k,rfl⟩: ∃m,k=m+1:=⟨k - 1,by omega⟩;simp only [spec_l2Class.l0]
  rw [if_pos (by omega),if_pos (by omega),spec_l2Field_eq cs _ hl,rd_cast,all_drop fs _ i (by omega)];simp only [Option.bind_some]
  cases hq:fldOk cs.length (fs.getD i 0) with
  |false=>simp
  |true=>
   simp only [if_true,Bool.true_and]
   rw [wrap_inc (n:=fs.length) (by omega) (by omega) (by omega),show ((i:Int)+1)=((i+1:Nat):Int) from by omega];exact ih k (i+1) (by omega) (by omega) (by omega)
def fewF (cs:Cs):Prop:= ∀i:Int,(flds cs i).length≤1048576
theorem spec_l2Class_eq {cs:Cs} (hl:cs.length≤1000) (hf:fewF cs) {i:Int} (h0:0≤i) (h1:i<cs.length) (k:Nat) (hk:1048577≤k):spec_l2Class.f k cs i=some (clsOk cs i):=by
 unfold spec_l2Class.f;rw [if_pos h0,if_pos h1];have:=hf i
 have e:=spec_l2Class_l0 cs i (sup cs i) (flds cs i) hl (by omega) ⟨h0,by omega⟩ (flds cs i).length k 0 (by omega) (by omega) (by omega)
 have e2:spec_l2Class.l0 k cs i 0 (sup cs i) (flds cs i)=some (clsOk cs i):=by
  rw [show ((0:Nat):Int)=0 from rfl] at e;rw [e,List.drop_zero];unfold clsOk clsTail;by_cases c0:i=0
  ·subst c0;rfl
  by_cases c1:i=1
  ·subst c1;rfl
  rw [if_neg c0,if_neg c1,if_neg c0,if_neg c1]
 exact e2
theorem range_all_drop (n i:Nat) (P:Nat→Bool) (h:i<n):((List.range n).drop i).all P=(P i&&((List.range n).drop (i+1)).all P):=by
  rw [List.drop_eq_getElem_cons (by simpa using h),List.all_cons];simp
theorem spec_ClassesOk_l0 {cs:Cs} (hl:cs.length≤1000) (hf:fewF cs) (d:Nat): ∀(k i:Nat),i≤cs.length→cs.length - i=d→d+1048577≤k→
  spec_ClassesOk.l0 k cs i=some (((List.range cs.length).drop i).all (fun j:Nat=>clsOk cs j)):=by
 induction d with
 |zero=>
  intro k i hi hd hk;obtain ⟨k,rfl⟩: ∃m,k=m+1:=⟨k - 1,by omega⟩;have:i=cs.length:=by omega
  subst this;simp only [spec_ClassesOk.l0]
  rw [if_neg (by omega),List.drop_of_length_le (by simp)];rfl
 | succ d ih =>
  intro k i hi hd hk;obtain ⟨k,rfl⟩: ∃m,k=m+1:=⟨k - 1,by omega⟩;simp only [spec_ClassesOk.l0]
  rw [if_pos (by omega),spec_l2Class_eq hl hf (by omega) (by omega) k (by omega),range_all_drop _ _ _ (by omega)];simp only [Option.bind_some]
  cases hq:clsOk cs i with
  |false=>simp
  |true=>
   simp only [if_true,Bool.true_and]
   rw [wrap_inc (n:=cs.length) (by omega) (by omega) (by omega),show ((i:Int)+1)=((i+1:Nat):Int) from by omega];exact ih k (i+1) (by omega) (by omega) (by omega)
theorem spec_ClassesOk_eq {cs:Cs} (hf:fewF cs) (k:Nat) (hk:2000000≤k):spec_ClassesOk.f k cs=some (csOk cs):=by
 unfold spec_ClassesOk.f csOk;rw [spec_l6In_eq];simp only [Option.bind_some,decide_eq_true_eq]
 by_cases hl:(2:Int)≤cs.length∧(cs.length:Int)≤5
 ·rw [if_pos hl, show decide (2 ≤ cs.length ∧ cs.length ≤ 5) = true from decide_eq_true (by omega)]
  have:=spec_ClassesOk_l0 (cs:=cs) (by omega) hf cs.length k 0 (by omega) (by omega) (by omega)
  rw [show ((0:Nat):Int)=0 from rfl] at this;rw [this,List.drop_zero,Bool.true_and]
 ·rw [if_neg hl,show decide (2≤cs.length∧cs.length≤5)=false from decide_eq_false (by omega),Bool.false_and]
theorem impl_fieldType_eq (cs:Cs) (t:Int) (hl:cs.length≤1000):impl_fieldType.f cs.length t=some (fldOk cs.length t):=by
 unfold impl_fieldType.f kOk fldOk;rw [if_pos (by omega)]
 congr 1
 rw [Bool.eq_iff_iff];simp only [Bool.and_eq_true,decide_eq_true_eq];omega
def clsQ (cs:Cs) (i:Int):Bool:=(decide (i≤1)||decide (0≤sup cs i∧sup cs i<i))&&(decide ((flds cs i).length≤2)&&(flds cs i).all (fldOk cs.length))
theorem impl_ClassesOk_l1 (cs:Cs) (hl:cs.length≤1000) (i:Nat) (hi:i<1000) (fs:List Int) (hf:fs.length≤2) (R:Bool) (K:Nat) (hR: ∀k,K≤k→impl_ClassesOk.l0 k cs cs cs.length ((i+1:Nat):Int)=some R) (d:Nat): ∀(k j:Nat),j≤fs.length→fs.length - j=d→K+d+1≤k→
  impl_ClassesOk.l1 k cs cs cs.length i fs fs.length j=some ((fs.drop j).all (fldOk cs.length)&&R):=by
 induction d with
 |zero=>
  intro k j hj hd hk;obtain ⟨k,rfl⟩: ∃m,k=m+1:=⟨k - 1,by omega⟩;have:j=fs.length:=by omega
  subst this;simp only [impl_ClassesOk.l1]
  rw [if_neg (by omega),List.drop_length,wrap_inc (n:=1000) (by omega) (by omega) (by omega),show ((i:Int)+1)=((i+1:Nat):Int) from by omega,hR k (by omega)];simp
 | succ d ih =>
  intro k j hj hd hk;obtain ⟨k,rfl⟩: ∃m,k=m+1:=⟨k - 1,by omega⟩;simp only [impl_ClassesOk.l1]
  rw [if_pos (by omega),if_pos (by omega),if_pos (by omega),rd_cast,impl_fieldType_eq cs _ hl,all_drop fs _ j (by omega)];simp only [Option.bind_some]
  cases hq:fldOk cs.length (fs.getD j 0) with
  |false=>simp
  |true=>
   simp only [if_true,Bool.true_and]
   rw [wrap_inc (n:=fs.length) (by omega) (by omega) (by omega),show ((j:Int)+1)=((j+1:Nat):Int) from by omega];exact ih k (j+1) (by omega) (by omega) (by omega)
theorem impl_ClassesOk_l0 (cs:Cs) (hl:cs.length≤5) (d:Nat): ∀(i:Nat),i≤cs.length→cs.length - i=d→∀k,10*d+10≤k→
  impl_ClassesOk.l0 k cs cs cs.length i=some (((List.range cs.length).drop i).all (fun j:Nat=>clsQ cs j)):=by
 induction d with
 |zero=>
  intro i hi hd k hk;obtain ⟨k,rfl⟩: ∃m,k=m+1:=⟨k - 1,by omega⟩;have:i=cs.length:=by omega
  subst this;simp only [impl_ClassesOk.l0]
  rw [if_neg (by omega),List.drop_of_length_le (by simp)];rfl
 | succ d ih =>
  intro i hi hd k hk;obtain ⟨k,rfl⟩: ∃m,k=m+1:=⟨k - 1,by omega⟩;obtain ⟨k,rfl⟩: ∃m,k=m+1:=⟨k - 1,by omega⟩;rw [range_all_drop _ _ _ (by omega)]
  have hj:impl_ClassesOk.j4 (k+1) cs cs cs.length i false (sup cs i) (flds cs i)=some (decide ((flds cs i).length≤2)&&((flds cs i).all (fldOk cs.length)&&((List.range cs.length).drop (i+1)).all (fun j:Nat=>clsQ cs j))):=by
   simp only [impl_ClassesOk.j4]
   rw [if_neg (by simp)];by_cases h2:((flds cs i).length:Int)>2
   ·rw [if_pos h2,decide_eq_false (by omega)];rfl
   ·rw [if_neg h2, decide_eq_true (show (flds cs i).length ≤ 2 by omega), Bool.true_and]
    have:=impl_ClassesOk_l1 cs (by omega) i (by omega) (flds cs i) (by omega) _ (10*d+10) (fun k hk=>ih (i+1) (by omega) (by omega) k hk) (flds cs i).length k 0 (by omega) (by omega) (by omega)
    rw [show ((0:Nat):Int)=0 from rfl,List.drop_zero] at this;exact this
  have hjt:impl_ClassesOk.j4 (k+1) cs cs cs.length i true (sup cs i) (flds cs i)=some false:=by simp [impl_ClassesOk.j4]
  simp only [impl_ClassesOk.l0]
  rw [if_pos (by omega),if_pos (by omega),if_pos (by omega)];rw [show (rd_T48 cs (i:Int)).f0=sup cs i from rfl,show (rd_T48 cs (i:Int)).f1=flds cs i from rfl];have hQ:clsQ cs i=((decide ((i:Int)≤1)||decide (0≤sup cs i∧sup cs i<i))&&(decide ((flds cs i).length≤2)&&(flds cs i).all (fldOk cs.length))):=rfl
  rw [hQ];generalize ((List.range cs.length).drop (i+1)).all (fun j:Nat=>clsQ cs j)=T at*;by_cases h1:(i:Int)>1
  ·rw [if_pos h1]
   by_cases hs:sup cs i<0
   ·rw [if_pos hs,hjt,decide_eq_false (show¬(i:Int)≤1 by omega),decide_eq_false (show¬(0≤sup cs i∧sup cs i<i) by omega)];rfl
   ·rw [if_neg hs]
    by_cases hs2:sup cs i≥i
    ·rw [decide_eq_true hs2,hjt,decide_eq_false (show¬(i:Int)≤1 by omega),decide_eq_false (show¬(0≤sup cs i∧sup cs i<i) by omega)];rfl
    ·rw [decide_eq_false hs2, hj, decide_eq_true (show (0 ≤ sup cs i ∧ sup cs i < i) by omega)]
     simp [Bool.and_assoc]
  ·rw [if_neg h1, hj, decide_eq_true (show (i : Int) ≤ 1 by omega)]
   simp [Bool.and_assoc]
theorem impl_ClassesOk_eq (cs:Cs) (k:Nat) (hk:1000≤k):impl_ClassesOk.f k cs=some (csOk cs):=by
 obtain ⟨k,rfl⟩: ∃m,k=m+1:=⟨k - 1,by omega⟩;obtain ⟨k,rfl⟩: ∃m,k=m+1:=⟨k - 1,by omega⟩;obtain ⟨k,rfl⟩: ∃m,k=m+1:=⟨k - 1,by omega⟩;unfold impl_ClassesOk.f;by_cases h2:(cs.length:Int)<2
 ·rw [if_pos h2]
  simp only [impl_ClassesOk.j0,if_true]
  unfold csOk;rw [decide_eq_false (by omega),Bool.false_and]
 rw [if_neg h2];by_cases h5:(cs.length:Int)>5
 ·rw [decide_eq_true h5]
  simp only [impl_ClassesOk.j0,if_true]
  unfold csOk;rw [decide_eq_false (by omega),Bool.false_and]
 rw [decide_eq_false h5]
 have no: ∀i:Int,0≤i→i<cs.length→clsOk cs i=false→csOk cs=false:=by
  intro i h0 h1 hc
  cases hq:csOk cs with
  |false=>rfl
  |true=>rw [csOk_at hq h0 h1] at hc;cases hc
 simp only [impl_ClassesOk.j0,Bool.false_eq_true,if_false]
 rw [if_pos (by omega)];rw [show (rd_T48 cs 0).f0=sup cs 0 from rfl,show (rd_T48 cs 0).f1=flds cs 0 from rfl];by_cases r0:sup cs 0= -1
 case neg=>
  rw [if_neg r0];simp only [impl_ClassesOk.j1,if_true]
  rw [no 0 (by omega) (by omega) (by unfold clsOk;simp [r0])]
 rw [if_pos r0];by_cases f0:flds cs 0=[]
 case neg=>
  have:(((flds cs 0).length:Int) !=0)=true:=by
   cases hq:flds cs 0 with
   |nil=>exact absurd hq f0
   |cons x t=>simp;omega
  rw [this];simp only [impl_ClassesOk.j1,if_true]
  rw [no 0 (by omega) (by omega) (by unfold clsOk;simp [f0])]
 rw [show (((flds cs 0).length:Int) !=0)=false by rw [f0];rfl];simp only [impl_ClassesOk.j1,Bool.false_eq_true,if_false]
 rw [if_pos (by omega)];rw [show (rd_T48 cs 1).f0=sup cs 1 from rfl,show (rd_T48 cs 1).f1=flds cs 1 from rfl];have n1: ¬(sup cs 1=0∧flds cs 1=[1])→csOk cs=false:=fun z=>no 1 (by omega) (by omega) (by unfold clsOk;rw [if_neg (by omega),if_pos rfl,decide_eq_false z,Bool.and_false])
 by_cases r1:sup cs 1=0
 case neg=>
  rw [if_neg r1];simp only [impl_ClassesOk.j2,if_true]
  rw [n1 (fun z=>r1 z.1)]
 rw [if_pos r1];by_cases l1:((flds cs 1).length:Int)=1
 case neg=>
  rw [if_neg l1];simp only [impl_ClassesOk.j2,if_true]
  rw [n1 (fun z=>l1 (by rw [z.2];rfl))]
 rw [if_pos l1,if_pos (by omega)];obtain ⟨x,hx⟩:=List.length_eq_one_iff.1 (show (flds cs 1).length=1 by omega);by_cases e1:x=1
 case neg=>
  rw [show (rd (flds cs 1) 0 !=1)=true by rw [hx];simp [rd,e1]];simp only [impl_ClassesOk.j2,if_true]
  rw [n1 (fun z=>e1 (by rw [hx] at z;simpa using z.2))]
 rw [show (rd (flds cs 1) 0 !=1)=false by rw [hx];simp [rd,e1]];simp only [impl_ClassesOk.j2,Bool.false_eq_true,if_false]
 have:=impl_ClassesOk_l0 cs (by omega) cs.length 0 (by omega) (by omega) k (by omega)
 rw [show ((0:Nat):Int)=0 from rfl,List.drop_zero] at this;rw [this]
 congr 1
 unfold csOk;rw [decide_eq_true (show 2≤cs.length∧cs.length≤5 by omega),Bool.true_and,Bool.eq_iff_iff];simp only [List.all_eq_true,List.mem_range]
 refine forall_congr' fun i=>forall_congr' fun hi=>?_
 unfold clsQ clsOk;simp only [Bool.and_eq_true,Bool.or_eq_true,decide_eq_true_eq]
 by_cases i0:(i:Int)=0
 ·rw [i0,if_pos rfl,decide_eq_true_eq,r0,f0];simp
 by_cases i1:(i:Int)=1
 ·rw [i1,if_neg (by omega),if_pos rfl,decide_eq_true_eq,r1,hx,e1];simp
 rw [if_neg i0,if_neg i1,decide_eq_true_eq]
 constructor
 ·rintro ⟨h1 | h1, h3, h4⟩
  ·omega
  ·exact ⟨h4,h1,h3⟩
 ·rintro ⟨h4, h1, h3⟩
  exact ⟨Or.inr h1,h3,h4⟩
theorem leInts_l0 (xs:List Int) (hl:xs.length≤1048576) (d:Nat): ∀(k i:Nat),i+d=xs.length→d<k→laws_leInts.l0 k xs xs i=some true:=by
 induction d with
 |zero=>
  intro k i hi hk;obtain ⟨k,rfl⟩: ∃m,k=m+1:=⟨k - 1,by omega⟩;rw [laws_leInts.l0,if_neg (by omega)]
 |succ d ih=>
  intro k i hi hk;obtain ⟨k,rfl⟩: ∃m,k=m+1:=⟨k - 1,by omega⟩;rw [laws_leInts.l0,if_pos (by omega),if_pos (by omega),if_pos (by omega),if_pos rfl,wrap_inc (n:=1048577) (by omega) (by omega) (by omega)];have:=ih k (i+1) (by omega) (by omega)
  rw [show ((i+1:Nat):Int)=(i:Int)+1 by omega] at this;exact this
theorem leInts_self (xs:List Int) (hl:xs.length≤1048576) (k:Nat) (hk:1048578≤k):laws_leInts.f k xs xs=some true:=by
 unfold laws_leInts.f;rw [if_pos rfl];exact leInts_l0 xs hl xs.length k 0 (by omega) (by omega)
theorem rd_mem {xs:List Int} {i:Nat} (h:i<xs.length):rd xs (i:Int)=xs[i]:=by
  rw [rd_cast,List.getD_eq_getElem?_getD,List.getElem?_eq_getElem h];rfl
theorem impl_classUp_eq {cs:Cs} (h:csOk cs=true) (b:Int): ∀a:Int,0≤a→a<cs.length→∀k:Nat,a.toNat+2≤k→impl_classUp.f k cs a b=some (up cs a b):=by
 have hl:=csOk_len h;refine cls_ind h ?_ ?_
 ·intro k hk
  obtain ⟨k,rfl⟩: ∃m,k=m+1:=⟨k - 1,by omega⟩;obtain ⟨k,rfl⟩: ∃m,k=m+1:=⟨k - 1,by omega⟩;simp only [impl_classUp.f,impl_classUp.l0]
  rw [if_pos (by omega),up_step h b (by omega) (by omega)];by_cases hb:(0:Int)=b
  ·rw [if_pos hb];simp [hb]
  ·rw [if_neg hb, if_pos (by omega), if_pos (by omega), show (rd_T48 cs 0).f0 = -1 from (csOk_root h).1, if_neg (by omega)]
   simp [hb]
 ·intro a hp h1 ih k hk
  obtain ⟨k,rfl⟩: ∃m,k=m+1:=⟨k - 1,by omega⟩;have hs:=csOk_sup h hp h1;simp only [impl_classUp.f,impl_classUp.l0]
  rw [if_pos (by omega),up_step h b (by omega) h1];by_cases hb:a=b
  ·rw [if_pos hb];simp [hb]
  ·rw [if_neg hb, if_pos (by omega), if_pos (by omega)]
   have:=ih k (by omega)
   simp only [impl_classUp.f] at this;rw [show (rd_T48 cs a).f0=sup cs a from rfl,this];simp [hb,hp]
theorem spec_l2Up_eq {cs : Cs} (h : csOk cs = true) {b : Int} (hb : 0 ≤ b) : ∀ a : Int, 0 ≤ a → a < cs.length → ∀ k : Nat, a.toNat + 1 ≤ k → spec_l2Up.f k cs a b = some (up cs a b) := by
  have hl:=csOk_len h;refine cls_ind h ?_ ?_
  · intro k hk
    obtain ⟨k,rfl⟩: ∃m,k=m+1:=⟨k - 1,by omega⟩;simp only [spec_l2Up.f,spec_l2Up.l0]
    rw [if_neg (by omega),up_step h b (by omega) (by omega)];by_cases e:(0:Int)=b
    · simp [e]
    · simp [e]
  · intro a hp h1 ih k hk
    obtain ⟨k,rfl⟩: ∃m,k=m+1:=⟨k - 1,by omega⟩;have hs:=csOk_sup h hp h1;simp only [spec_l2Up.f,spec_l2Up.l0]
    rw [up_step h b (by omega) h1];by_cases hab:a>b
    · rw [if_pos hab, if_pos (by omega), if_pos (by omega)]
      have:=ih k (by omega)
      simp only [spec_l2Up.f] at this;rw [show (rd_T48 cs a).f0=sup cs a from rfl,this];simp [hp,show¬a=b from by omega]
    · rw [if_neg hab]
      by_cases e:a=b
      · simp [e]
      · have hno : up cs (sup cs a) b = false := by
          cases hq:up cs (sup cs a) b with
          |false=>rfl
          |true=>have:=up_le h _ hs.1 (by omega) hq;omega
        rw [hno];simp [e]
def tOk (cs:Cs) (t:Int):Prop:=(0≤t∧t≤4)∨(8≤t∧t<8+(cs.length:Int))
instance (cs:Cs) (t:Int):Decidable (tOk cs t):=inferInstanceAs (Decidable (_∨_))
def tIn (cs:Cs) (a b:Int):Bool:=
  if a=b∨b=0 then true else if a=2 then decide (2≤b) else if a<2∨b<8 then false else if a<8 then decide (b=8) else up cs (a - 8) (b - 8)
theorem kOk_eq (cs:Cs) (t:Int):kOk cs.length t=decide (tOk cs t):=rfl
theorem tIn_cls {cs:Cs} {a b:Int} (ha:8≤a) (hb:8≤b):tIn cs a b=up cs (a - 8) (b - 8):=by
 unfold tIn;by_cases e:a=b
 ·rw [if_pos (Or.inl e),e,up_refl]
 ·rw [if_neg (by omega),if_neg (by omega),if_neg (by omega),if_neg (by omega)]
theorem kndIn_eq {cs:Cs} (h:csOk cs=true) {a b:Int} (ha:tOk cs a) (hb:tOk cs b):kndIn cs a b=some (tIn cs a b):=by
 have hl:=csOk_len h;unfold tOk at ha hb;unfold kndIn tIn;by_cases c1:a=b∨b=0
 ·rw [if_pos c1,if_pos c1]
 ·rw [if_neg c1, if_neg c1]
  by_cases c2:a=2
  ·rw [if_pos c2, if_pos c2]
   have:(!decide (b=1))=decide (2≤b):=by
    rw [Bool.eq_iff_iff];simp;omega
   rw [this]
  ·rw [if_neg c2, if_neg c2]
   by_cases c3:a=3∨a=4
   ·rw [if_pos c3]
    by_cases c4:b<8
    ·rw [if_pos (Or.inr c4),decide_eq_false (by omega)]
    ·rw [if_neg (by omega),if_pos (by omega)]
   ·rw [if_neg c3]
    by_cases c4:8≤a
    ·rw [if_pos c4]
     by_cases c5:8≤b
     ·rw [if_pos c5,if_neg (by omega),if_neg (by omega),impl_classUp_eq h (b - 8) (a - 8) (by omega) (by omega) 100 (by omega)]
     ·rw [if_neg c5,if_pos (by omega)]
    ·rw [if_neg c4,if_pos (by omega)]
theorem spec_l2In_eq {cs:Cs} (h:csOk cs=true) {a b:Int} (ha:tOk cs a) (hb:tOk cs b) (k:Nat) (hk:20≤k):spec_l2In.f k cs a b=some (tIn cs a b):=by
 have hl:=csOk_len h;obtain ⟨k,rfl⟩: ∃m,k=m+1:=⟨k - 1,by omega⟩;obtain ⟨k,rfl⟩: ∃m,k=m+1:=⟨k - 1,by omega⟩;unfold tOk at ha hb;unfold spec_l2In.f tIn;by_cases c0:a=b
 ·rw [if_pos c0,if_pos (Or.inl c0)];simp [spec_l2In.j0]
 rw [if_neg c0];by_cases c1:b=0
 ·rw [if_pos (Or.inr c1)];simp [spec_l2In.j0,c1]
 rw [if_neg (by omega)];simp only [spec_l2In.j0,spec_l2Ref.f,Option.bind_some]
 rw [if_neg (by simp [c1])];by_cases c2:a=2
 ·rw [if_pos c2,if_pos c2]
 rw [if_neg c2,if_neg c2];by_cases c3:a<2
 ·rw [if_neg (by simp;omega),if_pos (Or.inl c3)];simp [spec_l2In.j1]
 rw [if_pos (by simp;omega)];by_cases c4:b<8
 ·rw [if_pos (Or.inr c4)];simp [spec_l2In.j1,c4]
 rw [if_neg (by omega)];simp only [spec_l2In.j1]
 rw [if_neg (by simp;omega)];by_cases c5:a<8
 ·rw [if_pos c5, if_pos c5]
  by_cases e:b=8<;>simp [e]
 ·rw [if_neg c5, if_neg c5, wrap64_of (by omega) (by omega), wrap64_of (by omega) (by omega), spec_l2Up_eq h (b := b - 8) (by omega) (a - 8) (by omega) (by omega) k (by omega)]
  rfl
theorem tIn_anti {cs : Cs} (h : csOk cs = true) {a b : Int} (ha : tOk cs a) (hb : tOk cs b) (h1 : tIn cs a b = true) (h2 : tIn cs b a = true) : a = b := by
 unfold tOk at ha hb;by_cases e:8≤a∧8≤b
 ·rw [tIn_cls e.1 e.2] at h1
  rw [tIn_cls e.2 e.1] at h2;have:=up_anti h (a:=a - 8) (b:=b - 8) (by omega) (by omega) (by omega) (by omega) h1 h2
  omega
 ·unfold tIn at h1 h2
  split at h1
  ·split at h2
   ·omega
   ·split at h2
    ·simp at h2;omega
    ·split at h2
     ·simp at h2
     ·omega
  ·split at h1
   ·simp only [decide_eq_true_eq] at h1
    split at h2
    ·omega
    ·split at h2
     ·omega
     ·split at h2
      ·simp at h2
      ·omega
   ·split at h1
    ·simp at h1
    ·split at h1
     ·simp only [decide_eq_true_eq] at h1
      split at h2
      ·omega
      ·split at h2
       ·omega
       ·split at h2
        ·simp at h2
        ·omega
     ·omega
theorem tIn_refl (cs:Cs) (a:Int):tIn cs a a=true:=by simp [tIn]
theorem tIn_none (cs:Cs) (a:Int):tIn cs a 0=true:=by simp [tIn]
theorem l2Join_spec {cs:Cs} (h:csOk cs=true) {b:Int} (hb:0≤b) (hb1:b<cs.length): ∀a:Int,0≤a→a<cs.length→∃j,(∀k:Nat,a.toNat+10≤k→spec_l2Join.f k cs a b=some j)∧0≤j∧j<cs.length∧up cs a j=true∧up cs b j=true∧∀c,up cs a c=true→up cs b c=true→up cs j c=true:=by
 have hl:=csOk_len h
 have key: ∀a:Int,0≤a→a<cs.length→up cs b a=true→∃j,(∀k:Nat,a.toNat+10≤k→spec_l2Join.f k cs a b=some j)∧0≤j∧j<cs.length∧up cs a j=true∧up cs b j=true∧∀c,up cs a c=true→up cs b c=true→up cs j c=true:=by
  intro a h0 h1 hu;refine ⟨a,fun k hk=>?_,h0,h1,up_refl cs a,hu,fun c hc _=>hc⟩;obtain ⟨k,rfl⟩: ∃m,k=m+1:=⟨k - 1,by omega⟩;simp only [spec_l2Join.f,spec_l2Join.l0]
  rw [spec_l2Up_eq h h0 b hb hb1 k (by omega),hu];rfl
 refine cls_ind h (key 0 (by omega) (by omega) (up_root h b hb hb1)) ?_;intro a hp h1 ih
 cases hu:up cs b a with
 |true=>exact key a (by omega) h1 hu
 | false =>
  have hs:=csOk_sup h hp h1;obtain ⟨j,hk,j0,j1,ja,jb,jm⟩:=ih;refine ⟨j,fun k hk2=>?_,j0,j1,?_,jb,fun c hc hcb=>?_⟩
  ·obtain ⟨k, rfl⟩ : ∃ m, k = m + 1 := ⟨k - 1, by omega⟩
   have:=hk k (by omega)
   simp only [spec_l2Join.f] at this;simp only [spec_l2Join.f,spec_l2Join.l0]
   rw [spec_l2Up_eq h (by omega) b hb hb1 k (by omega),hu];simp only [Option.bind_some,Bool.false_eq_true,if_false]
   rw [if_pos (by omega),if_pos (by omega)];exact this
  ·rw [up_step h j (by omega) h1,ja];simp [hp]
  ·rw [up_step h c (by omega) h1] at hc
   simp only [Bool.or_eq_true,decide_eq_true_eq,Bool.and_eq_true] at hc;rcases hc with hc|hc
   ·subst hc;rw [hu] at hcb;cases hcb
   ·exact jm c hc.2 hcb
theorem l2Meets_spec {cs : Cs} (h : csOk cs = true) {a b : Int} (ha : tOk cs a) (hb : tOk cs b) : ∃ m, (∀ k : Nat, 40 ≤ k → spec_l2Meets.f k cs a b = some m) ∧ tOk cs m ∧ tIn cs a m = true ∧ tIn cs b m = true ∧ ∀ c, tOk cs c → tIn cs a c = true → tIn cs b c = true → tIn cs m c = true := by
  have hl:=csOk_len h;by_cases c1:tIn cs a b=true
  · refine ⟨b, fun k hk => ?_, hb, c1, tIn_refl cs b, fun c _ _ hc => hc⟩
    unfold spec_l2Meets.f;rw [spec_l2In_eq h ha hb k (by omega),c1];rfl
  by_cases c2:tIn cs b a=true
  · refine ⟨a, fun k hk => ?_, ha, tIn_refl cs a, c2, fun c _ hc _ => hc⟩
    unfold spec_l2Meets.f;rw [spec_l2In_eq h ha hb k (by omega),Bool.not_eq_true _ |>.mp c1,spec_l2In_eq h hb ha k (by omega),c2];rfl
  have c1:=Bool.not_eq_true _ |>.mp c1
  have c2:=Bool.not_eq_true _ |>.mp c2
  have ha':=ha;have hb':=hb;unfold tOk at ha hb;by_cases c3:a<2∨b<2
  · refine ⟨0, fun k hk => ?_, by unfold tOk; omega, tIn_none cs a, tIn_none cs b, fun c hc h1 h2 => ?_⟩
    · obtain ⟨k, rfl⟩ : ∃ m, k = m + 1 := ⟨k - 1, by omega⟩
      unfold spec_l2Meets.f;rw [spec_l2In_eq h ha' hb' (k+1) (by omega),c1,spec_l2In_eq h hb' ha' (k+1) (by omega),c2];simp only [spec_l2Ref.f,Option.bind_some,Bool.false_eq_true,if_false]
      by_cases c4:a<2
      · rw [if_neg (by simp;omega)];simp [spec_l2Meets.j0]
      · rw [if_pos (by simp; omega)]
        have:decide (b≥2)=false:=decide_eq_false (by omega)
        rw [this];simp [spec_l2Meets.j0]
    · have : c = 0 := by
        unfold tOk at hc;unfold tIn at c1 c2 h1 h2
        split at c1<;>try (simp at c1;done)
        split at c2<;>try (simp at c2;done)
        split at h1
        · split at h2
          · omega
          · split at h2
            · simp only [decide_eq_true_eq] at h2
              rename_i z1 z2 z3 z4 z5
              by_cases q:c=0
              · exact q
              · exfalso
                have:a=c:=by omega
                subst this;rw [if_pos z5] at c2;simp at c2;omega
            · split at h2
              · simp at h2
              · omega
        · split at h1
          · simp only [decide_eq_true_eq] at h1
            rename_i z1 z2 z3 z4
            split at h2
            · rename_i z5
              by_cases q:b=c
              · subst q
                rw [if_pos z4] at c1;simp at c1;omega
              · omega
            · split at h2
              · omega
              · split at h2
                · simp at h2
                · omega
          · split at h1
            · simp at h1
            · split at h2
              · omega
              · split at h2
                · omega
                · split at h2
                  · simp at h2
                  · omega
      subst this;exact tIn_none cs 0
  have a2:a≠2:=fun e=>by
    subst e;unfold tIn at c1
    split at c1
    · simp at c1
    · simp at c1;omega
  have b2:b≠2:=fun e=>by
    subst e;unfold tIn at c2
    split at c2
    · simp at c2
    · simp at c2;omega
  have low: ∀{x c:Int},3≤x→x<8→tIn cs x c=true→c=x∨c=0∨c=8:=by
    intro x c h1 h2 hc;unfold tIn at hc
    split at hc
    · omega
    · rw [if_neg (by omega)] at hc
      split at hc
      · simp at hc
      · try simp only [if_pos h2, decide_eq_true_eq] at hc
        omega
  by_cases c4:a<8∨b<8
  · have in8 : ∀ {x : Int}, 3 ≤ x → x < 8 + (cs.length : Int) → tIn cs x 8 = true := by
      intro x h1 h2;by_cases q:8≤x
      · rw [tIn_cls q (by omega)];exact up_root h _ (by omega) (by omega)
      · unfold tIn
        rw [if_neg (by omega),if_neg (by omega),if_neg (by omega),if_pos (by omega)];rfl
    refine ⟨8,fun k hk=>?_,by unfold tOk;omega,in8 (by omega) (by omega),in8 (by omega) (by omega),fun c hc h1 h2=>?_⟩
    · obtain ⟨k, rfl⟩ : ∃ m, k = m + 1 := ⟨k - 1, by omega⟩
      unfold spec_l2Meets.f;rw [spec_l2In_eq h ha' hb' (k+1) (by omega),c1,spec_l2In_eq h hb' ha' (k+1) (by omega),c2];simp only [spec_l2Ref.f,Option.bind_some,Bool.false_eq_true,if_false]
      rw [if_pos (by simp;omega),show decide (b≥2)=true from decide_eq_true (by omega)];simp only [spec_l2Meets.j0,Bool.not_true,Bool.false_eq_true,if_false]
      by_cases q:a<8
      · rw [if_pos q]
      · rw [if_neg q,if_pos (by omega)]
    · rcases c4 with q | q
      · rcases low (by omega) q h1 with e | e | e
        · subst e;rw [h2] at c2;cases c2
        · subst e;exact tIn_none cs 8
        · subst e;exact tIn_refl cs 8
      · rcases low (by omega) q h2 with e | e | e
        · subst e;rw [h1] at c1;cases c1
        · subst e;exact tIn_none cs 8
        · subst e;exact tIn_refl cs 8
  obtain ⟨j,hj,j0,j1,ja,jb,jm⟩:=l2Join_spec h (b:=b - 8) (by omega) (by omega) (a - 8) (by omega) (by omega);refine ⟨8+j,fun k hk=>?_,by unfold tOk;omega,?_,?_,fun c hc h1 h2=>?_⟩
  · obtain ⟨k, rfl⟩ : ∃ m, k = m + 1 := ⟨k - 1, by omega⟩
    unfold spec_l2Meets.f;rw [spec_l2In_eq h ha' hb' (k+1) (by omega),c1,spec_l2In_eq h hb' ha' (k+1) (by omega),c2];simp only [spec_l2Ref.f,Option.bind_some,Bool.false_eq_true,if_false]
    rw [if_pos (by simp;omega),show decide (b≥2)=true from decide_eq_true (by omega)];simp only [spec_l2Meets.j0,Bool.not_true,Bool.false_eq_true,if_false]
    rw [if_neg (by omega),if_neg (by omega),wrap64_of (by omega) (by omega),wrap64_of (by omega) (by omega),hj k (by omega)];simp only [Option.bind_some]
    rw [wrap64_of (by omega) (by omega)]
  · rw [tIn_cls (by omega) (by omega),show 8+j - 8=j from by omega];exact ja
  · rw [tIn_cls (by omega) (by omega),show 8+j - 8=j from by omega];exact jb
  · by_cases q : 8 ≤ c
    · rw [tIn_cls (by omega) q] at h1 h2
      rw [tIn_cls (by omega) q,show 8+j - 8=j from by omega];exact jm _ h1 h2
    · have : c = 0 := by
        unfold tIn at h1;by_cases z:a=c∨c=0
        · omega
        · rw [if_neg z,if_neg (by omega),if_pos (by omega)] at h1;cases h1
      subst this;exact tIn_none cs _
theorem nearIn_eq {cn:Int→Option Bool} {un:Int→Int→Option Bool} {c:Int→Bool} {u:Int→Int→Bool} {one:Int}: ∀{l:List Int},(∀t∈l,cn t=some (c t)∧un one t=some (u one t))→nearIn cn un one l=some (l.all (fun t=>!(c t)||u one t))
 |[],_=>rfl
 | o :: os, h => by
  obtain ⟨h1,h2⟩:=h o List.mem_cons_self;have ih:=nearIn_eq (l:=os) (fun t ht=>h t (List.mem_cons_of_mem _ ht));simp only [nearIn,h1,Option.bind_some]
  cases hc:c o with
  |false=>simp [hc,ih]
  |true=>
   simp only [if_true,h2,Option.bind_some]
   cases hu:u one o with
   |false=>simp [hc,hu]
   |true=>simp [hc,hu,ih]
theorem nearOut_eq {cn:Int→Option Bool} {un:Int→Int→Option Bool} {c:Int→Bool} {u:Int→Int→Bool} {all:List Int}: ∀{l:List Int},(∀t∈l,cn t=some (c t)∧∀s∈all,cn s=some (c s)∧un t s=some (u t s))→nearOut cn un all l=some (l.find? (fun t=>c t&&all.all (fun s=>!(c s)||u t s)))
 |[],_=>rfl
 | o :: os, h => by
  obtain ⟨h1,h2⟩:=h o List.mem_cons_self;have ih:=nearOut_eq (l:=os) (fun t ht=>h t (List.mem_cons_of_mem _ ht));simp only [nearOut,h1,Option.bind_some]
  cases hc:c o with
  |false=>simp [hc,ih]
  |true=>
   simp only [if_true,nearIn_eq h2,Option.bind_some]
   cases hu:all.all (fun s=>!(c s)||u o s) with
   |false=>rw [List.find?_cons_of_neg (by simp [hc,hu])];simp [ih]
   |true=>rw [List.find?_cons_of_pos (by simp [hc,hu])];simp
theorem typeJoin_eq {cs:Cs} (h:csOk cs=true) (a b:Int): ∃m,impl_typeJoin.f cs a b=some m∧(tOk cs a→tOk cs b→∀k:Nat,40≤k→spec_l2Meets.f k cs a b=some m)∧(¬(tOk cs a∧tOk cs b)→m=0):=by
 have hl:=csOk_len h;unfold impl_typeJoin.f;rw [if_pos (by omega)];by_cases ho:tOk cs a∧tOk cs b
 ·obtain ⟨ha, hb⟩ := ho
  rw [if_pos ⟨by rw [kOk_eq];exact decide_eq_true ha,by rw [kOk_eq];exact decide_eq_true hb⟩];obtain ⟨m,hm,mo,ma,mb,ml⟩:=l2Meets_spec h ha hb
  have hall: ∀t,t∈allK cs.length↔tOk cs t:=by
   intro t;unfold allK tOk;simp only [List.mem_append,List.mem_cons,List.mem_map,List.mem_range,List.not_mem_nil,or_false]
   constructor
   ·rintro (q|⟨i,hi,rfl⟩)<;>omega
   ·rintro (q | q)
    ·left;omega
    ·right;exact ⟨(t - 8).toNat,by omega,by omega⟩
  have hcn: ∀t,tOk cs t→cnF cs a b t=some (tIn cs a t&&tIn cs b t):=by
   intro t ht;unfold cnF;rw [kndIn_eq h ha ht,kndIn_eq h hb ht];simp only [Option.bind_some]
   cases tIn cs a t<;>simp
  rw [nearOut_eq (c:=fun t=>tIn cs a t&&tIn cs b t) (u:=tIn cs) (fun t ht=>⟨hcn t ((hall t).1 ht),fun s hs=>⟨hcn s ((hall s).1 hs),kndIn_eq h ((hall t).1 ht) ((hall s).1 hs)⟩⟩)];refine ⟨m,?_,fun _ _=>hm,fun z=>absurd ⟨ha,hb⟩ z⟩
  have hf:(allK cs.length).find? (fun t=>(tIn cs a t&&tIn cs b t)&&(allK cs.length).all (fun s=>!(tIn cs a s&&tIn cs b s)||tIn cs t s))=some m:=by
   cases hq:(allK cs.length).find? (fun t=>(tIn cs a t&&tIn cs b t)&&(allK cs.length).all (fun s=>!(tIn cs a s&&tIn cs b s)||tIn cs t s)) with
   |none=>
    have:=List.find?_eq_none.1 hq m ((hall m).2 mo)
    refine absurd ?_ this;simp only [ma,mb,Bool.and_self,Bool.true_and,List.all_eq_true]
    intro s hs
    cases h1:tIn cs a s<;>cases h2:tIn cs b s<;>simp
    exact ml s ((hall s).1 hs) h1 h2
   |some x=>
    have hx:=List.find?_some hq;have hxm:=List.mem_of_find?_eq_some hq;simp only [Bool.and_eq_true,List.all_eq_true] at hx;obtain ⟨⟨xa,xb⟩,xl⟩:=hx;have hxo:=(hall x).1 hxm;have h1:=xl m ((hall m).2 mo);rw [ma,mb] at h1;simp at h1
    rw [tIn_anti h hxo mo h1 (ml x hxo xa xb)]
  rw [hf];rfl
 ·rw [if_neg (by rw [kOk_eq, kOk_eq, decide_eq_true_eq, decide_eq_true_eq]; exact ho)]
  exact ⟨0,rfl,fun ha hb=>absurd ⟨ha,hb⟩ ho,fun _=>rfl⟩
theorem spec_TypeOk_eq {cs:Cs} (hf:fewF cs) (t:Int) (k:Nat) (hk:2000000≤k):spec_TypeOk.f k cs t=some (csOk cs&&decide (tOk cs t)):=by
 unfold spec_TypeOk.f;rw [spec_ClassesOk_eq hf k hk];simp only [Option.bind_some]
 cases hc:csOk cs with
 |false=>simp
 | true =>
  have hl:=csOk_len hc;simp only [if_true,Bool.true_and]
  by_cases c0:t=0
  ·rw [if_pos c0,decide_eq_true (by unfold tOk;omega)]
  rw [if_neg c0];by_cases c2:t=2
  ·rw [if_pos c2,decide_eq_true (by unfold tOk;omega)]
  rw [if_neg c2,spec_l2Field_eq cs t (by omega)];simp only [Option.bind_some,Option.some.injEq]
  unfold fldOk;by_cases z:tOk cs t
  ·rw [decide_eq_true z]
   have z':(0≤t∧t≤4)∨(8≤t∧t<8+(cs.length:Int)):=z
   have y:t=1∨t=3∨t=4∨(8≤t∧t<8+(cs.length:Int)):=by omega
   exact decide_eq_true y
  ·rw [decide_eq_false z]
   have z': ¬((0≤t∧t≤4)∨(8≤t∧t<8+(cs.length:Int))):=z
   have y: ¬(t=1∨t=3∨t=4∨(8≤t∧t<8+(cs.length:Int))):=by omega
   exact decide_eq_false y
def jn (cs:Cs) (a b:Int):Int:=(impl_typeJoin.f cs a b).getD 0
theorem jn_eq {cs:Cs} (h:csOk cs=true) (a b:Int):impl_typeJoin.f cs a b=some (jn cs a b)∧(tOk cs a→tOk cs b→∀k:Nat,40≤k→spec_l2Meets.f k cs a b=some (jn cs a b))∧(¬(tOk cs a∧tOk cs b)→jn cs a b=0):=by
 obtain ⟨m,h1,h2,h3⟩:=typeJoin_eq h a b;have e:jn cs a b=m:=by unfold jn;rw [h1];rfl
 rw [e];exact ⟨h1,h2,h3⟩
def okL (cs:Cs) (L:List Int):Bool:=L.all fun t=>decide (tOk cs t)
def okS (cs:Cs) (S:List Int):Bool:=S.all fun t=>decide (tOk cs t)&&decide (t≠0)
theorem okL_drop {cs:Cs} {L:List Int} {i:Nat} (h:i<L.length):okL cs (L.drop i)=(decide (tOk cs L[i])&&okL cs (L.drop (i+1))):=by
  unfold okL;rw [List.drop_eq_getElem_cons h,List.all_cons]
theorem okS_drop {cs:Cs} {L:List Int} {i:Nat} (h:i<L.length):okS cs (L.drop i)=((decide (tOk cs L[i])&&decide (L[i]≠0))&&okS cs (L.drop (i+1))):=by
  unfold okS;rw [List.drop_eq_getElem_cons h,List.all_cons]
theorem sok_l1 {cs:Cs} (hc:cs.length≤1000) (S:List Int) (hS:S.length≤1048576) (d:Nat): ∀(k i:Nat),i+d=S.length→d<k→impl_shapeOk.l1 k cs S S.length i=some (okS cs (S.drop i)):=by
 induction d with
 |zero=>
  intro k i hi hk;obtain ⟨k,rfl⟩: ∃m,k=m+1:=⟨k - 1,by omega⟩;rw [impl_shapeOk.l1,if_neg (by omega),List.drop_eq_nil_of_le (by omega)];rfl
 | succ d ih =>
  intro k i hi hk;obtain ⟨k,rfl⟩: ∃m,k=m+1:=⟨k - 1,by omega⟩;have hlt:i<S.length:=by omega
  have:=ih k (i+1) (by omega) (by omega)
  rw [show ((i+1:Nat):Int)=(i:Int)+1 by omega] at this;rw [impl_shapeOk.l1,if_pos (by omega),if_pos (by omega),if_pos (by omega),rd_mem hlt,okS_drop hlt,wrap_inc (n:=1048577) (by omega) (by omega) (by omega)];unfold kOkF.f;rw [if_pos (show 0≤(cs.length:Int)∧(cs.length:Int)≤281474976710656 by omega),kOk_eq];by_cases z:S[i]=0
  ·rw [if_pos z,decide_eq_false (show¬S[i]≠0 from fun q=>q z)];simp
  ·rw [if_neg z, decide_eq_true (show S[i] ≠ 0 from z), Option.bind_some]
   by_cases t:tOk cs S[i]
   ·rw [decide_eq_true t,if_pos rfl,this];simp
   ·rw [decide_eq_false t];simp
theorem sok_l0 {cs:Cs} (hc:cs.length≤1000) (L S:List Int) (hL:L.length≤1048576) (hS:S.length≤1048576) (a:Bool) (d:Nat): ∀(k i:Nat),i+d=L.length→d+S.length+2<k→impl_shapeOk.l0 k cs L L.length i a L S=some (okL cs (L.drop i)&&okS cs S):=by
 induction d with
 |zero=>
  intro k i hi hk;obtain ⟨k,rfl⟩: ∃m,k=m+1:=⟨k - 1,by omega⟩;have:=sok_l1 hc S hS S.length k 0 (by omega) (by omega)
  rw [impl_shapeOk.l0,if_neg (by omega),List.drop_eq_nil_of_le (by omega)];rw [List.drop_zero] at this;exact this
 |succ d ih=>
  intro k i hi hk;obtain ⟨k,rfl⟩: ∃m,k=m+1:=⟨k - 1,by omega⟩;have hlt:i<L.length:=by omega
  have:=ih k (i+1) (by omega) (by omega)
  rw [show ((i+1:Nat):Int)=(i:Int)+1 by omega] at this;rw [impl_shapeOk.l0,if_pos (by omega),if_pos (by omega),if_pos (by omega),rd_mem hlt,okL_drop hlt,wrap_inc (n:=1048577) (by omega) (by omega) (by omega)];unfold kOkF.f;rw [if_pos (show 0≤(cs.length:Int)∧(cs.length:Int)≤281474976710656 by omega),kOk_eq,Option.bind_some];by_cases t:tOk cs L[i]
  ·rw [decide_eq_true t,if_pos rfl,this];simp
  ·rw [decide_eq_false t];simp
theorem sok_eq {cs:Cs} (hc:cs.length≤1000) (L S:List Int) (hL:L.length≤1048576) (hS:S.length≤1048576) (k:Nat) (hk:3000000≤k):impl_shapeOk.f k cs L.length true L S=some (decide (S.length≤4)&&(okL cs L&&okS cs S)):=by
 unfold impl_shapeOk.f;rw [if_pos rfl,if_pos rfl];obtain ⟨k,rfl⟩: ∃m,k=m+1:=⟨k - 1,by omega⟩;rw [impl_shapeOk.j0];by_cases z:S.length≤4
 ·rw [decide_eq_false (show ¬ (S.length : Int) > 4 by omega), if_neg (by simp), decide_eq_true z]
  have:=sok_l0 hc L S hL hS true L.length k 0 (by omega) (by omega)
  rw [List.drop_zero] at this;exact this
 ·rw [decide_eq_true (show (S.length:Int)>4 by omega),if_pos rfl,decide_eq_false z];rfl
theorem pok_l1 {cs:Cs} (hf:fewF cs) (hok:csOk cs=true) (L S:List Int) (hS:S.length≤1048576) (a:Bool) (d:Nat): ∀(k i:Nat),i+d=S.length→d+2000001<k→spec_ShapeOk.l1 k cs i a L S=some (okS cs (S.drop i)):=by
 induction d with
 |zero=>
  intro k i hi hk;obtain ⟨k,rfl⟩: ∃m,k=m+1:=⟨k - 1,by omega⟩;rw [spec_ShapeOk.l1,if_neg (by omega),List.drop_eq_nil_of_le (by omega)];rfl
 | succ d ih =>
  intro k i hi hk;obtain ⟨k,rfl⟩: ∃m,k=m+1:=⟨k - 1,by omega⟩;have hlt:i<S.length:=by omega
  have:=ih k (i+1) (by omega) (by omega)
  rw [show ((i+1:Nat):Int)=(i:Int)+1 by omega] at this;rw [spec_ShapeOk.l1,if_pos (by omega),if_pos (by omega),rd_mem hlt,okS_drop hlt,wrap_inc (n:=1048577) (by omega) (by omega) (by omega),spec_TypeOk_eq hf _ k (by omega),hok,Option.bind_some,Bool.true_and];by_cases t:tOk cs S[i]
  ·rw [decide_eq_true t, if_pos rfl]
   by_cases z:S[i]=0
   ·rw [if_pos z,decide_eq_false (show¬S[i]≠0 from fun q=>q z)];simp
   ·rw [if_neg z,decide_eq_true (show S[i]≠0 from z),this];simp
  ·rw [decide_eq_false t];simp
theorem pok_l0 {cs:Cs} (hf:fewF cs) (hok:csOk cs=true) (L S:List Int) (hL:L.length≤1048576) (hS:S.length≤1048576) (a:Bool) (d:Nat): ∀(k i:Nat),i+d=L.length→d+S.length+2000002<k→spec_ShapeOk.l0 k cs i a L S=some (okL cs (L.drop i)&&okS cs S):=by
 induction d with
 |zero=>
  intro k i hi hk;obtain ⟨k,rfl⟩: ∃m,k=m+1:=⟨k - 1,by omega⟩;have:=pok_l1 hf hok L S hS a S.length k 0 (by omega) (by omega)
  rw [spec_ShapeOk.l0,if_neg (by omega),List.drop_eq_nil_of_le (by omega)];rw [List.drop_zero] at this;exact this
 |succ d ih=>
  intro k i hi hk;obtain ⟨k,rfl⟩: ∃m,k=m+1:=⟨k - 1,by omega⟩;have hlt:i<L.length:=by omega
  have:=ih k (i+1) (by omega) (by omega)
  rw [show ((i+1:Nat):Int)=(i:Int)+1 by omega] at this;rw [spec_ShapeOk.l0,if_pos (by omega),if_pos (by omega),rd_mem hlt,okL_drop hlt,wrap_inc (n:=1048577) (by omega) (by omega) (by omega),spec_TypeOk_eq hf _ k (by omega),hok,Option.bind_some,Bool.true_and];by_cases t:tOk cs L[i]
  ·rw [decide_eq_true t,if_pos rfl,this];simp
  ·rw [decide_eq_false t];simp
theorem pok_eq {cs:Cs} (hf:fewF cs) (hok:csOk cs=true) (n:Nat) (L S:List Int) (hL:L.length≤1048576) (hS:S.length≤1048576) (k:Nat) (hk:4500000≤k):spec_ShapeOk.f k cs n true L S=some (decide (L.length=n)&&(decide (S.length≤4)&&(okL cs L&&okS cs S))):=by
 unfold spec_ShapeOk.f;rw [spec_ClassesOk_eq hf k (by omega),hok,Option.bind_some,if_pos rfl,if_pos rfl];obtain ⟨k,rfl⟩: ∃m,k=m+1:=⟨k - 1,by omega⟩;by_cases e:L.length=n
 ·rw [if_pos (by omega), decide_eq_true e, spec_ShapeOk.j0]
  by_cases z:S.length≤4
  ·rw [decide_eq_false (show ¬ (S.length : Int) > 4 by omega), if_neg (by simp), decide_eq_true z]
   have:=pok_l0 hf hok L S hL hS true L.length k 0 (by omega) (by omega)
   rw [List.drop_zero] at this;exact this
  ·rw [decide_eq_true (show (S.length:Int)>4 by omega),if_pos rfl,decide_eq_false z];rfl
 ·rw [if_neg (by omega),decide_eq_false e,spec_ShapeOk.j0,if_pos rfl];rfl
def fitB (cs:Cs) (a:Bool) (L S:List Int) (b:Bool) (L2 S2:List Int):Bool:=
  a&&(b&&(decide (L.length=L2.length)&&(decide (S.length=S2.length)&&((decide (S.length≤4)&&(okL cs L&&okS cs S))&&(decide (S2.length≤4)&&(okL cs L2&&okS cs S2))))))
theorem fit_eq {cs:Cs} (hc:cs.length≤1000) {a b:Bool} {L S L2 S2:List Int} (hL:L.length≤1048576) (hS:S.length≤1048576) (hL2:L2.length≤1048576) (hS2:S2.length≤1048576) (k:Nat) (hk:3000000≤k):impl_shapeFit.f k cs a L S b L2 S2=some (fitB cs a L S b L2 S2):=by
 unfold impl_shapeFit.f fitB
 cases a with
 |false=>rfl
 | true =>
  cases b with
  |false=>rfl
  | true =>
   rw [if_pos rfl,if_pos rfl,sok_eq hc L S hL hS k hk,sok_eq hc L2 S2 hL2 hS2 k hk];by_cases e1:L.length=L2.length
   ·rw [if_pos (by omega), decide_eq_true e1]
    by_cases e2:S.length=S2.length
    ·rw [if_pos (by omega), decide_eq_true e2, Option.bind_some]
     cases (decide (S.length≤4)&&(okL cs L&&okS cs S))<;>rfl
    ·rw [if_neg (by omega),decide_eq_false e2];rfl
   ·rw [if_neg (by omega),decide_eq_false e1];rfl
theorem fits_eq {cs:Cs} (hf:fewF cs) {a b:Bool} {L S L2 S2:List Int} (hL:L.length≤1048576) (hS:S.length≤1048576) (hL2:L2.length≤1048576) (hS2:S2.length≤1048576) (k:Nat) (hk:4500000≤k):spec_l11Fits.f k cs a L S b L2 S2=some (csOk cs&&fitB cs a L S b L2 S2):=by
 unfold spec_l11Fits.f fitB
 cases a with
 |false=>simp
 | true =>
  cases b with
  |false=>simp
  | true =>
   cases hok:csOk cs with
   |false=>
    unfold spec_ShapeOk.f;rw [spec_ClassesOk_eq hf k (by omega),hok];rfl
   | true =>
    rw [if_pos rfl,if_pos rfl,pok_eq hf hok _ L S hL hS k hk,pok_eq hf hok _ L2 S2 hL2 hS2 k hk,Option.bind_some];by_cases e1:L.length=L2.length
    ·rw [decide_eq_true e1, decide_eq_true (show L2.length = L.length from e1.symm), decide_eq_true (rfl : L.length = L.length)]
     simp only [Bool.true_and]
     by_cases e2:S.length=S2.length
     ·rw [decide_eq_true e2, show ((S.length : Int) == (S2.length : Int)) = true from beq_iff_eq.mpr (by omega)]
      cases (decide (S.length≤4)&&(okL cs L&&okS cs S))
      ·rfl
      ·cases (decide (S2.length≤4)&&(okL cs L2&&okS cs S2))<;>rfl
     ·rw [decide_eq_false e2, show ((S.length : Int) == (S2.length : Int)) = false from beq_eq_false_iff_ne.mpr (by omega)]
      cases (decide (S.length≤4)&&(okL cs L&&okS cs S))
      ·rfl
      ·cases (decide (S2.length≤4)&&(okL cs L2&&okS cs S2))<;>rfl
    ·rw [decide_eq_false e1, decide_eq_false (show ¬ L2.length = L.length from fun q => e1 q.symm)]
     simp
theorem okL_at {cs:Cs} {L:List Int} (h:okL cs L=true) {i:Nat} (hi:i<L.length):tOk cs L[i]:=by
 unfold okL at h;rw [List.all_eq_true] at h;exact of_decide_eq_true (h _ (List.getElem_mem hi))
theorem okS_at {cs:Cs} {L:List Int} (h:okS cs L=true) {i:Nat} (hi:i<L.length):tOk cs L[i]∧L[i]≠0:=by
 unfold okS at h;rw [List.all_eq_true] at h;have:=h _ (List.getElem_mem hi)
 rw [Bool.and_eq_true] at this;exact ⟨of_decide_eq_true this.1,of_decide_eq_true this.2⟩
def joinR (cs:Cs) (L S L2 S2:List Int):Bool×List Int×List Int:=
  if 0∈List.zipWith (jn cs) S S2 then (false,[],[]) else (true,List.zipWith (jn cs) L L2,List.zipWith (jn cs) S S2)
theorem zip_drop {cs:Cs} {S S2:List Int} {i:Nat} (h1:i<S.length) (h2:i<S2.length):(List.zipWith (jn cs) S S2).drop i=jn cs S[i] S2[i]::(List.zipWith (jn cs) S S2).drop (i+1):=by
  have hz:i<(List.zipWith (jn cs) S S2).length:=by rw [List.length_zipWith];omega
  rw [List.drop_eq_getElem_cons hz,List.getElem_zipWith]
theorem ij_l1 {cs:Cs} (hok:csOk cs=true) (S L2 S2 LJ:List Int) (hS:S.length≤1048576) (he:S.length=S2.length) (b:Bool) (d:Nat): ∀(k i:Nat) (acc:List Int),i+d=S.length→d<k→acc.length=i→
  impl_shapeJoin.l1 k cs S S.length i b L2 S2 true LJ acc=some (if 0∈(List.zipWith (jn cs) S S2).drop i then (false,[],[]) else (true,LJ,acc++(List.zipWith (jn cs) S S2).drop i)):=by
 induction d with
 |zero=>
  intro k i acc hi hk ha;obtain ⟨k,rfl⟩: ∃m,k=m+1:=⟨k - 1,by omega⟩;rw [impl_shapeJoin.l1,if_neg (by omega),List.drop_eq_nil_of_le (by rw [List.length_zipWith];omega)];simp
 | succ d ih =>
  intro k i acc hi hk ha;obtain ⟨k,rfl⟩: ∃m,k=m+1:=⟨k - 1,by omega⟩;have h1:i<S.length:=by omega
  have h2:i<S2.length:=by omega
  rw [impl_shapeJoin.l1,if_pos (by omega),if_pos (by omega),if_pos (by omega),if_pos (by omega),rd_mem h1,rd_mem h2,(jn_eq hok _ _).1,Option.bind_some,zip_drop h1 h2,wrap_inc (n:=1048577) (by omega) (by omega) (by omega)];by_cases z:jn cs S[i] S2[i]=0
  ·rw [if_pos z,if_pos (by rw [z];exact List.mem_cons_self ..)]
  ·have := ih k (i + 1) (acc ++ [jn cs S[i] S2[i]]) (by omega) (by omega) (by simp [ha])
   rw [show ((i+1:Nat):Int)=(i:Int)+1 by omega] at this;rw [if_neg z,if_pos (by omega),this]
   congr 1
   by_cases m:0∈(List.zipWith (jn cs) S S2).drop (i+1)
   ·rw [if_pos m,if_pos (List.mem_cons_of_mem _ m)]
   ·rw [if_neg m,if_neg (fun q=>by rcases List.mem_cons.mp q with q|q;exact z q.symm;exact m q),List.append_assoc];rfl
theorem ij_l0 {cs:Cs} (hok:csOk cs=true) (L S L2 S2:List Int) (hL:L.length≤1048576) (hS:S.length≤1048576) (hl:L.length=L2.length) (he:S.length=S2.length) (a b:Bool) (d:Nat): ∀(k i:Nat) (acc:List Int),i+d=L.length→d+S.length+2<k→acc.length=i→
  impl_shapeJoin.l0 k cs L L.length i a L S b L2 S2 true acc=some (if 0∈List.zipWith (jn cs) S S2 then (false,[],[]) else (true,acc++(List.zipWith (jn cs) L L2).drop i,List.zipWith (jn cs) S S2)):=by
 induction d with
 |zero=>
  intro k i acc hi hk ha;obtain ⟨k,rfl⟩: ∃m,k=m+1:=⟨k - 1,by omega⟩;have:=ij_l1 hok S L2 S2 acc hS he b S.length k 0 [] (by omega) (by omega) rfl
  rw [impl_shapeJoin.l0,if_neg (by omega),List.drop_eq_nil_of_le (i:=i) (by rw [List.length_zipWith];omega),List.append_nil];rw [List.drop_zero,List.nil_append] at this;exact this
 |succ d ih=>
  intro k i acc hi hk ha;obtain ⟨k,rfl⟩: ∃m,k=m+1:=⟨k - 1,by omega⟩;have h1:i<L.length:=by omega
  have h2:i<L2.length:=by omega
  have:=ih k (i+1) (acc++[jn cs L[i] L2[i]]) (by omega) (by omega) (by simp [ha])
  rw [show ((i+1:Nat):Int)=(i:Int)+1 by omega] at this;rw [impl_shapeJoin.l0,if_pos (by omega),if_pos (by omega),if_pos (by omega),if_pos (by omega),rd_mem h1,rd_mem h2,(jn_eq hok _ _).1,Option.bind_some,if_pos (by omega),wrap_inc (n:=1048577) (by omega) (by omega) (by omega),this,zip_drop (S:=L) (S2:=L2) h1 h2,List.append_assoc];rfl
theorem set_fill {Z T:List Int} {i:Nat} (hi:i<T.length) (hz:i<Z.length):(Z.take i++T.drop i).set i Z[i]=Z.take (i+1)++T.drop (i+1):=by
  have hl:(Z.take i).length=i:=by rw [List.length_take];omega
  rw [List.drop_eq_getElem_cons hi,List.set_append_right _ _ (by omega),hl,Nat.sub_self,List.set_cons_zero,List.take_succ_eq_append_getElem hz,List.append_assoc];rfl
theorem sj_l1 {cs:Cs} (hok:csOk cs=true) (L S L2 S2 LJ:List Int) (hS:S.length≤1048576) (he:S.length=S2.length) (o1:okS cs S=true) (o2:okS cs S2=true) (a b c:Bool) (d:Nat): ∀(k i:Nat),i+d=S.length→d+40<k→
  spec_l11Join.l1 k cs i a L S b L2 S2 c LJ ((List.zipWith (jn cs) S S2).take i++S.drop i)=some (if 0∈(List.zipWith (jn cs) S S2).drop i then (false,[],[]) else (c,LJ,List.zipWith (jn cs) S S2)):=by
 have hzl:(List.zipWith (jn cs) S S2).length=S.length:=by rw [List.length_zipWith];omega
 induction d with
 |zero=>
  intro k i hi hk;obtain ⟨k,rfl⟩: ∃m,k=m+1:=⟨k - 1,by omega⟩;rw [spec_l11Join.l1,if_neg (by omega),List.drop_eq_nil_of_le (show S.length≤i by omega),List.append_nil,List.take_of_length_le (by omega),List.drop_eq_nil_of_le (by omega)];simp
 | succ d ih =>
  intro k i hi hk;obtain ⟨k,rfl⟩: ∃m,k=m+1:=⟨k - 1,by omega⟩;have h1:i<S.length:=by omega
  have h2:i<S2.length:=by omega
  have hm:=(jn_eq hok S[i] S2[i]).2.1 (okS_at o1 h1).1 (okS_at o2 h2).1 k (by omega);have hll:(((List.zipWith (jn cs) S S2).take i++S.drop i).length:Int)=S.length:=by rw [List.length_append,List.length_take,List.length_drop];omega
  rw [spec_l11Join.l1,if_pos (by omega),if_pos (by omega),if_pos (by omega),rd_mem h1,rd_mem h2,hm,Option.bind_some,if_pos (by omega),zip_drop h1 h2,wrap_inc (n:=1048577) (by omega) (by omega) (by omega)];by_cases z:jn cs S[i] S2[i]=0
  ·rw [if_pos z,if_pos (by rw [z];exact List.mem_cons_self ..)];rfl
  ·have := ih k (i + 1) (by omega) (by omega)
   rw [show ((i+1:Nat):Int)=(i:Int)+1 by omega] at this;have hset:=set_fill (Z:=List.zipWith (jn cs) S S2) (T:=S) h1 (by omega);rw [List.getElem_zipWith] at hset;rw [if_neg z,Int.toNat_natCast,hset,this]
   congr 1
   by_cases m:0∈(List.zipWith (jn cs) S S2).drop (i+1)
   ·rw [if_pos m,if_pos (List.mem_cons_of_mem _ m)]
   ·rw [if_neg m,if_neg (fun q=>by rcases List.mem_cons.mp q with q|q;exact z q.symm;exact m q)]
theorem sj_l0 {cs:Cs} (hok:csOk cs=true) (L S L2 S2:List Int) (hL:L.length≤1048576) (hS:S.length≤1048576) (hl:L.length=L2.length) (he:S.length=S2.length) (o1:okS cs S=true) (o2:okS cs S2=true) (p1:okL cs L=true) (p2:okL cs L2=true) (a b c:Bool) (d:Nat): ∀(k i:Nat),i+d=L.length→d+S.length+50<k→
  spec_l11Join.l0 k cs i a L S b L2 S2 c ((List.zipWith (jn cs) L L2).take i++L.drop i) S=some (if 0∈List.zipWith (jn cs) S S2 then (false,[],[]) else (c,List.zipWith (jn cs) L L2,List.zipWith (jn cs) S S2)):=by
 have hzl:(List.zipWith (jn cs) L L2).length=L.length:=by rw [List.length_zipWith];omega
 induction d with
 |zero=>
  intro k i hi hk;obtain ⟨k,rfl⟩: ∃m,k=m+1:=⟨k - 1,by omega⟩;have:=sj_l1 hok L S L2 S2 (List.zipWith (jn cs) L L2) hS he o1 o2 a b c S.length k 0 (by omega) (by omega)
  rw [spec_l11Join.l0,if_neg (by omega),List.drop_eq_nil_of_le (show L.length≤i by omega),List.append_nil,List.take_of_length_le (by omega)];rw [List.take_zero,List.nil_append,List.drop_zero,List.drop_zero] at this;exact this
 |succ d ih=>
  intro k i hi hk;obtain ⟨k,rfl⟩: ∃m,k=m+1:=⟨k - 1,by omega⟩;have h1:i<L.length:=by omega
  have h2:i<L2.length:=by omega
  have hm:=(jn_eq hok L[i] L2[i]).2.1 (okL_at p1 h1) (okL_at p2 h2) k (by omega);have hll:(((List.zipWith (jn cs) L L2).take i++L.drop i).length:Int)=L.length:=by rw [List.length_append,List.length_take,List.length_drop];omega
  have:=ih k (i+1) (by omega) (by omega)
  rw [show ((i+1:Nat):Int)=(i:Int)+1 by omega] at this;have hset:=set_fill (Z:=List.zipWith (jn cs) L L2) (T:=L) h1 (by omega);rw [List.getElem_zipWith] at hset;rw [spec_l11Join.l0,if_pos (by omega),if_pos (by omega),if_pos (by omega),rd_mem h1,rd_mem h2,hm,Option.bind_some,if_pos (by omega),wrap_inc (n:=1048577) (by omega) (by omega) (by omega),Int.toNat_natCast,hset,this]
theorem ShapeJoin_eq {cs : Cs} (hf : fewF cs) {a b : Bool} {L S L2 S2 : List Int} (hL : L.length ≤ 1048576) (hS : S.length ≤ 1048576) (hL2 : L2.length ≤ 1048576) (hS2 : S2.length ≤ 1048576) (k : Nat) (hk : 4500000 ≤ k) :
    impl_ShapeJoin.f k cs a L S b L2 S2=some (if (csOk cs&&fitB cs a L S b L2 S2)=true then joinR cs L S L2 S2 else (false,[],[]))∧spec_ShapeJoin.f k cs a L S b L2 S2=some (if (csOk cs&&fitB cs a L S b L2 S2)=true then joinR cs L S L2 S2 else (false,[],[])):=by
  unfold impl_ShapeJoin.f spec_ShapeJoin.f;rw [impl_ClassesOk_eq cs k (by omega),fits_eq hf hL hS hL2 hS2 k hk,Option.bind_some,Option.bind_some]
  cases hok:csOk cs with
  |false=>exact ⟨by rfl,by rfl⟩
  | true =>
    have hc:=csOk_len hok;rw [if_pos rfl];unfold impl_shapeJoin.f;rw [fit_eq (by omega) hL hS hL2 hS2 k (by omega),Option.bind_some,Bool.true_and]
    cases hfit:fitB cs a L S b L2 S2 with
    |false=>exact ⟨by rfl,by rfl⟩
    | true =>
      unfold fitB at hfit;simp only [Bool.and_eq_true,decide_eq_true_eq] at hfit;obtain ⟨ha,hb,e1,e2,⟨s1,o1,o2⟩,s2,o3,o4⟩:=hfit;rw [if_pos rfl,if_pos rfl,if_pos rfl];have h1:=ij_l0 hok L S L2 S2 hL hS e1 e2 a b L.length k 0 [] (by omega) (by omega) rfl;rw [List.drop_zero,List.nil_append] at h1;have h2:=sj_l0 hok L S L2 S2 hL hS e1 e2 o2 o4 o1 o3 a b a L.length k 0 (by omega) (by omega);rw [List.take_zero,List.nil_append,List.drop_zero] at h2;refine ⟨?_,?_⟩
      · rw [show ((0 : Nat) : Int) = 0 from rfl] at h1
        rw [h1];rfl
      · have hcp : spec_l11Copy.f a L S = some (a, L, S) := by
          unfold spec_l11Copy.f;rw [Option.bind_some,if_pos (by simp only [List.length_nil];omega),Option.bind_some,if_pos (by simp only [List.length_nil];omega)];rfl
        unfold spec_l11Join.f;rw [hcp,Option.bind_some,if_pos (by omega)];rw [show ((0:Nat):Int)=0 from rfl] at h2
        dsimp only
        rw [h2,ha];rfl
theorem typeIn_at {cs:Cs} (h:csOk cs=true) {a b:Int} (hb:b≤1000000):impl_typeIn.f cs a b=some (decide (tOk cs a)&&(decide (tOk cs b)&&tIn cs a b)):=by
 have hl:=csOk_len h;unfold impl_typeIn.f;rw [if_pos ⟨by omega,by omega⟩,kOk_eq,kOk_eq];by_cases ca:tOk cs a
 ·by_cases cb : tOk cs b
  ·rw [decide_eq_true ca,decide_eq_true cb,if_pos rfl,if_pos rfl,kndIn_eq h ca cb];rfl
  ·rw [decide_eq_true ca,decide_eq_false cb,if_pos rfl,if_neg (by simp)];rfl
 ·rw [decide_eq_false ca,if_neg (by simp)];rfl
theorem tok_le {cs:Cs} (h:csOk cs=true) {a:Int} (ha:tOk cs a):a≤1000000:=by
 have hl:=csOk_len h;unfold tOk at ha;omega
theorem jn_lub {cs:Cs} (h:csOk cs=true) {a b:Int} (ha:tOk cs a) (hb:tOk cs b):tOk cs (jn cs a b)∧tIn cs a (jn cs a b)=true∧tIn cs b (jn cs a b)=true∧∀c,tOk cs c→tIn cs a c=true→tIn cs b c=true→tIn cs (jn cs a b) c=true:=by
 obtain ⟨m,g1,g2,g3,g4,g5⟩:=l2Meets_spec h ha hb;obtain rfl:=Option.some.inj (((jn_eq h a b).2.1 ha hb 40 (Nat.le_refl _)).symm.trans (g1 40 (Nat.le_refl _)));exact ⟨g2,g3,g4,g5⟩
theorem jn_comm {cs:Cs} (h:csOk cs=true) {a b:Int} (ha:tOk cs a) (hb:tOk cs b):jn cs b a=jn cs a b:=by
 obtain ⟨p1,p2,p3,p4⟩:=jn_lub h ha hb;obtain ⟨q1,q2,q3,q4⟩:=jn_lub h hb ha;exact tIn_anti h q1 p1 (q4 _ p1 p3 p2) (p4 _ q1 q3 q2)
theorem jn_self {cs:Cs} (h:csOk cs=true) {a:Int} (ha:tOk cs a):jn cs a a=a:=by
  obtain ⟨p1,p2,p3,p4⟩:=jn_lub h ha ha;exact tIn_anti h p1 ha (p4 _ ha (tIn_refl cs a) (tIn_refl cs a)) p2
theorem tIn_zero {cs:Cs} {t:Int} (h:tIn cs 0 t=true):t=0:=by
 unfold tIn at h;by_cases c:(0:Int)=t∨t=0
 ·omega
 ·rw [if_neg c, if_neg (by decide), if_pos (.inl (by decide))] at h
  simp at h
def inB (cs:Cs) (L L2:List Int):Bool:=(List.zipWith (tIn cs) L L2).all id
theorem inB_iff {cs:Cs} {L L2:List Int} (hl:L.length=L2.length):inB cs L L2=true↔∀i (h:i<L.length),tIn cs L[i] (L2[i]'(by omega))=true:=by
 unfold inB;rw [List.all_eq_true]
 constructor
 ·intro h i hi
  have hz:i<(List.zipWith (tIn cs) L L2).length:=by rw [List.length_zipWith];omega
  have:=h _ (List.getElem_mem hz)
  rw [List.getElem_zipWith] at this;exact this
 ·intro h x hx
  obtain ⟨i,hi,rfl⟩:=List.getElem_of_mem hx;rw [List.length_zipWith] at hi;rw [List.getElem_zipWith];exact h i (by omega)
theorem inB_drop {cs:Cs} {S S2:List Int} {i:Nat} (h1:i<S.length) (h2:i<S2.length):((List.zipWith (tIn cs) S S2).drop i).all id=(tIn cs S[i] S2[i]&&((List.zipWith (tIn cs) S S2).drop (i+1)).all id):=by
  have hz:i<(List.zipWith (tIn cs) S S2).length:=by rw [List.length_zipWith];omega
  rw [List.drop_eq_getElem_cons hz,List.getElem_zipWith,List.all_cons];rfl
theorem si_l1 {cs:Cs} (hok:csOk cs=true) (S L2 S2:List Int) (hS:S.length≤1048576) (he:S.length=S2.length) (o1:okS cs S=true) (o2:okS cs S2=true) (b:Bool) (d:Nat): ∀(k i:Nat),i+d=S.length→d<k→
  impl_shapeIn.l1 k cs S S.length i b L2 S2=some (((List.zipWith (tIn cs) S S2).drop i).all id):=by
 induction d with
 |zero=>
  intro k i hi hk;obtain ⟨k,rfl⟩: ∃m,k=m+1:=⟨k - 1,by omega⟩;rw [impl_shapeIn.l1,if_neg (by omega),List.drop_eq_nil_of_le (by rw [List.length_zipWith];omega)];rfl
 |succ d ih=>
  intro k i hi hk;obtain ⟨k,rfl⟩: ∃m,k=m+1:=⟨k - 1,by omega⟩;have h1:i<S.length:=by omega
  have h2:i<S2.length:=by omega
  have t1:=(okS_at o1 h1).1;have t2:=(okS_at o2 h2).1;have:=ih k (i+1) (by omega) (by omega)
  rw [show ((i+1:Nat):Int)=(i:Int)+1 by omega] at this;rw [impl_shapeIn.l1,if_pos (by omega),if_pos (by omega),if_pos (by omega),if_pos (by omega),rd_mem h1,rd_mem h2,typeIn_at hok (tok_le hok t2),decide_eq_true t1,decide_eq_true t2,Bool.true_and,Bool.true_and,Option.bind_some,inB_drop h1 h2,wrap_inc (n:=1048577) (by omega) (by omega) (by omega)]
  cases tIn cs S[i] S2[i] with
  |false=>rfl
  |true=>rw [if_pos rfl,this];rfl
theorem si_l0 {cs:Cs} (hok:csOk cs=true) (L S L2 S2:List Int) (hL:L.length≤1048576) (hS:S.length≤1048576) (hl:L.length=L2.length) (he:S.length=S2.length) (p1:okL cs L=true) (p2:okL cs L2=true) (o1:okS cs S=true) (o2:okS cs S2=true) (a b:Bool) (d:Nat): ∀(k i:Nat),i+d=L.length→d+S.length+2<k→
  impl_shapeIn.l0 k cs L L.length i a L S b L2 S2=some (((List.zipWith (tIn cs) L L2).drop i).all id&&inB cs S S2):=by
 induction d with
 |zero=>
  intro k i hi hk;obtain ⟨k,rfl⟩: ∃m,k=m+1:=⟨k - 1,by omega⟩;have:=si_l1 hok S L2 S2 hS he o1 o2 b S.length k 0 (by omega) (by omega)
  rw [impl_shapeIn.l0,if_neg (by omega),List.drop_eq_nil_of_le (by rw [List.length_zipWith];omega)];rw [List.drop_zero] at this;exact this
 |succ d ih=>
  intro k i hi hk;obtain ⟨k,rfl⟩: ∃m,k=m+1:=⟨k - 1,by omega⟩;have h1:i<L.length:=by omega
  have h2:i<L2.length:=by omega
  have t1:=okL_at p1 h1;have t2:=okL_at p2 h2;have:=ih k (i+1) (by omega) (by omega)
  rw [show ((i+1:Nat):Int)=(i:Int)+1 by omega] at this;rw [impl_shapeIn.l0,if_pos (by omega),if_pos (by omega),if_pos (by omega),if_pos (by omega),rd_mem h1,rd_mem h2,typeIn_at hok (tok_le hok t2),decide_eq_true t1,decide_eq_true t2,Bool.true_and,Bool.true_and,Option.bind_some,inB_drop h1 h2,wrap_inc (n:=1048577) (by omega) (by omega) (by omega)]
  cases tIn cs L[i] L2[i] with
  |false=>rfl
  |true=>rw [if_pos rfl,this,Bool.true_and]
def shIn (cs:Cs) (a:Bool) (L S:List Int) (b:Bool) (L2 S2:List Int):Bool:=csOk cs&&(fitB cs a L S b L2 S2&&(inB cs L L2&&inB cs S S2))
theorem fitB_iff {cs:Cs} {a b:Bool} {L S L2 S2:List Int}:fitB cs a L S b L2 S2=true↔a=true∧b=true∧L.length=L2.length∧S.length=S2.length∧(S.length≤4∧okL cs L=true∧okS cs S=true)∧(S2.length≤4∧okL cs L2=true∧okS cs S2=true):=by
  unfold fitB;simp only [Bool.and_eq_true,decide_eq_true_eq]
theorem ShapeIn_eq {cs:Cs} {a b:Bool} {L S L2 S2:List Int} (hL:L.length≤1048576) (hS:S.length≤1048576) (hL2:L2.length≤1048576) (hS2:S2.length≤1048576) (k:Nat) (hk:4500000≤k):impl_ShapeIn.f k cs a L S b L2 S2=some (shIn cs a L S b L2 S2):=by
 unfold impl_ShapeIn.f shIn;rw [impl_ClassesOk_eq cs k (by omega),Option.bind_some]
 cases hok:csOk cs with
 |false=>rfl
 | true =>
  have hc:=csOk_len hok;rw [if_pos rfl];unfold impl_shapeIn.f;rw [fit_eq (by omega) hL hS hL2 hS2 k (by omega),Option.bind_some,Bool.true_and]
  cases hfit:fitB cs a L S b L2 S2 with
  |false=>rfl
  |true=>
   obtain ⟨ha,hb,e1,e2,⟨s1,o1,o2⟩,s2,o3,o4⟩:=fitB_iff.mp hfit;have h1:=si_l0 hok L S L2 S2 hL hS e1 e2 o1 o3 o2 o4 a b L.length k 0 (by omega) (by omega);rw [List.drop_zero,show ((0:Nat):Int)=0 from rfl] at h1;rw [if_pos rfl,h1];rfl
def shJ (cs:Cs) (a:Bool) (L S:List Int) (b:Bool) (L2 S2:List Int):Bool×List Int×List Int:=if (csOk cs&&fitB cs a L S b L2 S2)=true then joinR cs L S L2 S2 else (false,[],[])
theorem okL_iff {cs:Cs} {L:List Int}:okL cs L=true↔∀i (h:i<L.length),tOk cs L[i]:=by
 constructor
 ·intro h i hi;exact okL_at h hi
 ·intro h
  unfold okL;rw [List.all_eq_true];intro x hx;obtain ⟨i,hi,rfl⟩:=List.getElem_of_mem hx;exact decide_eq_true (h i hi)
theorem okS_iff {cs:Cs} {L:List Int}:okS cs L=true↔∀i (h:i<L.length),tOk cs L[i]∧L[i]≠0:=by
 constructor
 ·intro h i hi;exact okS_at h hi
 ·intro h
  unfold okS;rw [List.all_eq_true];intro x hx;obtain ⟨i,hi,rfl⟩:=List.getElem_of_mem hx;rw [decide_eq_true (h i hi).1,decide_eq_true (h i hi).2];rfl
theorem zip_len {cs:Cs} {L L2:List Int} (h:L.length=L2.length):(List.zipWith (jn cs) L L2).length=L.length:=by rw [List.length_zipWith];omega
theorem zip_comm {cs:Cs} (hok:csOk cs=true) {L L2:List Int} (h:L.length=L2.length) (h1: ∀i (h:i<L.length),tOk cs L[i]) (h2: ∀i (h:i<L2.length),tOk cs L2[i]):List.zipWith (jn cs) L2 L=List.zipWith (jn cs) L L2:=by
 refine List.ext_getElem (by rw [zip_len h.symm,zip_len h,h]) (fun i q1 q2=>?_);rw [zip_len h] at q2;rw [List.getElem_zipWith,List.getElem_zipWith,jn_comm hok (h1 i q2) (h2 i (by omega))]
theorem zip_self {cs:Cs} (hok:csOk cs=true) {L:List Int} (h1: ∀i (h:i<L.length),tOk cs L[i]):List.zipWith (jn cs) L L=L:=by
  refine List.ext_getElem (zip_len rfl) (fun i q1 q2=>?_);rw [List.getElem_zipWith,jn_self hok (h1 i q2)]
theorem shape_law {cs:Cs} {a b c:Bool} {L S L2 S2 L3 S3:List Int} {x:Bool} {LX SX:List Int} (hx:shJ cs a L S b L2 S2=(x,LX,SX)):
  (x=false→(shIn cs a L S c L3 S3&&shIn cs b L2 S2 c L3 S3)=false)∧
  (x=true→shIn cs a L S x LX SX=true∧shIn cs b L2 S2 x LX SX=true∧shJ cs b L2 S2 a L S=(x,LX,SX)∧shJ cs a L S a L S=(a,L,S)∧(shIn cs a L S c L3 S3=true→shIn cs b L2 S2 c L3 S3=true→shIn cs x LX SX c L3 S3=true)):=by
 have key: ∀{P Q R:List Int},csOk cs=true→P.length=Q.length→P.length=R.length→(∀i (h:i<P.length),tOk cs P[i])→(∀i (h:i<Q.length),tOk cs Q[i])→(∀i (h:i<R.length),tOk cs R[i])→inB cs P R=true→inB cs Q R=true→inB cs (List.zipWith (jn cs) P Q) R=true:=by
  intro P Q R hok l1 l2 o1 o2 o3 h1 h2;rw [inB_iff (by rw [zip_len l1];exact l2)];intro i hi;rw [zip_len l1] at hi;rw [List.getElem_zipWith];exact (jn_lub hok (o1 i hi) (o2 i (by omega))).2.2.2 _ (o3 i (by omega)) ((inB_iff l2).mp h1 i hi) ((inB_iff (by omega)).mp h2 i (by omega))
 constructor
 ·intro hx0
  rw [Bool.eq_false_iff];intro hh;rw [Bool.and_eq_true] at hh;obtain ⟨h1,h2⟩:=hh;unfold shIn at h1 h2;simp only [Bool.and_eq_true] at h1 h2;obtain ⟨hok,hf1,hl1,hs1⟩:=h1;obtain ⟨_,hf2,hl2,hs2⟩:=h2;obtain ⟨a1,c1,e1,e2,⟨s1,p1,p2⟩,t1,p3,p4⟩:=fitB_iff.mp hf1;obtain ⟨b1,_,e3,e4,⟨s2,p5,p6⟩,_⟩:=fitB_iff.mp hf2;have hfit:fitB cs a L S b L2 S2=true:=fitB_iff.mpr ⟨a1,b1,by omega,by omega,⟨s1,p1,p2⟩,s2,p5,p6⟩
  unfold shJ at hx;rw [hok,hfit,Bool.and_self,if_pos rfl] at hx;unfold joinR at hx
  have hno: ¬0∈List.zipWith (jn cs) S S2:=fun hm=>by
   obtain ⟨i,hi,he⟩:=List.getElem_of_mem hm;rw [zip_len (by omega)] at hi;rw [List.getElem_zipWith] at he;have hlub:=(jn_lub hok (okS_at p2 hi).1 (okS_at p6 (i:=i) (by omega)).1).2.2.2 _ (okS_at p4 (i:=i) (by omega)).1 ((inB_iff e2).mp hs1 i hi) ((inB_iff e4).mp hs2 i (by omega));rw [he] at hlub;exact (okS_at p4 (i:=i) (by omega)).2 (tIn_zero hlub)
  rw [if_neg hno] at hx;rw [←(Prod.mk.inj hx).1] at hx0;simp at hx0
 ·intro hx1
  unfold shJ at hx
  cases hg:(csOk cs&&fitB cs a L S b L2 S2) with
  |false=>
   rw [hg,if_neg (by simp)] at hx;rw [←(Prod.mk.inj hx).1] at hx1;simp at hx1
  | true =>
   rw [hg,if_pos rfl] at hx;unfold joinR at hx;by_cases hm:0∈List.zipWith (jn cs) S S2
   ·rw [if_pos hm] at hx
    rw [←(Prod.mk.inj hx).1] at hx1;simp at hx1
   rw [if_neg hm] at hx;obtain ⟨rfl,hx2⟩:=Prod.mk.inj hx;obtain ⟨rfl,rfl⟩:=Prod.mk.inj hx2;rw [Bool.and_eq_true] at hg;obtain ⟨hok,hfit⟩:=hg;obtain ⟨a1,b1,e1,e2,⟨s1,p1,p2⟩,s2,p3,p4⟩:=fitB_iff.mp hfit;subst a1 b1;have oL:=okL_iff.mp p1;have oL2:=okL_iff.mp p3;have oS:=fun i (h:i<S.length)=>(okS_iff.mp p2 i h).1
   have oS2:=fun i (h:i<S2.length)=>(okS_iff.mp p4 i h).1
   have jL:okL cs (List.zipWith (jn cs) L L2)=true:=okL_iff.mpr fun i hi=>by
    rw [zip_len e1] at hi;rw [List.getElem_zipWith];exact (jn_lub hok (oL i hi) (oL2 i (by omega))).1
   have jS:okS cs (List.zipWith (jn cs) S S2)=true:=okS_iff.mpr fun i hi=>by
    have hz:=List.getElem_mem hi;refine ⟨?_,fun q=>hm (by rw [←q];exact hz)⟩;rw [zip_len e2] at hi;rw [List.getElem_zipWith];exact (jn_lub hok (oS i hi) (oS2 i (by omega))).1
   have inq: ∀{P Q:List Int},P.length=Q.length→(∀i (h:i<P.length),tOk cs P[i])→(∀i (h:i<Q.length),tOk cs Q[i])→inB cs P (List.zipWith (jn cs) P Q)=true∧inB cs Q (List.zipWith (jn cs) P Q)=true:=by
    intro P Q hl o1 o2;rw [inB_iff (zip_len hl).symm,inB_iff (by rw [zip_len hl];exact hl.symm)];refine ⟨fun i hi=>?_,fun i hi=>?_⟩
    ·rw [List.getElem_zipWith];exact (jn_lub hok (o1 i hi) (o2 i (by omega))).2.1
    ·rw [List.getElem_zipWith];exact (jn_lub hok (o1 i (by omega)) (o2 i hi)).2.2.1
   have iL:=inq e1 oL oL2;have iS:=inq e2 oS oS2;have lz:=zip_len (cs:=cs) e1;have sz:=zip_len (cs:=cs) e2;refine ⟨?_,?_,?_,?_,fun h1 h2=>?_⟩
   ·unfold shIn
    rw [hok,fitB_iff.mpr ⟨rfl,rfl,lz.symm,sz.symm,⟨s1,p1,p2⟩,by omega,jL,jS⟩,iL.1,iS.1];rfl
   ·unfold shIn
    rw [hok,fitB_iff.mpr ⟨rfl,rfl,by omega,by omega,⟨s2,p3,p4⟩,by omega,jL,jS⟩,iL.2,iS.2];rfl
   ·unfold shJ
    rw [hok,fitB_iff.mpr ⟨rfl,rfl,e1.symm,e2.symm,⟨s2,p3,p4⟩,s1,p1,p2⟩,Bool.and_self,if_pos rfl];unfold joinR;rw [zip_comm hok e1 oL oL2,zip_comm hok e2 oS oS2,if_neg hm]
   ·unfold shJ
    rw [hok,fitB_iff.mpr ⟨rfl,rfl,rfl,rfl,⟨s1,p1,p2⟩,s1,p1,p2⟩,Bool.and_self,if_pos rfl];unfold joinR
    rw [zip_self hok oL,zip_self hok oS,if_neg (fun q=>by
     obtain ⟨i,hi,he⟩:=List.getElem_of_mem q
     exact (okS_iff.mp p2 i hi).2 he)]
   ·unfold shIn at h1 h2 ⊢
    simp only [Bool.and_eq_true] at h1 h2;obtain ⟨_,hf1,hl1,hs1⟩:=h1;obtain ⟨_,hf2,hl2,hs2⟩:=h2;obtain ⟨_,c1,f1,f2,_,t1,p7,p8⟩:=fitB_iff.mp hf1;have oL3:=okL_iff.mp p7;have oS3:=fun i (h:i<S3.length)=>(okS_iff.mp p8 i h).1
    rw [hok,fitB_iff.mpr ⟨rfl,c1,by omega,by omega,⟨by omega,jL,jS⟩,t1,p7,p8⟩,key hok e1 f1 oL oL2 oL3 hl1 hl2,key hok e2 f2 oS oS2 oS3 hs1 hs2];rfl
theorem shJ_len {cs:Cs} {a b:Bool} {L S L2 S2:List Int} {x:Bool} {LX SX:List Int} (hx:shJ cs a L S b L2 S2=(x,LX,SX)):LX.length≤L.length∧SX.length≤S.length:=by
 unfold shJ at hx
 split at hx
 ·unfold joinR at hx
  split at hx
  ·obtain ⟨_, h2⟩ := Prod.mk.inj hx
   obtain ⟨rfl,rfl⟩:=Prod.mk.inj h2;exact ⟨Nat.zero_le _,Nat.zero_le _⟩
  ·obtain ⟨_, h2⟩ := Prod.mk.inj hx
   obtain ⟨rfl,rfl⟩:=Prod.mk.inj h2
   constructor<;>(rw [List.length_zipWith];omega)
 ·obtain ⟨_, h2⟩ := Prod.mk.inj hx
  obtain ⟨rfl,rfl⟩:=Prod.mk.inj h2;exact ⟨Nat.zero_le _,Nat.zero_le _⟩
theorem leShape_self (a:Bool) (L S:List Int) (hL:L.length≤1048576) (hS:S.length≤1048576) (k:Nat) (hk:1048578≤k):laws_leShape.f k a L S a L S=some true:=by
  unfold laws_leShape.f;rw [if_pos (by simp),leInts_self L hL k hk,Option.bind_some,if_pos rfl,leInts_self S hS k hk];rfl
theorem fnshape_eq {cs:Cs} (hf:fewF cs) (a b c:Bool) (L S L2 S2 L3 S3:List Int) (hL:L.length≤60) (hS:S.length≤60) (hL2:L2.length≤60) (hS2:S2.length≤60) (hL3:L3.length≤60) (hS3:S3.length≤60): ∃(x:Bool) (LX SX:List Int) (i1 i2 i3:Bool),
  impl_ShapeJoin.f 5000000 cs a L S b L2 S2=some (x,LX,SX)∧spec_ShapeJoin.f 5000000 cs a L S b L2 S2=some (x,LX,SX)∧laws_leShape.f 5000000 x LX SX x LX SX=some true∧
  impl_ShapeIn.f 5000000 cs a L S c L3 S3=some i1∧impl_ShapeIn.f 5000000 cs b L2 S2 c L3 S3=some i2∧impl_ShapeIn.f 5000000 cs x LX SX c L3 S3=some i3∧
  (x=false→i1=true→i2=false)∧
  (x=true→impl_ShapeIn.f 5000000 cs a L S x LX SX=some true∧impl_ShapeIn.f 5000000 cs b L2 S2 x LX SX=some true∧impl_ShapeJoin.f 5000000 cs b L2 S2 a L S=some (x,LX,SX)∧impl_ShapeJoin.f 5000000 cs a L S a L S=some (a,L,S)∧laws_leShape.f 5000000 a L S a L S=some true∧(i1=true→i2=true→i3=true)):=by
 obtain ⟨x,LX,SX,hx⟩: ∃x LX SX,shJ cs a L S b L2 S2=(x,LX,SX):=⟨_,_,_,rfl⟩;obtain ⟨l1,l2⟩:=shJ_len hx;obtain ⟨n1,n2⟩:=shape_law (c:=c) (L3:=L3) (S3:=S3) hx;have e:=ShapeJoin_eq hf (a:=a) (b:=b) (L:=L) (S:=S) (L2:=L2) (S2:=S2) (by omega) (by omega) (by omega) (by omega) 5000000 (by omega);have q:(if (csOk cs&&fitB cs a L S b L2 S2)=true then joinR cs L S L2 S2 else (false,[],[]))=(x,LX,SX):=hx
 rw [q] at e;have io: ∀{a b:Bool} {L S L2 S2:List Int},L.length≤60→S.length≤60→L2.length≤60→S2.length≤60→impl_ShapeIn.f 5000000 cs a L S b L2 S2=some (shIn cs a L S b L2 S2):=fun h1 h2 h3 h4=>ShapeIn_eq (by omega) (by omega) (by omega) (by omega) 5000000 (by omega)
 refine ⟨x,LX,SX,_,_,_,e.1,e.2,leShape_self x LX SX (by omega) (by omega) _ (by omega),io hL hS hL3 hS3,io hL2 hS2 hL3 hS3,io (by omega) (by omega) hL3 hS3,fun h1 h2=>?_,fun h1=>?_⟩
 ·have := n1 h1
  rw [h2,Bool.true_and] at this;exact this
 ·obtain ⟨m1, m2, m3, m4, m5⟩ := n2 h1
  have e3:=(ShapeJoin_eq hf (a:=b) (b:=a) (L:=L2) (S:=S2) (L2:=L) (S2:=S) (by omega) (by omega) (by omega) (by omega) 5000000 (by omega)).1;have e4:=(ShapeJoin_eq hf (a:=a) (b:=a) (L:=L) (S:=S) (L2:=L) (S2:=S) (by omega) (by omega) (by omega) (by omega) 5000000 (by omega)).1;have q3:(if (csOk cs&&fitB cs b L2 S2 a L S)=true then joinR cs L2 S2 L S else (false,[],[]))=(x,LX,SX):=m3
  have q4:(if (csOk cs&&fitB cs a L S a L S)=true then joinR cs L S L S else (false,[],[]))=(a,L,S):=m4
  rw [q3] at e3;rw [q4] at e4;refine ⟨?_,?_,e3,e4,leShape_self a L S (by omega) (by omega) _ (by omega),m5⟩
  ·rw [io hL hS (by omega) (by omega),m1]
  ·rw [io hL2 hS2 (by omega) (by omega),m2]
theorem fewF_few {cs:Cs} (h: ∀x∈cs,x.f1.length≤3):fewF cs:=by
 intro i;unfold flds rd_T48;by_cases c:i.toNat<cs.length
 ·rw [List.getD_eq_getElem?_getD, List.getElem?_eq_getElem c]
  have:=h _ (List.getElem_mem c)
  simp only [Option.getD_some]
  omega
 ·rw [List.getD_eq_getElem?_getD, List.getElem?_eq_none (by omega)]
  simp only [Option.getD_none]
  exact Nat.zero_le _
end Go.Proofs.Ytehefmgplkolaaa.Pure
