import Derived.Test.YtnlieahdakafbaaPa24
import Derived.Test.YtnlieahdakafbaaPa32
import Derived.Test.YtnlieahdakafbaaPa35
import Derived.Test.YtnlieahdakafbaaPa26
import Derived.Test.YtnlieahdakafbaaPa30
import Derived.Test.YtnlieahdakafbaaPa31
import Derived.Test.YtnlieahdakafbaaPa27
import Derived.Test.YtnlieahdakafbaaPa25
import Derived.Test.YtnlieahdakafbaaPa33
import Derived.Test.YtnlieahdakafbaaPa34
namespace Go.Proofs.Ytnlieahdakafbaa.K
open Go.RowKit Go.Proofs.YtnlieahdakafbaaW.PrintWords Go.Proofs.YtnlieahdakafbaaW.PrintLast Go.Proofs.YtnlieahdakafbaaW.PrintMore
attribute [local go_sem] max2_int min2_int max_two min_two max_three min_three max_four min_four
set_option linter.unusedVariables false
set_option linter.unusedSimpArgs false
def spec_l21Copy.f (l0_0:List Int) (a0_1:Int) (a0_2:Int) (a0_3:Int) (l0_4:List Bool):Option (List Int×Int×Int×Int×List Bool):=(some (([]:List Int):List Int)).bind fun y366=>(if y366.length+l0_0.length<17592186044416 then ((some (([]:List Bool):List Bool)).bind fun y372=>(if y372.length+l0_4.length<140737488355328 then (some ((y366++l0_0),a0_1,a0_2,a0_3,(y372++l0_4))) else (none))) else (none))
set_option maxHeartbeats 8000000 in
set_option maxRecDepth 100000 in
theorem spec_l21Copy.calls (A0_0:Option Addr) (c0_0:Nat) (l0_0:List Int) (a0_1:Int) (a0_2:Int) (a0_3:Int) (A0_4:Option Addr) (c0_4:Nat) (l0_4:List Bool) (r1:List Int) (r2:Int) (r3:Int) (r4:Int) (r5:List Bool) (w:World) (hr0_0:Kd.C (Kd.int .i64) w A0_0 l0_0.length l0_0) (hc0_0:l0_0.length≤c0_0) (hr0_4:Kd.C Kd.bool w A0_4 l0_4.length l0_4) (hc0_4:l0_4.length≤c0_4) (h:spec_l21Copy.f l0_0 a0_1 a0_2 a0_3 l0_4=some (r1,r2,r3,r4,r5)):
  Calls Try.prog 45 #[.agg #[.slice A0_0 l0_0.length c0_0,.int .i64 a0_1,.int .i64 a0_2,.int .i64 a0_3,.slice A0_4 l0_4.length c0_4]] w fun e w'=> ∃v0_ v4_:Value,e= .returned (.agg #[v0_,.int .i64 r2,.int .i64 r3,.int .i64 r4,v4_])∧Kd.R (Kd.int .i64) 3 w' w.heap.size (fun _=>True) v0_ r1∧Kd.R Kd.bool 4 w' w.heap.size (fun _=>True) v4_ r5∧Below w.heap.size w w':=by
 have hu27:=Try.underlying27;have HR0_0:=aK hr0_0;have HC0_0:=aK hc0_0;clear hr0_0 hc0_0;have HR0_4:=aK hr0_4;have HC0_4:=aK hc0_4;clear hr0_4 hc0_4;have HB:=aK (Below.refl w.heap.size w);have H:((some (([]:List Int):List Int)).bind fun y366=>(if y366.length+l0_0.length<17592186044416 then ((some (([]:List Bool):List Bool)).bind fun y372=>(if y372.length+l0_4.length<140737488355328 then (some ((y366++l0_0),a0_1,a0_2,a0_3,(y372++l0_4))) else (none))) else (none)))=some (r1,r2,r3,r4,r5):=h
 clear h;obtain ⟨y366,hy366⟩: ∃y_:List Int,y_=(([]:List Int)):=⟨_,rfl⟩;replace H:(if y366.length+l0_0.length<17592186044416 then ((some (([]:List Bool):List Bool)).bind fun y372=>(if y372.length+l0_4.length<140737488355328 then (some ((y366++l0_0),a0_1,a0_2,a0_3,(y372++l0_4))) else (none))) else (none))=some (r1,r2,r3,r4,r5):=by first|(rw [hy366];with_reducible exact H)|(have H2_:=(Option.bind_some _ _).symm.trans H;rw [hy366];with_reducible exact H2_)|(have H2_:=(Option.bind_some _ _).symm.trans H;with_reducible exact H2_)|with_reducible exact H|(rw [hy366];exact H)|exact H
 have Ny366:=aK hy366;clear hy366;by_cases c2:y366.length+l0_0.length<17592186044416
 ·rw [if_pos c2] at H
  have LMc2:=aK c2;clear c2;obtain ⟨y369,hy369⟩: ∃y_:List Int,y_=(y366++l0_0):=⟨_,rfl⟩;replace H:((some (([]:List Bool):List Bool)).bind fun y372=>(if y372.length+l0_4.length<140737488355328 then (some (y369,a0_1,a0_2,a0_3,(y372++l0_4))) else (none)))=some (r1,r2,r3,r4,r5):=by first|(rw [hy369];with_reducible exact H)|(have H2_:=(Option.bind_some _ _).symm.trans H;rw [hy369];with_reducible exact H2_)|(have H2_:=(Option.bind_some _ _).symm.trans H;with_reducible exact H2_)|with_reducible exact H|(rw [hy369];exact H)|exact H
  have Ny369:=aK hy369;clear hy369;obtain ⟨y372,hy372⟩: ∃y_:List Bool,y_=(([]:List Bool)):=⟨_,rfl⟩;replace H:(if y372.length+l0_4.length<140737488355328 then (some (y369,a0_1,a0_2,a0_3,(y372++l0_4))) else (none))=some (r1,r2,r3,r4,r5):=by first|(rw [hy372];with_reducible exact H)|(have H2_:=(Option.bind_some _ _).symm.trans H;rw [hy372];with_reducible exact H2_)|(have H2_:=(Option.bind_some _ _).symm.trans H;with_reducible exact H2_)|with_reducible exact H|(rw [hy372];exact H)|exact H
  have Ny372:=aK hy372;clear hy372;by_cases c3:y372.length+l0_4.length<140737488355328
  ·rw [if_pos c3] at H
   have LMc3:=aK c3;clear c3;obtain ⟨y375,hy375⟩: ∃y_:List Bool,y_=(y372++l0_4):=⟨_,rfl⟩;replace H:(some (y369,a0_1,a0_2,a0_3,y375))=some (r1,r2,r3,r4,r5):=by first|(rw [hy375];with_reducible exact H)|(have H2_:=(Option.bind_some _ _).symm.trans H;rw [hy375];with_reducible exact H2_)|(have H2_:=(Option.bind_some _ _).symm.trans H;with_reducible exact H2_)|with_reducible exact H|(rw [hy375];exact H)|exact H
   have Ny375:=aK hy375;clear hy375;simp only [Option.some.injEq,Prod.mk.injEq] at H;obtain ⟨rfl,rfl,rfl,rfl,rfl⟩:=H;go_enter Try.func45,Try.ntmps45
   go_wp2_with (first|((with_reducible refine gate_dst (N:=1) rfl ?_);refine box_event ?hg (N:=1) ?hd (cs:= #[.slice A0_0 l0_0.length c0_0,.int .i64 a0_1,.int .i64 a0_2,.int .i64 a0_3,.slice A0_4 l0_4.length c0_4]) (t:=27) ?hr ?_;(case hd=>rfl);(case hg=>rfl);(case hr=>first|(go_simp;done)|(go_simp;rfl));intro gb363 hg w4 hbox hb;have BK363:=aK (hbox);have GW363:=aK ((by rw [hg];exact (below_size z1):w.heap.size≤gb363));have GE363:=aK ((by rw [hg];exact (below_size z1):w.heap.size≤gb363));replace HB:=aK (below_step z1 hb);clear hb hbox hg)|((with_reducible refine gate_dst (N:=2) rfl ?_);refine box_event ?hg (N:=2) ?hd (cs:= #[.slice none 0 0,.int .i64 0,.int .i64 0,.int .i64 0,.slice none 0 0]) (t:=27) ?hr ?_;(case hd=>rfl);(case hg=>rfl);(case hr=>first|(go_simp;done)|(go_simp;rfl));intro gb364 hg w5 hbox hb;have BK364:=aK (hbox);have GW364:=aK ((by rw [hg];exact (below_size (by repeat (first|(with_reducible first|exact HB.out|apply below_alloc|apply pw_below_drewN|apply below_drew1|refine below_set ?_ GE363.out)|exact HB.out))):w.heap.size≤gb364));have GE364:=aK ((by rw [hg];exact (below_size (by repeat (first|(with_reducible first|exact HB.out|apply below_alloc|apply pw_below_drewN|apply below_drew1|refine below_set ?_ GE363.out)|exact HB.out))):w.heap.size≤gb364));have NB363_364:=aK ((by rw [hg];exact Nat.ne_of_lt (blk_lt (g:=gb363) (o:= .cells #[.slice A0_0 l0_0.length c0_0,.int .i64 a0_1,.int .i64 a0_2,.int .i64 a0_3,.slice A0_4 l0_4.length c0_4] 27 (0,0)) z31):gb363≠gb364));have NB364_363:=aK ((by rw [hg];exact Nat.ne_of_gt (blk_lt (g:=gb363) (o:= .cells #[.slice A0_0 l0_0.length c0_0,.int .i64 a0_1,.int .i64 a0_2,.int .i64 a0_3,.slice A0_4 l0_4.length c0_4] 27 (0,0)) z31):gb364≠gb363));replace BK363:=aK (blk_below (g:=gb363) (o:= .cells #[.slice A0_0 l0_0.length c0_0,.int .i64 a0_1,.int .i64 a0_2,.int .i64 a0_3,.slice A0_4 l0_4.length c0_4] 27 (0,0)) z31 hb);replace HB:=aK (below_step (by repeat (first|(with_reducible first|exact HB.out|apply below_alloc|apply pw_below_drewN|apply below_drew1|refine below_set ?_ GE363.out)|exact HB.out)) hb);clear hb hbox hg;have hnb6:=NB363_364.out;have hnc6:=NB364_363.out;obtain ⟨hcz7_0,hcz7_1,hcz7_2,hcz7_3,hcz7_4,hfz7_0,hfz7_1,hfz7_2,hfz7_3,hfz7_4⟩:=cbf5 BK363)|((with_reducible refine gate_dst (N:=3) rfl ?_);refine box_event ?hg (N:=3) ?hd (cs:= #[.slice none 0 0,.int .i64 0,.int .i64 0,.int .i64 0,.slice none 0 0]) (t:=27) ?hr ?_;(case hd=>rfl);(case hg=>rfl);(case hr=>first|(go_simp;done)|(go_simp;rfl));intro gb365 hg w8 hbox hb;have BK365:=aK (hbox);have GW365:=aK ((by rw [hg];exact (below_size z52):w.heap.size≤gb365));have GE365:=aK ((by rw [hg];exact (below_size z52):w.heap.size≤gb365));have NB363_365:=aK ((by rw [hg];exact Nat.ne_of_lt (blk_lt (g:=gb363) (o:= .cells #[.slice A0_0 l0_0.length c0_0,.int .i64 a0_1,.int .i64 a0_2,.int .i64 a0_3,.slice A0_4 l0_4.length c0_4] 27 (0,0)) z31):gb363≠gb365));have NB365_363:=aK ((by rw [hg];exact Nat.ne_of_gt (blk_lt (g:=gb363) (o:= .cells #[.slice A0_0 l0_0.length c0_0,.int .i64 a0_1,.int .i64 a0_2,.int .i64 a0_3,.slice A0_4 l0_4.length c0_4] 27 (0,0)) z31):gb365≠gb363));have NB364_365:=aK ((by rw [hg];exact Nat.ne_of_lt (blk_lt (g:=gb364) (o:= .cells #[.slice none 0 0,.int .i64 0,.int .i64 0,.int .i64 0,.slice none 0 0] 27 (0,0)) z44):gb364≠gb365));have NB365_364:=aK ((by rw [hg];exact Nat.ne_of_gt (blk_lt (g:=gb364) (o:= .cells #[.slice none 0 0,.int .i64 0,.int .i64 0,.int .i64 0,.slice none 0 0] 27 (0,0)) z44):gb365≠gb364));replace BK363:=aK (blk_below (g:=gb363) (o:= .cells #[.slice A0_0 l0_0.length c0_0,.int .i64 a0_1,.int .i64 a0_2,.int .i64 a0_3,.slice A0_4 l0_4.length c0_4] 27 (0,0)) z31 hb);replace BK364:=aK (blk_below (g:=gb364) (o:= .cells #[.slice none 0 0,.int .i64 0,.int .i64 0,.int .i64 0,.slice none 0 0] 27 (0,0)) z44 hb);replace HB:=aK (below_step z52 hb);clear hb hbox hg;have hnb9:=NB365_363.out;have hnc9:=NB363_365.out;have hnb10:=NB365_364.out;have hnc10:=NB364_365.out;obtain ⟨hcz11_0,hcz11_1,hcz11_2,hcz11_3,hcz11_4,hfz11_0,hfz11_1,hfz11_2,hfz11_3,hfz11_4⟩:=cbf5 BK365)|((with_reducible refine gate_dst (N:=5) rfl ?_);refine Kd.R_lit (Kd.int .i64) _ 3 ?hg (N:=5) ?hd (xs:=([]:List Int)) (inner:=[]) (ok:=fun _=>True) (okp:=fun _=>True) ?hr ?hp (fun _ hk=>hk) trivial (Below.refl _ _) (Nat.le_refl _) (by simp) ?_;(case hd=>rfl);(case hg=>rfl);(case hr=>first|(go_simp;done)|(go_simp;rfl));(case hp=>exact (Reps.none _ _));intro v367 w12 ho13 hb hg_ hnew_;clear hg_ hnew_;(first|rw [←Ny366.out] at ho13|(simp only [Int.reduceToNat] at ho13;rw [←Ny366.out] at ho13));have HO368:=aK (Kd.R_lower ho13 (below_size z17));replace BK363:=aK (blk_below (g:=gb363) (o:= .cells #[.slice A0_0 l0_0.length c0_0,.int .i64 a0_1,.int .i64 a0_2,.int .i64 a0_3,.slice A0_4 l0_4.length c0_4] 27 (0,0)) (by (with_reducible repeat (first|refine blk_drewN ?_ _|refine blk_drew ?_|refine blk_alloc ?_ _));refine blk_far ?_ NB363_365.out _;(with_reducible repeat (first|refine blk_drewN ?_ _|refine blk_drew ?_|refine blk_alloc ?_ _));refine blk_far ?_ NB363_365.out _;(with_reducible repeat (first|refine blk_drewN ?_ _|refine blk_drew ?_|refine blk_alloc ?_ _));refine blk_far ?_ NB363_365.out _;(with_reducible repeat (first|refine blk_drewN ?_ _|refine blk_drew ?_|refine blk_alloc ?_ _));refine blk_far ?_ NB363_365.out _;(with_reducible repeat (first|refine blk_drewN ?_ _|refine blk_drew ?_|refine blk_alloc ?_ _));refine blk_far ?_ NB363_365.out _;(with_reducible repeat (first|refine blk_drewN ?_ _|refine blk_drew ?_|refine blk_alloc ?_ _));exact BK363.out) hb);replace BK364:=aK (blk_below (g:=gb364) (o:= .cells #[.slice none 0 0,.int .i64 0,.int .i64 0,.int .i64 0,.slice none 0 0] 27 (0,0)) (by (with_reducible repeat (first|refine blk_drewN ?_ _|refine blk_drew ?_|refine blk_alloc ?_ _));refine blk_far ?_ NB364_365.out _;(with_reducible repeat (first|refine blk_drewN ?_ _|refine blk_drew ?_|refine blk_alloc ?_ _));refine blk_far ?_ NB364_365.out _;(with_reducible repeat (first|refine blk_drewN ?_ _|refine blk_drew ?_|refine blk_alloc ?_ _));refine blk_far ?_ NB364_365.out _;(with_reducible repeat (first|refine blk_drewN ?_ _|refine blk_drew ?_|refine blk_alloc ?_ _));refine blk_far ?_ NB364_365.out _;(with_reducible repeat (first|refine blk_drewN ?_ _|refine blk_drew ?_|refine blk_alloc ?_ _));refine blk_far ?_ NB364_365.out _;(with_reducible repeat (first|refine blk_drewN ?_ _|refine blk_drew ?_|refine blk_alloc ?_ _));exact BK364.out) hb);replace BK365:=aK (blk_below (g:=gb365) (o:= .cells #[.slice A0_0 l0_0.length c0_0,.int .i64 a0_1,.int .i64 a0_2,.int .i64 a0_3,.slice A0_4 l0_4.length c0_4] 27 (0,0)) (by (with_reducible repeat (first|refine blk_drewN ?_ _|refine blk_drew ?_|refine blk_alloc ?_ _));refine blk_put (cs:= #[.slice A0_0 l0_0.length c0_0,.int .i64 a0_1,.int .i64 a0_2,.int .i64 a0_3,.slice none 0 0]) ?_ 4 _ rfl;(with_reducible repeat (first|refine blk_drewN ?_ _|refine blk_drew ?_|refine blk_alloc ?_ _));refine blk_put (cs:= #[.slice A0_0 l0_0.length c0_0,.int .i64 a0_1,.int .i64 a0_2,.int .i64 0,.slice none 0 0]) ?_ 3 _ rfl;(with_reducible repeat (first|refine blk_drewN ?_ _|refine blk_drew ?_|refine blk_alloc ?_ _));refine blk_put (cs:= #[.slice A0_0 l0_0.length c0_0,.int .i64 a0_1,.int .i64 0,.int .i64 0,.slice none 0 0]) ?_ 2 _ rfl;(with_reducible repeat (first|refine blk_drewN ?_ _|refine blk_drew ?_|refine blk_alloc ?_ _));refine blk_put (cs:= #[.slice A0_0 l0_0.length c0_0,.int .i64 0,.int .i64 0,.int .i64 0,.slice none 0 0]) ?_ 1 _ rfl;(with_reducible repeat (first|refine blk_drewN ?_ _|refine blk_drew ?_|refine blk_alloc ?_ _));refine blk_put (cs:= #[.slice none 0 0,.int .i64 0,.int .i64 0,.int .i64 0,.slice none 0 0]) ?_ 0 _ rfl;(with_reducible repeat (first|refine blk_drewN ?_ _|refine blk_drew ?_|refine blk_alloc ?_ _));exact BK365.out) hb);replace HB:=aK (below_step z17 hb);clear hb ho13;obtain ⟨hcz14_0,hcz14_1,hcz14_2,hcz14_3,hcz14_4,hfz14_0,hfz14_1,hfz14_2,hfz14_3,hfz14_4⟩:=cbf5 BK363)|((with_reducible refine gate_builtin (b:= .append) (xs:= #[.tmp 5,.tmp 7]) rfl ?_);at_builtin;refine Kd.R_append_rows (Kd.int .i64) (w0:=w) w.heap.size rfl (.tmp 5) (.tmp 7) 24 3 (.int .i64 0) 8 rfl Try.underlying24 info3 rfl (by decide) (by omega) v367 y366 l0_0 _ _ _ (fun _=>True) (fun _=>False) rfl rfl ?aO ?aR (fun _ _ h=>h) (fun _ h=>h.elim) ?aF ?aB ?aS ?aL ?_;(case aR=>repeat (first|exact (Kd.C_below HR0_0.out HB.out)|(with_reducible refine Kd.C_alloc ?_ _)|(with_reducible refine Kd.C_drewN ?_ _)|(with_reducible refine Kd.C_drew ?_)));(case aB=>exact z17);(case aF=>exact (fun _ _=>trivial));(case aO=>exact (by (with_reducible repeat (first|apply Kd.R_alloc|apply Kd.R_drewN|apply Kd.R_drew));exact HO368.out));(case aS=>exact (below_size z17));(case aL=>have:=LMc2.out;omega);intro v370 w15 ho hb hg hat;rw [←Ny369.out] at ho;have n0_:=aK (blk_grown (g:=gb363) (o:= .cells #[.slice A0_0 l0_0.length c0_0,.int .i64 a0_1,.int .i64 a0_2,.int .i64 a0_3,.slice A0_4 l0_4.length c0_4] 27 (0,0)) z31 hg (Kd.R_ne HO368.out BK363.out (by decide)));have n1_:=aK (blk_grown (g:=gb364) (o:= .cells #[.slice none 0 0,.int .i64 0,.int .i64 0,.int .i64 0,.slice none 0 0] 27 (0,0)) z44 hg (Kd.R_ne HO368.out BK364.out (by decide)));have n2_:=aK (blk_grown (g:=gb365) (o:= .cells #[.slice A0_0 l0_0.length c0_0,.int .i64 a0_1,.int .i64 a0_2,.int .i64 a0_3,.slice A0_4 l0_4.length c0_4] 27 (0,0)) (by (with_reducible repeat (first|refine blk_drewN ?_ _|refine blk_drew ?_|refine blk_alloc ?_ _));exact BK365.out) hg (Kd.R_ne HO368.out BK365.out (by decide)));have n3_:=aK (hb);have n4_:=aK (ho);clear BK363;clear BK364;clear BK365;clear HB;clear HO368;have BK363:=n0_;have BK364:=n1_;have BK365:=n2_;have HB:=n3_;have HO371:=n4_;clear n0_ n1_ n2_ n3_ n4_;clear ho hb hg hat;obtain ⟨Ao16,co16,eo16⟩:=Kd.R_slice HO371.out;subst eo16;obtain ⟨hcz17_0,hcz17_1,hcz17_2,hcz17_3,hcz17_4,hfz17_0,hfz17_1,hfz17_2,hfz17_3,hfz17_4⟩:=cbf5 BK365)|((with_reducible refine gate_dst (N:=10) rfl ?_);refine Kd.R_lit Kd.bool _ 4 ?hg (N:=10) ?hd (xs:=([]:List Bool)) (inner:=[]) (ok:=fun _=>True) (okp:=fun _=>True) ?hr ?hp (fun _ hk=>hk) trivial (Below.refl _ _) (Nat.le_refl _) (by simp) ?_;(case hd=>rfl);(case hg=>rfl);(case hr=>first|(go_simp;done)|(go_simp;rfl));(case hp=>exact (Reps.none _ _));intro v373 w18 ho19 hb hg_ hnew_;clear hg_ hnew_;(first|rw [←Ny372.out] at ho19|(simp only [Int.reduceToNat] at ho19;rw [←Ny372.out] at ho19));have HO374:=aK (Kd.R_lower ho19 (below_size z17));replace HO371:=aK (Kd.R_below (by (with_reducible repeat (first|apply Kd.R_alloc|apply Kd.R_drewN|apply Kd.R_drew));exact (Kd.R_mono (Kd.R_far (p:=⟨gb365,0,none⟩) (Kd.R_types HO371.out BK365.out (by decide)) (fun _ hk=>hk.2) (.slice Ao16 y369.length co16)) (fun _ h_=>h_.1))) hb);replace BK363:=aK (blk_below (g:=gb363) (o:= .cells #[.slice A0_0 l0_0.length c0_0,.int .i64 a0_1,.int .i64 a0_2,.int .i64 a0_3,.slice A0_4 l0_4.length c0_4] 27 (0,0)) (by (with_reducible repeat (first|refine blk_drewN ?_ _|refine blk_drew ?_|refine blk_alloc ?_ _));refine blk_far ?_ NB363_365.out _;(with_reducible repeat (first|refine blk_drewN ?_ _|refine blk_drew ?_|refine blk_alloc ?_ _));exact BK363.out) hb);replace BK364:=aK (blk_below (g:=gb364) (o:= .cells #[.slice none 0 0,.int .i64 0,.int .i64 0,.int .i64 0,.slice none 0 0] 27 (0,0)) (by (with_reducible repeat (first|refine blk_drewN ?_ _|refine blk_drew ?_|refine blk_alloc ?_ _));refine blk_far ?_ NB364_365.out _;(with_reducible repeat (first|refine blk_drewN ?_ _|refine blk_drew ?_|refine blk_alloc ?_ _));exact BK364.out) hb);replace BK365:=aK (blk_below (g:=gb365) (o:= .cells #[.slice Ao16 y369.length co16,.int .i64 a0_1,.int .i64 a0_2,.int .i64 a0_3,.slice A0_4 l0_4.length c0_4] 27 (0,0)) (by (with_reducible repeat (first|refine blk_drewN ?_ _|refine blk_drew ?_|refine blk_alloc ?_ _));refine blk_put (cs:= #[.slice A0_0 l0_0.length c0_0,.int .i64 a0_1,.int .i64 a0_2,.int .i64 a0_3,.slice A0_4 l0_4.length c0_4]) ?_ 0 _ rfl;(with_reducible repeat (first|refine blk_drewN ?_ _|refine blk_drew ?_|refine blk_alloc ?_ _));exact BK365.out) hb);replace HB:=aK (below_step z17 hb);clear hb ho19;obtain ⟨hcz20_0,hcz20_1,hcz20_2,hcz20_3,hcz20_4,hfz20_0,hfz20_1,hfz20_2,hfz20_3,hfz20_4⟩:=cbf5 BK363)|((with_reducible refine gate_builtin (b:= .append) (xs:= #[.tmp 10,.tmp 12]) rfl ?_);at_builtin;refine Kd.R_append_rows Kd.bool (w0:=w) w.heap.size rfl (.tmp 10) (.tmp 12) 25 4 (.bool false) 1 rfl Try.underlying25 info4 rfl (by decide) (by omega) v373 y372 l0_4 _ _ _ (fun _=>True) (fun _=>False) rfl rfl ?aO ?aR (fun _ _ h=>h) (fun _ h=>h.elim) ?aF ?aB ?aS ?aL ?_;(case aR=>repeat (first|exact (Kd.C_below HR0_4.out HB.out)|(with_reducible refine Kd.C_alloc ?_ _)|(with_reducible refine Kd.C_drewN ?_ _)|(with_reducible refine Kd.C_drew ?_)));(case aB=>exact z17);(case aF=>exact (fun _ _=>trivial));(case aO=>exact (by (with_reducible repeat (first|apply Kd.R_alloc|apply Kd.R_drewN|apply Kd.R_drew));exact HO374.out));(case aS=>exact (below_size z17));(case aL=>have:=LMc3.out;omega);intro v376 w21 ho hb hg hat;rw [←Ny375.out] at ho;have n0_:=aK (blk_grown (g:=gb363) (o:= .cells #[.slice A0_0 l0_0.length c0_0,.int .i64 a0_1,.int .i64 a0_2,.int .i64 a0_3,.slice A0_4 l0_4.length c0_4] 27 (0,0)) z31 hg (Kd.R_ne HO374.out BK363.out (by decide)));have n1_:=aK (blk_grown (g:=gb364) (o:= .cells #[.slice none 0 0,.int .i64 0,.int .i64 0,.int .i64 0,.slice none 0 0] 27 (0,0)) z44 hg (Kd.R_ne HO374.out BK364.out (by decide)));have n2_:=aK (blk_grown (g:=gb365) (o:= .cells #[.slice Ao16 y369.length co16,.int .i64 a0_1,.int .i64 a0_2,.int .i64 a0_3,.slice A0_4 l0_4.length c0_4] 27 (0,0)) (by (with_reducible repeat (first|refine blk_drewN ?_ _|refine blk_drew ?_|refine blk_alloc ?_ _));exact BK365.out) hg (Kd.R_ne HO374.out BK365.out (by decide)));have n3_:=aK (Kd.R_over' (by (with_reducible repeat (first|apply Kd.R_alloc|apply Kd.R_drewN|apply Kd.R_drew));exact HO371.out) (Kd.R_typed (by (with_reducible repeat (first|apply Kd.R_alloc|apply Kd.R_drewN|apply Kd.R_drew));exact HO374.out)) (by decide) hg);have n4_:=aK (hb);have n5_:=aK (ho);clear BK363;clear BK364;clear BK365;clear HO371;clear HB;clear HO374;have BK363:=n0_;have BK364:=n1_;have BK365:=n2_;have HO371:=n3_;have HB:=n4_;have HO377:=n5_;clear n0_ n1_ n2_ n3_ n4_ n5_;clear ho hb hg hat;obtain ⟨Ao22,co22,eo22⟩:=Kd.R_slice HO377.out;subst eo22;obtain ⟨hcz23_0,hcz23_1,hcz23_2,hcz23_3,hcz23_4,hfz23_0,hfz23_1,hfz23_2,hfz23_3,hfz23_4⟩:=cbf5 BK365;obtain ⟨hcz24_0,hcz24_1,hcz24_2,hcz24_3,hcz24_4,hfz24_0,hfz24_1,hfz24_2,hfz24_3,hfz24_4⟩:=cbf5 BK364))
   refine bodyPost_ret (results_cell_row rfl _ _ gb364 27 #[.slice Ao16 y369.length co16,.int .i64 a0_1,.int .i64 a0_2,.int .i64 a0_3,.slice Ao22 y375.length co22] (0,0) _ rfl (by (with_reducible repeat (first|refine blk_drewN ?_ _|refine blk_drew ?_|refine blk_alloc ?_ _));refine blk_put (cs:= #[.slice Ao16 y369.length co16,.int .i64 a0_1,.int .i64 a0_2,.int .i64 a0_3,.slice none 0 0]) ?_ 4 _ rfl;(with_reducible repeat (first|refine blk_drewN ?_ _|refine blk_drew ?_|refine blk_alloc ?_ _));refine blk_put (cs:= #[.slice Ao16 y369.length co16,.int .i64 a0_1,.int .i64 a0_2,.int .i64 0,.slice none 0 0]) ?_ 3 _ rfl;(with_reducible repeat (first|refine blk_drewN ?_ _|refine blk_drew ?_|refine blk_alloc ?_ _));refine blk_put (cs:= #[.slice Ao16 y369.length co16,.int .i64 a0_1,.int .i64 0,.int .i64 0,.slice none 0 0]) ?_ 2 _ rfl;(with_reducible repeat (first|refine blk_drewN ?_ _|refine blk_drew ?_|refine blk_alloc ?_ _));refine blk_put (cs:= #[.slice Ao16 y369.length co16,.int .i64 0,.int .i64 0,.int .i64 0,.slice none 0 0]) ?_ 1 _ rfl;(with_reducible repeat (first|refine blk_drewN ?_ _|refine blk_drew ?_|refine blk_alloc ?_ _));refine blk_put (cs:= #[.slice none 0 0,.int .i64 0,.int .i64 0,.int .i64 0,.slice none 0 0]) ?_ 0 _ rfl;(with_reducible repeat (first|refine blk_drewN ?_ _|refine blk_drew ?_|refine blk_alloc ?_ _));refine blk_far ?_ NB364_365.out _;(with_reducible repeat (first|refine blk_drewN ?_ _|refine blk_drew ?_|refine blk_alloc ?_ _));exact BK364.out) Try.underlying27 rfl (by kernel_rfl)) rfl ?_;exact ⟨_,_,by first|rfl|(simp [errW_none,errW_some]<;>rfl)|(simp [*,errW_none,errW_some]<;>rfl),by (with_reducible repeat (first|apply Kd.R_alloc|apply Kd.R_drewN|apply Kd.R_drew));exact Kd.R_mono (Kd.R_far (p:=⟨gb364,4,none⟩) (Kd.R_far (p:=⟨gb364,3,none⟩) (Kd.R_far (p:=⟨gb364,2,none⟩) (Kd.R_far (p:=⟨gb364,1,none⟩) (Kd.R_far (p:=⟨gb364,0,none⟩) (Kd.R_far (p:=⟨gb365,4,none⟩) (Kd.R_types (Kd.R_types HO371.out BK365.out (by decide)) BK364.out (by decide)) (fun _ hk=>hk.1.2) (.slice Ao22 y375.length co22)) (fun _ hk=>hk.2) (.slice Ao16 y369.length co16)) (fun _ hk=>hk.2) (.int .i64 a0_1)) (fun _ hk=>hk.2) (.int .i64 a0_2)) (fun _ hk=>hk.2) (.int .i64 a0_3)) (fun _ hk=>hk.2) (.slice Ao22 y375.length co22)) (fun _ hk=>trivial),by (with_reducible repeat (first|apply Kd.R_alloc|apply Kd.R_drewN|apply Kd.R_drew));exact Kd.R_mono (Kd.R_far (p:=⟨gb364,4,none⟩) (Kd.R_far (p:=⟨gb364,3,none⟩) (Kd.R_far (p:=⟨gb364,2,none⟩) (Kd.R_far (p:=⟨gb364,1,none⟩) (Kd.R_far (p:=⟨gb364,0,none⟩) (Kd.R_far (p:=⟨gb365,4,none⟩) (Kd.R_types (Kd.R_types HO377.out BK365.out (by decide)) BK364.out (by decide)) (fun _ hk=>hk.1.2) (.slice Ao22 y375.length co22)) (fun _ hk=>hk.2) (.slice Ao16 y369.length co16)) (fun _ hk=>hk.2) (.int .i64 a0_1)) (fun _ hk=>hk.2) (.int .i64 a0_2)) (fun _ hk=>hk.2) (.int .i64 a0_3)) (fun _ hk=>hk.2) (.slice Ao22 y375.length co22)) (fun _ hk=>trivial),by repeat (first|(with_reducible first|exact HB.out|apply below_alloc|apply pw_below_drewN|apply below_drew1|refine below_set ?_ GE363.out|refine below_set ?_ GE364.out|refine below_set ?_ GE365.out)|exact HB.out)⟩
  ·rw [if_neg c3] at H
   exact absurd H (by simp)
 ·rw [if_neg c2] at H
  exact absurd H (by simp)
def sput_end (k:Nat) (ok:Bool) (m_0:List Int) (y t o:Int) (m_4:List Bool) (x v:Int) (ref:Bool):Option (List Int×Int×Int×Int×List Bool×Bool):=
  if ok=true then (spec_l21Copy.f m_0 y t o m_4).bind fun c=>(spec_l21Put.f c.1 c.2.1 c.2.2.1 c.2.2.2.1 c.2.2.2.2 x v ref).bind fun p=>some (p.1,p.2.1,p.2.2.1,p.2.2.2.1,p.2.2.2.2,true) else some ([],0,0,0,[],false)
def spec_MemPut.f (k:Nat) (l0:List (S112)) (l1_0:List Int) (a1_1:Int) (a1_2:Int) (a1_3:Int) (l1_4:List Bool) (a2 a3 a4:Int):Option (List Int×Int×Int×Int×List Bool×Bool):=
 (spec_MemOk.f k l0 l1_0 a1_1 a1_2 a1_3 l1_4).bind fun b => if b = true then (spec_l21Inside.f k l0 l1_0 a1_1 a1_2 a1_3 l1_4 a2 a3).bind fun i => if i.2 = true then (spec_l21Refs.f k l0 l1_0 (wrap64 (a2 - 1))).bind fun R =>
  if 0≤wrap64 (wrap64 (i.1 - a2)+1)∧wrap64 (wrap64 (i.1 - a2)+1)<(R.length:Int) then (spec_l21Walk.f k l0 l1_0 a1_1 a1_2 a1_3 l1_4).bind fun W=>
   if rdOf false R (wrap64 (wrap64 (i.1 - a2)+1))=true then (spec_l21Starts.f k (l1_0.length:Int) W.1).bind fun T=>(spec_l21Lead.f T a4).bind fun ld=>sput_end k ld l1_0 a1_1 a1_2 a1_3 l1_4 i.1 a4 true
   else (spec_l1Word.f a4).bind fun z=>sput_end k z l1_0 a1_1 a1_2 a1_3 l1_4 i.1 a4 false
  else none
 else some ([],0,0,0,[],false) else some ([],0,0,0,[],false)
theorem sput_zero {r1:List Int} {r2 r3 r4:Int} {r5:List Bool} {r6:Bool} (h:some (([]:List Int),(0:Int),(0:Int),(0:Int),([]:List Bool),false)=some (r1,r2,r3,r4,r5,r6)):[]=r1∧0=r2∧0=r3∧0=r4∧[]=r5∧false=r6:=by
  simpa only [Option.some.injEq,Prod.mk.injEq] using h
set_option maxHeartbeats 16000000 in
set_option maxRecDepth 100000 in
theorem spec_MemPut.calls (k:Nat) (A0:Option Addr) (c0:Nat) (l0:List (S112)) (A1_0:Option Addr) (c1_0:Nat) (l1_0:List Int) (a1_1:Int) (a1_2:Int) (a1_3:Int) (A1_4:Option Addr) (c1_4:Nat) (l1_4:List Bool) (a2 a3 a4:Int) (r1:List Int) (r2 r3 r4:Int) (r5:List Bool) (r6:Bool) (w:World) (hr0:Kd.C k112 w A0 l0.length l0) (hc0:l0.length≤c0) (hr1_0:Kd.C (Kd.int .i64) w A1_0 l1_0.length l1_0) (hc1_0:l1_0.length≤c1_0) (hr1_4:Kd.C Kd.bool w A1_4 l1_4.length l1_4) (hc1_4:l1_4.length≤c1_4) (h:spec_MemPut.f k l0 l1_0 a1_1 a1_2 a1_3 l1_4 a2 a3 a4=some (r1,r2,r3,r4,r5,r6)):
  Calls Try.prog 12 #[.slice A0 l0.length c0,.agg #[.slice A1_0 l1_0.length c1_0,.int .i64 a1_1,.int .i64 a1_2,.int .i64 a1_3,.slice A1_4 l1_4.length c1_4],.int .i64 a2,.int .i64 a3,.int .i64 a4] w fun e w'=> ∃v0_ v4_:Value,e= .returned (.tuple #[.agg #[v0_,.int .i64 r2,.int .i64 r3,.int .i64 r4,v4_],.bool r6])∧Kd.R (Kd.int .i64) 3 w' w.heap.size (fun _=>True) v0_ r1∧Kd.R Kd.bool 4 w' w.heap.size (fun _=>True) v4_ r5∧Below w.heap.size w w':=by
 unfold spec_MemPut.f at h;have HR0:=aK hr0;have HC0:=aK hc0;have HR1:=aK hr1_0;have HC1:=aK hc1_0;have HR4:=aK hr1_4;have HC4:=aK hc1_4;have HB:=aK (below_alloc (below_alloc (Below.refl w.heap.size w) (.cells #[.slice A1_0 l1_0.length c1_0,.int .i64 a1_1,.int .i64 a1_2,.int .i64 a1_3,.slice A1_4 l1_4.length c1_4] 27 (0,0))) (.cells #[.slice none 0 0,.int .i64 0,.int .i64 0,.int .i64 0,.slice none 0 0] 27 (0,0)));have BM:=aK (blk_alloc (blk_new w (.cells #[.slice A1_0 l1_0.length c1_0,.int .i64 a1_1,.int .i64 a1_2,.int .i64 a1_3,.slice A1_4 l1_4.length c1_4] 27 (0,0))) (.cells #[.slice none 0 0,.int .i64 0,.int .i64 0,.int .i64 0,.slice none 0 0] 27 (0,0)));have BR:=aK (alloc_two w (.cells #[.slice A1_0 l1_0.length c1_0,.int .i64 a1_1,.int .i64 a1_2,.int .i64 a1_3,.slice A1_4 l1_4.length c1_4] 27 (0,0)) (.cells #[.slice none 0 0,.int .i64 0,.int .i64 0,.int .i64 0,.slice none 0 0] 27 (0,0)));obtain ⟨b,h1,h⟩:=Option.bind_eq_some_iff.mp h;have H1:=aK h1;have HH:=aK h;clear hr0 hc0 hr1_0 hc1_0 hr1_4 hc1_4 h h1;go_enter Try.func12,Try.ntmps12
 go_wp2_with fail
 go_at_call 14;refine (spec_MemOk.calls k A0 c0 l0 A1_0 c1_0 l1_0 a1_1 a1_2 a1_3 A1_4 c1_4 l1_4 b _ (Kd.C_below HR0.out HB.out) HC0.out (Kd.C_below HR1.out HB.out) HC1.out (Kd.C_below HR4.out HB.out) HC4.out H1.out).mono ?_;rintro e w2 ⟨rfl,hb⟩;replace HB:=aK (below_step HB.out hb);replace BM:=aK (blk_below BM.out hb);replace BR:=aK (blk_below BR.out hb);clear hb
 cases b with
 |false=>
  have hz:=HH.out;obtain ⟨rfl,rfl,rfl,rfl,rfl,rfl⟩:=sput_zero hz;have z0:=(blk_cell BR.out 0).trans rfl;have z1:=(blk_cell BR.out 1).trans rfl;have z2:=(blk_cell BR.out 2).trans rfl;have z3:=(blk_cell BR.out 3).trans rfl;have z4:=(blk_cell BR.out 4).trans rfl;have y0:=blk_frozen BR.out 0;have y1:=blk_frozen BR.out 1;have y2:=blk_frozen BR.out 2;have y3:=blk_frozen BR.out 3;have y4:=blk_frozen BR.out 4;go_wp2;refine bodyPost_ret (results_ct rfl _ _ (w.heap.size+1) 27 #[.slice none 0 0,.int .i64 0,.int .i64 0,.int .i64 0,.slice none 0 0] (0,0) _ rfl (blk_box5 BR.out) Try.underlying27 rfl (by kernel_rfl)) rfl ?_;exact ⟨_,_,rfl,Kd.R_nil _ _ _ _ _,Kd.R_nil _ _ _ _ _,below_box5 HB.out (by omega)⟩
 | true =>
  have hh:=HH.out;clear HH;rw [if_pos rfl] at hh;obtain ⟨⟨x,i2⟩,h2,hh⟩:=Option.bind_eq_some_iff.mp hh;have H2:=aK h2;have HH:=aK hh;clear h2 hh;have m0:=(blk_cell BM.out 0).trans rfl;have m1:=(blk_cell BM.out 1).trans rfl;have m2:=(blk_cell BM.out 2).trans rfl;have m3:=(blk_cell BM.out 3).trans rfl;have m4:=(blk_cell BM.out 4).trans rfl
  go_wp2_with fail
  go_at_call 38;refine (spec_l21Inside.calls k A0 c0 l0 A1_0 c1_0 l1_0 a1_1 a1_2 a1_3 A1_4 c1_4 l1_4 a2 a3 x i2 _ (Kd.C_below HR0.out HB.out) HC0.out (Kd.C_below HR1.out HB.out) HC1.out (Kd.C_below HR4.out HB.out) HC4.out H2.out).mono ?_;rintro e w2 ⟨rfl,hb⟩;clear m0 m1 m2 m3 m4;replace HB:=aK (below_step HB.out hb);replace BM:=aK (blk_below BM.out hb);replace BR:=aK (blk_below BR.out hb);clear hb
  cases i2 with
  |false=>
   have hz:=HH.out;obtain ⟨rfl,rfl,rfl,rfl,rfl,rfl⟩:=sput_zero hz;have z0:=(blk_cell BR.out 0).trans rfl;have z1:=(blk_cell BR.out 1).trans rfl;have z2:=(blk_cell BR.out 2).trans rfl;have z3:=(blk_cell BR.out 3).trans rfl;have z4:=(blk_cell BR.out 4).trans rfl;have y0:=blk_frozen BR.out 0;have y1:=blk_frozen BR.out 1;have y2:=blk_frozen BR.out 2;have y3:=blk_frozen BR.out 3;have y4:=blk_frozen BR.out 4;go_wp2;refine bodyPost_ret (results_ct rfl _ _ (w.heap.size+1) 27 #[.slice none 0 0,.int .i64 0,.int .i64 0,.int .i64 0,.slice none 0 0] (0,0) _ rfl (blk_box5 BR.out) Try.underlying27 rfl (by kernel_rfl)) rfl ?_;exact ⟨_,_,rfl,Kd.R_nil _ _ _ _ _,Kd.R_nil _ _ _ _ _,below_box5 HB.out (by omega)⟩
  | true =>
   have hh:=HH.out;clear HH;rw [if_pos rfl] at hh;obtain ⟨R,h3,hh⟩:=Option.bind_eq_some_iff.mp hh;have H3:=aK h3
   split at hh
   case isFalse=>simp at hh
   case isTrue hj=>
   obtain ⟨⟨W,W2⟩,h4,hh⟩:=Option.bind_eq_some_iff.mp hh;have H4:=aK h4;dsimp only at hj hh;obtain ⟨j,hjj⟩: ∃j,j=wrap64 (wrap64 (x - a2)+1):=⟨_,rfl⟩;rw [←hjj] at hj hh;have q1:IntKind.i64.wrap (wrap64 (x - a2)+1)=j:=(i64_w _).trans hjj.symm
   have HJ:=aK hj;have HH:=aK hh;clear h3 h4 hh hj hjj;have m0:=(blk_cell BM.out 0).trans rfl;have m1:=(blk_cell BM.out 1).trans rfl;have m2:=(blk_cell BM.out 2).trans rfl;have m3:=(blk_cell BM.out 3).trans rfl;have m4:=(blk_cell BM.out 4).trans rfl
   go_wp2_with fail
   go_at_call 39;refine (spec_l21Refs.calls k A0 c0 l0 A1_0 c1_0 l1_0 (wrap64 (a2 - 1)) R _ (Kd.C_below HR0.out HB.out) HC0.out (Kd.C_below HR1.out HB.out) HC1.out H3.out).mono ?_;rintro e w2 ⟨vR,rfl,hR,hb⟩;clear m0 m1 m2 m3 m4;replace HB:=aK (below_step HB.out hb);replace BM:=aK (blk_below BM.out hb);replace BR:=aK (blk_below BR.out hb);clear hb;have HRf:=aK hR;obtain ⟨gR,cR,hv,_⟩:=Kd.R_form hR (by have:=HJ.out;omega);subst hv;obtain ⟨xq,_⟩:=Kd.R_cell (enc:=Value.bool) (h1:=fun _=>rfl) false hR j HJ.out.1 HJ.out.2;clear hR;have p1:=eq_true HJ.out.1;have p2:=eq_true HJ.out.2;obtain ⟨d,hd⟩: ∃d,d=rdOf false R j:=⟨_,rfl⟩;have hh:=HH.out;clear HH;rw [←hd] at hh xq;clear hd;have m0:=(blk_cell BM.out 0).trans rfl;have m1:=(blk_cell BM.out 1).trans rfl;have m2:=(blk_cell BM.out 2).trans rfl;have m3:=(blk_cell BM.out 3).trans rfl;have m4:=(blk_cell BM.out 4).trans rfl
   go_wp2_with fail
   go_at_call 40;refine (spec_l21Walk.calls k A0 c0 l0 A1_0 c1_0 l1_0 a1_1 a1_2 a1_3 A1_4 c1_4 l1_4 W W2 _ (Kd.C_below HR0.out HB.out) HC0.out (Kd.C_below HR1.out HB.out) HC1.out (Kd.C_below HR4.out HB.out) HC4.out H4.out).mono ?_;rintro e w2 ⟨vW,rfl,hW,hb⟩;clear m0 m1 m2 m3 m4;replace HB:=aK (below_step HB.out hb);replace BM:=aK (blk_below BM.out hb);replace BR:=aK (blk_below BR.out hb);clear hb;have HWl:=aK hW;obtain ⟨AW,cW,rfl⟩:=Kd.R_slice hW;clear hW xq p1 p2 HRf
   cases d with
   | true =>
    rw [if_pos rfl] at hh;obtain ⟨T,h5,hh⟩:=Option.bind_eq_some_iff.mp hh;obtain ⟨ld,h6,hh⟩:=Option.bind_eq_some_iff.mp hh;have H5:=aK h5;have H6:=aK h6;have HH:=aK hh;clear h5 h6 hh;have m0:=(blk_cell BM.out 0).trans rfl;have m1:=(blk_cell BM.out 1).trans rfl;have m2:=(blk_cell BM.out 2).trans rfl;have m3:=(blk_cell BM.out 3).trans rfl;have m4:=(blk_cell BM.out 4).trans rfl
    go_wp2_with fail
    go_at_call 42;refine (spec_l21Starts.calls k (l1_0.length:Int) AW cW W T _ (Kd.R_reads' HWl.out).2.2 (Kd.R_reads' HWl.out).2.1 H5.out).mono ?_;rintro e w2 ⟨vT,rfl,hT,hb⟩;clear m0 m1 m2 m3 m4;replace HB:=aK (below_step HB.out hb);replace BM:=aK (blk_below BM.out hb);replace BR:=aK (blk_below BR.out hb);clear hb;have HTl:=aK hT;obtain ⟨AT,cT,rfl⟩:=Kd.R_slice hT;clear hT;have m0:=(blk_cell BM.out 0).trans rfl;have m1:=(blk_cell BM.out 1).trans rfl;have m2:=(blk_cell BM.out 2).trans rfl;have m3:=(blk_cell BM.out 3).trans rfl;have m4:=(blk_cell BM.out 4).trans rfl
    go_wp2_with fail
    go_at_call 41;refine (spec_l21Lead.calls AT cT T a4 ld _ (Kd.R_reads' HTl.out).2.2 (Kd.R_reads' HTl.out).2.1 H6.out).mono ?_;rintro e w2 ⟨rfl,hd_⟩;have hb:=hd_.below;clear hd_;clear m0 m1 m2 m3 m4;replace HB:=aK (below_step HB.out hb);replace BM:=aK (blk_below BM.out hb);replace BR:=aK (blk_below BR.out hb);clear hb
    cases ld with
    |false=>
     have HH':=aK (show some (([]:List Int),(0:Int),(0:Int),(0:Int),([]:List Bool),false)=some (r1,r2,r3,r4,r5,r6) from HH.out);clear HH;have HH:=HH';have hz:=HH.out;obtain ⟨rfl,rfl,rfl,rfl,rfl,rfl⟩:=sput_zero hz;have z0:=(blk_cell BR.out 0).trans rfl;have z1:=(blk_cell BR.out 1).trans rfl;have z2:=(blk_cell BR.out 2).trans rfl;have z3:=(blk_cell BR.out 3).trans rfl;have z4:=(blk_cell BR.out 4).trans rfl;have y0:=blk_frozen BR.out 0;have y1:=blk_frozen BR.out 1;have y2:=blk_frozen BR.out 2;have y3:=blk_frozen BR.out 3;have y4:=blk_frozen BR.out 4;go_wp2;refine bodyPost_ret (results_ct rfl _ _ (w.heap.size+1) 27 #[.slice none 0 0,.int .i64 0,.int .i64 0,.int .i64 0,.slice none 0 0] (0,0) _ rfl (blk_box5 BR.out) Try.underlying27 rfl (by kernel_rfl)) rfl ?_;exact ⟨_,_,rfl,Kd.R_nil _ _ _ _ _,Kd.R_nil _ _ _ _ _,below_box5 HB.out (by omega)⟩
    |true=>
     have hh:=HH.out;clear HH;unfold sput_end at hh;rw [if_pos rfl] at hh;obtain ⟨⟨n1,n2,n3,n4,n5⟩,h7,hh⟩:=Option.bind_eq_some_iff.mp hh;obtain ⟨⟨u1,u2,u3,u4,u5⟩,h8,hh⟩:=Option.bind_eq_some_iff.mp hh;have H7:=aK h7;have H8:=aK h8;simp only [Option.some.injEq,Prod.mk.injEq] at hh;obtain ⟨rfl,rfl,rfl,rfl,rfl,rfl⟩:=hh;clear h7 h8;have HG:=aK (show w.heap.size+1<w2.heap.size from blk_lt BR.out);have HBc:=aK HB.out;have BRc:=aK BR.out;have wc_:=w2;have m0:=(blk_cell BM.out 0).trans rfl;have m1:=(blk_cell BM.out 1).trans rfl;have m2:=(blk_cell BM.out 2).trans rfl;have m3:=(blk_cell BM.out 3).trans rfl;have m4:=(blk_cell BM.out 4).trans rfl
     go_wp2_with fail
     go_at_call 45;refine (spec_l21Copy.calls A1_0 c1_0 l1_0 a1_1 a1_2 a1_3 A1_4 c1_4 l1_4 n1 n2 n3 n4 n5 _ (Kd.C_below HR1.out HB.out) HC1.out (Kd.C_below HR4.out HB.out) HC4.out H7.out).mono ?_;rintro e w3 ⟨vc0,vc4,rfl,hc0,hc4,hb⟩;clear m0 m1 m2 m3 m4;have BR3:=aK (blk_below BR.out hb);have HB3:=aK (below_step HB.out hb);have Hc0:=aK hc0;have Hc4:=aK hc4;have hb2:=hb;clear hc0 hc4 BRc HBc wc_
     go_wp2_with fail
     go_at_call 44;refine (spec_l21Put.calls (fun _=>True) vc0 n1 n2 n3 n4 (fun _=>True) vc4 n5 x a4 true u1 u2 u3 u4 u5 w2 _ hb2 Hc0.out Hc4.out H8.out).mono ?_;rintro e w4 ⟨vp0,vp4,rfl,hp0,hp4,hb4,_⟩;have BR4:=aK ((hb4.block _ (blk_lt BR.out)).trans BR.out);have HB4:=aK (below_step HB.out hb4);have Hp0:=aK hp0;have Hp4:=aK hp4;obtain ⟨Ap0,cp0,rfl⟩:=Kd.R_slice hp0;obtain ⟨Ap4,cp4,rfl⟩:=Kd.R_slice hp4;clear hp0 hp4 hb hb2 hb4 BR3 HB3 Hc0 Hc4;have z0:=(blk_cell BR4.out 0).trans rfl;have z1:=(blk_cell BR4.out 1).trans rfl;have z2:=(blk_cell BR4.out 2).trans rfl;have z3:=(blk_cell BR4.out 3).trans rfl;have z4:=(blk_cell BR4.out 4).trans rfl;have y0:=blk_frozen BR4.out 0;have y1:=blk_frozen BR4.out 1;have y2:=blk_frozen BR4.out 2;have y3:=blk_frozen BR4.out 3;have y4:=blk_frozen BR4.out 4;go_wp2;refine bodyPost_ret (results_ct rfl _ _ (w.heap.size+1) 27 #[.slice Ap0 u1.length cp0,.int .i64 u2,.int .i64 u3,.int .i64 u4,.slice Ap4 u5.length cp4] (0,0) _ rfl (blk_box5 BR4.out) Try.underlying27 rfl (by kernel_rfl)) rfl ?_;exact ⟨_,_,rfl,R_box5 Hp0.out HG.out z46,R_box5 Hp4.out HG.out z46,below_box5 HB4.out (by omega)⟩
   | false =>
    rw [if_neg (by simp)] at hh;obtain ⟨z,h6,hh⟩:=Option.bind_eq_some_iff.mp hh;have H6:=aK h6;have HH:=aK hh;clear h6 hh;have m0:=(blk_cell BM.out 0).trans rfl;have m1:=(blk_cell BM.out 1).trans rfl;have m2:=(blk_cell BM.out 2).trans rfl;have m3:=(blk_cell BM.out 3).trans rfl;have m4:=(blk_cell BM.out 4).trans rfl
    go_wp2_with fail
    go_at_call 43;refine (spec_l1Word.calls a4 z _ H6.out).mono ?_;rintro e w2 ⟨rfl,hd_⟩;have hb:=hd_.below;clear hd_;clear m0 m1 m2 m3 m4;replace HB:=aK (below_step HB.out hb);replace BM:=aK (blk_below BM.out hb);replace BR:=aK (blk_below BR.out hb);clear hb
    cases z with
    |false=>
     have HH':=aK (show some (([]:List Int),(0:Int),(0:Int),(0:Int),([]:List Bool),false)=some (r1,r2,r3,r4,r5,r6) from HH.out);clear HH;have HH:=HH';have hz:=HH.out;obtain ⟨rfl,rfl,rfl,rfl,rfl,rfl⟩:=sput_zero hz;have z0:=(blk_cell BR.out 0).trans rfl;have z1:=(blk_cell BR.out 1).trans rfl;have z2:=(blk_cell BR.out 2).trans rfl;have z3:=(blk_cell BR.out 3).trans rfl;have z4:=(blk_cell BR.out 4).trans rfl;have y0:=blk_frozen BR.out 0;have y1:=blk_frozen BR.out 1;have y2:=blk_frozen BR.out 2;have y3:=blk_frozen BR.out 3;have y4:=blk_frozen BR.out 4;go_wp2;refine bodyPost_ret (results_ct rfl _ _ (w.heap.size+1) 27 #[.slice none 0 0,.int .i64 0,.int .i64 0,.int .i64 0,.slice none 0 0] (0,0) _ rfl (blk_box5 BR.out) Try.underlying27 rfl (by kernel_rfl)) rfl ?_;exact ⟨_,_,rfl,Kd.R_nil _ _ _ _ _,Kd.R_nil _ _ _ _ _,below_box5 HB.out (by omega)⟩
    |true=>
     have hh:=HH.out;clear HH;unfold sput_end at hh;rw [if_pos rfl] at hh;obtain ⟨⟨n1,n2,n3,n4,n5⟩,h7,hh⟩:=Option.bind_eq_some_iff.mp hh;obtain ⟨⟨u1,u2,u3,u4,u5⟩,h8,hh⟩:=Option.bind_eq_some_iff.mp hh;have H7:=aK h7;have H8:=aK h8;simp only [Option.some.injEq,Prod.mk.injEq] at hh;obtain ⟨rfl,rfl,rfl,rfl,rfl,rfl⟩:=hh;clear h7 h8;have HG:=aK (show w.heap.size+1<w2.heap.size from blk_lt BR.out);have HBc:=aK HB.out;have BRc:=aK BR.out;have wc_:=w2;have m0:=(blk_cell BM.out 0).trans rfl;have m1:=(blk_cell BM.out 1).trans rfl;have m2:=(blk_cell BM.out 2).trans rfl;have m3:=(blk_cell BM.out 3).trans rfl;have m4:=(blk_cell BM.out 4).trans rfl
     go_wp2_with fail
     go_at_call 45;refine (spec_l21Copy.calls A1_0 c1_0 l1_0 a1_1 a1_2 a1_3 A1_4 c1_4 l1_4 n1 n2 n3 n4 n5 _ (Kd.C_below HR1.out HB.out) HC1.out (Kd.C_below HR4.out HB.out) HC4.out H7.out).mono ?_;rintro e w3 ⟨vc0,vc4,rfl,hc0,hc4,hb⟩;clear m0 m1 m2 m3 m4;have BR3:=aK (blk_below BR.out hb);have HB3:=aK (below_step HB.out hb);have Hc0:=aK hc0;have Hc4:=aK hc4;have hb2:=hb;clear hc0 hc4 BRc HBc wc_
     go_wp2_with fail
     go_at_call 44;refine (spec_l21Put.calls (fun _=>True) vc0 n1 n2 n3 n4 (fun _=>True) vc4 n5 x a4 false u1 u2 u3 u4 u5 w2 _ hb2 Hc0.out Hc4.out H8.out).mono ?_;rintro e w4 ⟨vp0,vp4,rfl,hp0,hp4,hb4,_⟩;have BR4:=aK ((hb4.block _ (blk_lt BR.out)).trans BR.out);have HB4:=aK (below_step HB.out hb4);have Hp0:=aK hp0;have Hp4:=aK hp4;obtain ⟨Ap0,cp0,rfl⟩:=Kd.R_slice hp0;obtain ⟨Ap4,cp4,rfl⟩:=Kd.R_slice hp4;clear hp0 hp4 hb hb2 hb4 BR3 HB3 Hc0 Hc4;have z0:=(blk_cell BR4.out 0).trans rfl;have z1:=(blk_cell BR4.out 1).trans rfl;have z2:=(blk_cell BR4.out 2).trans rfl;have z3:=(blk_cell BR4.out 3).trans rfl;have z4:=(blk_cell BR4.out 4).trans rfl;have y0:=blk_frozen BR4.out 0;have y1:=blk_frozen BR4.out 1;have y2:=blk_frozen BR4.out 2;have y3:=blk_frozen BR4.out 3;have y4:=blk_frozen BR4.out 4;go_wp2;refine bodyPost_ret (results_ct rfl _ _ (w.heap.size+1) 27 #[.slice Ap0 u1.length cp0,.int .i64 u2,.int .i64 u3,.int .i64 u4,.slice Ap4 u5.length cp4] (0,0) _ rfl (blk_box5 BR4.out) Try.underlying27 rfl (by kernel_rfl)) rfl ?_;exact ⟨_,_,rfl,R_box5 Hp0.out HG.out z46,R_box5 Hp4.out HG.out z46,below_box5 HB4.out (by omega)⟩
def laws_leInts.l0:Nat→List Int→List Int→Int→Option (Bool)
  |0,_,_,_=>none
  |k+1,x0,x1,x5=>if x5<(x0.length:Int) then (if 0≤x5 then (if x5<(x1.length:Int) then (if (rd x0 x5)=(rd x1 x5) then (laws_leInts.l0 k x0 x1 (wrap64 (x5+1))) else (some false)) else (none)) else (none)) else (some true)
def laws_leInts.f (k:Nat) (l0:List Int) (l1:List Int):Option (Bool):=if (l0.length:Int)=(l1.length:Int) then (laws_leInts.l0 k l0 l1 0) else (some false)
set_option maxHeartbeats 8000000 in
set_option maxRecDepth 100000 in
theorem laws_leInts.calls (k : Nat) (A0 : Option Addr) (c0 : Nat) (l0 : List Int) (A1 : Option Addr) (c1 : Nat) (l1 : List Int) (r : Bool) (w : World) (hr0 : Kd.C (Kd.int .i64) w A0 l0.length l0) (hc0 : l0.length ≤ c0) (hr1 : Kd.C (Kd.int .i64) w A1 l1.length l1) (hc1 : l1.length ≤ c1) (h : laws_leInts.f k l0 l1 = some r) :
  Calls Try.prog 23 #[.slice A0 l0.length c0,.slice A1 l1.length c1] w fun e w'=>e= .returned (.bool r)∧Drawn0 w w':=by
 have HR0:=aK hr0;have HC0:=aK hc0;clear hr0 hc0;have HR1:=aK hr1;have HC1:=aK hc1;clear hr1 hc1;have H:(if (l0.length:Int)=(l1.length:Int) then (laws_leInts.l0 k l0 l1 0) else (some false))=some r:=h
 clear h;by_cases c3:(l0.length:Int)=(l1.length:Int)
 ·rw [if_pos c3] at H
  have c3b0:((l0.length:Int)==(l1.length:Int))=true:=beq_iff_eq.mpr c3
  have c3b1:((l0.length:Int) !=(l1.length:Int))=false:=bne_eq_false_iff_eq.mpr c3
  have c3b2:(l0.length==l1.length)=true:=by first|simpa using c3|(simp at c3 ⊢;omega)
  clear c3;have H':=aK H;clear H;go_enter Try.func23,Try.ntmps23;go_wp2;repeat (go_quiet (fail);try go_wp2)
  go_loopg [5] k (fun kq v5 w'=> ∃(x5_1:Int),v5= .int .i64 x5_1∧Aside0 (laws_leInts.l0 kq l0 l1 x5_1=some r)∧Aside0 (kq≤k)∧Drawn0 w w')
  case atStart=>exact ⟨(0),z7,H',⟨Nat.le_refl _⟩,by repeat (first|exact Drawn0.refl _|apply Drawn0.step)⟩
  case round =>
   clear H';(try clear c1);(try clear c2);(try clear p2);(try clear c3);(try clear c3b0);(try clear c3b1);(try clear c3b2);obtain ⟨x5_1,rfl,HA,HK1,⟨m1,rfl⟩⟩:=hrel
   cases gk with
   |zero=>exact absurd HA.out (by simp [laws_leInts.l0])
   | succ k1 =>
    have H:=HA.out;clear HA;simp only [laws_leInts.l0] at H;by_cases c4:x5_1<(l0.length:Int)
    ·rw [if_pos c4] at H
     have c4b0:decide (x5_1<(l0.length:Int))=true:=decide_eq_true c4
     clear c4;by_cases c5:0≤x5_1
     ·rw [if_pos c5] at H
      have c5b0:decide (0≤x5_1)=true:=decide_eq_true c5
      clear c5;by_cases c6:x5_1<(l1.length:Int)
      ·rw [if_pos c6] at H
       have c6b0:decide (x5_1<(l1.length:Int))=true:=decide_eq_true c6
       clear c6;by_cases c7:(rd l0 x5_1)=(rd l1 x5_1)
       ·rw [if_pos c7] at H
        have c7b0:((rd l0 x5_1)==(rd l1 x5_1))=true:=beq_iff_eq.mpr c7
        have c7b1:((rd l0 x5_1) !=(rd l1 x5_1))=false:=bne_eq_false_iff_eq.mpr c7
        clear c7;have H':=aK H;clear H;have p378:0≤(x5_1:Int):=of_decide_eq_true z3
        have q378:x5_1<(l0.length:Int):=of_decide_eq_true z3
        obtain ⟨ad378,e378,hx378_0⟩:=Kd.at_int HR0.out x5_1 p378 q378
        cases e378
        replace p378:=eq_true p378;replace q378:=eq_true q378;have p379:0≤(x5_1:Int):=of_decide_eq_true z3
        have q379:x5_1<(l1.length:Int):=of_decide_eq_true z3
        obtain ⟨ad379,e379,hx379_0⟩:=Kd.at_int HR1.out x5_1 p379 q379
        cases e379
        replace p379:=eq_true p379;replace q379:=eq_true q379;go_wp2;repeat (go_quiet (fail);try go_wp2)
        go_roundg k1
        case measure=>have:=HK1.out;omega
        case rel=>exact ⟨(wrap64 (x5_1+1)),z7,H',⟨by have:=HK1.out;omega⟩,by repeat (first|exact Drawn0.refl _|apply Drawn0.step)⟩
       ·rw [if_neg c7] at H
        have c7b0:((rd l0 x5_1)==(rd l1 x5_1))=false:=beq_eq_false_iff_ne.mpr c7
        have c7b1:((rd l0 x5_1) !=(rd l1 x5_1))=true:=bne_iff_ne.mpr c7
        obtain rfl:=Option.some.inj H;have p378:0≤(x5_1:Int):=of_decide_eq_true z3
        have q378:x5_1<(l0.length:Int):=of_decide_eq_true z3
        obtain ⟨ad378,e378,hx378_0⟩:=Kd.at_int HR0.out x5_1 p378 q378
        cases e378
        replace p378:=eq_true p378;replace q378:=eq_true q378;have p379:0≤(x5_1:Int):=of_decide_eq_true z3
        have q379:x5_1<(l1.length:Int):=of_decide_eq_true z3
        obtain ⟨ad379,e379,hx379_0⟩:=Kd.at_int HR1.out x5_1 p379 q379
        cases e379
        replace p379:=eq_true p379;replace q379:=eq_true q379;go_wp2;repeat (go_quiet (fail);try go_wp2)
        go_ret;exact ⟨z7,z13⟩
      ·rw [if_neg c6] at H
       exact absurd H (by simp)
     ·rw [if_neg c5] at H
      exact absurd H (by simp)
    ·rw [if_neg c4] at H
     have c4b0:decide (x5_1<(l0.length:Int))=false:=decide_eq_false c4
     clear c4;obtain rfl:=Option.some.inj H;go_wp2;repeat (go_quiet (fail);try go_wp2)
     go_ret;exact ⟨z7,z13⟩
 ·rw [if_neg c3] at H
  have c3b0:((l0.length:Int)==(l1.length:Int))=false:=beq_eq_false_iff_ne.mpr c3
  have c3b1:((l0.length:Int) !=(l1.length:Int))=true:=bne_iff_ne.mpr c3
  have c3b2:(l0.length==l1.length)=false:=by first|simpa using c3|(simp at c3 ⊢;omega)
  obtain rfl:=Option.some.inj H;go_enter Try.func23,Try.ntmps23;go_wp2;repeat (go_quiet (fail);try go_wp2)
  go_ret;exact ⟨z7,z13⟩
mutual
def laws_leMem.j0:Nat→Bool→List Int→Int→Int→Int→List Bool→List Int→Int→Int→Int→List Bool→Option (Bool)
 |0,_,_,_,_,_,_,_,_,_,_,_=>none
 |k+1,x41,x381000,x381001,x381002,x381003,x381004,x382000,x382001,x382002,x382003,x382004=>if x41=true then (some false) else (laws_leMem.l0 k 0 x381000 x381001 x381002 x381003 x381004 x382000 x382001 x382002 x382003 x382004)
def laws_leMem.l0:Nat→Int→List Int→Int→Int→Int→List Bool→List Int→Int→Int→Int→List Bool→Option (Bool)
 |0,_,_,_,_,_,_,_,_,_,_,_=>none
 |k+1,x5,x381000,x381001,x381002,x381003,x381004,x382000,x382001,x382002,x382003,x382004=>if x5<(x381004.length:Int) then (if 0≤x5 then (if x5<(x382004.length:Int) then (if ((rdOf false x381004 x5) !=(rdOf false x382004 x5))=true then (some false) else (laws_leMem.l0 k (wrap64 (x5+1)) x381000 x381001 x381002 x381003 x381004 x382000 x382001 x382002 x382003 x382004)) else (none)) else (none)) else (some true)
end
def laws_leMem.f (k:Nat) (l0_0:List Int) (a0_1:Int) (a0_2:Int) (a0_3:Int) (l0_4:List Bool) (l1_0:List Int) (a1_1:Int) (a1_2:Int) (a1_3:Int) (l1_4:List Bool):Option (Bool):=(laws_leInts.f k l0_0 l1_0).bind fun t382=>(if t382=true then (if a0_1=a1_1 then (if a0_2=a1_2 then (if a0_3=a1_3 then (laws_leMem.j0 k ((l0_4.length:Int) !=(l1_4.length:Int)) l0_0 a0_1 a0_2 a0_3 l0_4 l1_0 a1_1 a1_2 a1_3 l1_4) else (laws_leMem.j0 k true l0_0 a0_1 a0_2 a0_3 l0_4 l1_0 a1_1 a1_2 a1_3 l1_4)) else (laws_leMem.j0 k true l0_0 a0_1 a0_2 a0_3 l0_4 l1_0 a1_1 a1_2 a1_3 l1_4)) else (laws_leMem.j0 k true l0_0 a0_1 a0_2 a0_3 l0_4 l1_0 a1_1 a1_2 a1_3 l1_4)) else (laws_leMem.j0 k true l0_0 a0_1 a0_2 a0_3 l0_4 l1_0 a1_1 a1_2 a1_3 l1_4))
set_option maxHeartbeats 8000000 in
set_option maxRecDepth 100000 in
theorem laws_leMem.calls (k : Nat) (A0_0 : Option Addr) (c0_0 : Nat) (l0_0 : List Int) (a0_1 : Int) (a0_2 : Int) (a0_3 : Int) (A0_4 : Option Addr) (c0_4 : Nat) (l0_4 : List Bool) (A1_0 : Option Addr) (c1_0 : Nat) (l1_0 : List Int) (a1_1 : Int) (a1_2 : Int) (a1_3 : Int) (A1_4 : Option Addr) (c1_4 : Nat) (l1_4 : List Bool) (r : Bool) (w : World) (hr0_0 : Kd.C (Kd.int .i64) w A0_0 l0_0.length l0_0) (hc0_0 : l0_0.length ≤ c0_0) (hr0_4 : Kd.C Kd.bool w A0_4 l0_4.length l0_4) (hc0_4 : l0_4.length ≤ c0_4) (hr1_0 : Kd.C (Kd.int .i64) w A1_0 l1_0.length l1_0) (hc1_0 : l1_0.length ≤ c1_0) (hr1_4 : Kd.C Kd.bool w A1_4 l1_4.length l1_4) (hc1_4 : l1_4.length ≤ c1_4) (h : laws_leMem.f k l0_0 a0_1 a0_2 a0_3 l0_4 l1_0 a1_1 a1_2 a1_3 l1_4 = some r) :
  Calls Try.prog 13 #[.agg #[.slice A0_0 l0_0.length c0_0,.int .i64 a0_1,.int .i64 a0_2,.int .i64 a0_3,.slice A0_4 l0_4.length c0_4],.agg #[.slice A1_0 l1_0.length c1_0,.int .i64 a1_1,.int .i64 a1_2,.int .i64 a1_3,.slice A1_4 l1_4.length c1_4]] w fun e w'=>e= .returned (.bool r)∧Below w.heap.size w w':=by
 have hu27:=Try.underlying27;have HR0_0:=aK hr0_0;have HC0_0:=aK hc0_0;clear hr0_0 hc0_0;have HR0_4:=aK hr0_4;have HC0_4:=aK hc0_4;clear hr0_4 hc0_4;have HR1_0:=aK hr1_0;have HC1_0:=aK hc1_0;clear hr1_0 hc1_0;have HR1_4:=aK hr1_4;have HC1_4:=aK hc1_4;clear hr1_4 hc1_4;have HB:=aK (Below.refl w.heap.size w);have H:((laws_leInts.f k l0_0 l1_0).bind fun t382=>(if t382=true then (if a0_1=a1_1 then (if a0_2=a1_2 then (if a0_3=a1_3 then (laws_leMem.j0 k ((l0_4.length:Int) !=(l1_4.length:Int)) l0_0 a0_1 a0_2 a0_3 l0_4 l1_0 a1_1 a1_2 a1_3 l1_4) else (laws_leMem.j0 k true l0_0 a0_1 a0_2 a0_3 l0_4 l1_0 a1_1 a1_2 a1_3 l1_4)) else (laws_leMem.j0 k true l0_0 a0_1 a0_2 a0_3 l0_4 l1_0 a1_1 a1_2 a1_3 l1_4)) else (laws_leMem.j0 k true l0_0 a0_1 a0_2 a0_3 l0_4 l1_0 a1_1 a1_2 a1_3 l1_4)) else (laws_leMem.j0 k true l0_0 a0_1 a0_2 a0_3 l0_4 l1_0 a1_1 a1_2 a1_3 l1_4)))=some r:=h
 clear h;have HC3:=aK H;clear H;go_enter Try.func13,Try.ntmps13
 go_upto_region 1 with (first|((with_reducible refine gate_dst (N:=2) rfl ?_);(try (refine gate_guard (by rfl) ?_;dsimp only));refine box_event ?hg (N:=2) ?hd (cs:= #[.slice A0_0 l0_0.length c0_0,.int .i64 a0_1,.int .i64 a0_2,.int .i64 a0_3,.slice A0_4 l0_4.length c0_4]) (t:=27) ?hr ?_;(case hd=>rfl);(case hg=>rfl);(case hr=>first|(go_simp;done)|(go_simp;rfl));intro gb380 hg w4 hbox hb;have BK380:=aK (hbox);have GW380:=aK ((by rw [hg];exact (below_size z1):w.heap.size≤gb380));have GE380:=aK ((by rw [hg];exact (below_size z1):w.heap.size≤gb380));replace HB:=aK (below_step z1 hb);clear hb hbox hg)|((with_reducible refine gate_dst (N:=3) rfl ?_);(try (refine gate_guard (by rfl) ?_;dsimp only));refine box_event ?hg (N:=3) ?hd (cs:= #[.slice A1_0 l1_0.length c1_0,.int .i64 a1_1,.int .i64 a1_2,.int .i64 a1_3,.slice A1_4 l1_4.length c1_4]) (t:=27) ?hr ?_;(case hd=>rfl);(case hg=>rfl);(case hr=>first|(go_simp;done)|(go_simp;rfl));intro gb381 hg w5 hbox hb;have BK381:=aK (hbox);have GW381:=aK ((by rw [hg];exact (below_size z21):w.heap.size≤gb381));have GE381:=aK ((by rw [hg];exact (below_size z21):w.heap.size≤gb381));have NB380_381:=aK (z48);have NB381_380:=aK (z49);replace BK380:=aK (blk_below (g:=gb380) (o:= .cells #[.slice A0_0 l0_0.length c0_0,.int .i64 a0_1,.int .i64 a0_2,.int .i64 a0_3,.slice A0_4 l0_4.length c0_4] 27 (0,0)) z29 hb);replace HB:=aK (below_step z21 hb);clear hb hbox hg))
 repeat (go_quiet (first|((with_reducible refine gate_dst (N:=2) rfl ?_);(try (refine gate_guard (by rfl) ?_;dsimp only));refine box_event ?hg (N:=2) ?hd (cs:= #[.slice A0_0 l0_0.length c0_0,.int .i64 a0_1,.int .i64 a0_2,.int .i64 a0_3,.slice A0_4 l0_4.length c0_4]) (t:=27) ?hr ?_;(case hd=>rfl);(case hg=>rfl);(case hr=>first|(go_simp;done)|(go_simp;rfl));intro gb380 hg w4 hbox hb;have BK380:=aK (hbox);have GW380:=aK ((by rw [hg];exact (below_size z1):w.heap.size≤gb380));have GE380:=aK ((by rw [hg];exact (below_size z1):w.heap.size≤gb380));replace HB:=aK (below_step z1 hb);clear hb hbox hg)|((with_reducible refine gate_dst (N:=3) rfl ?_);(try (refine gate_guard (by rfl) ?_;dsimp only));refine box_event ?hg (N:=3) ?hd (cs:= #[.slice A1_0 l1_0.length c1_0,.int .i64 a1_1,.int .i64 a1_2,.int .i64 a1_3,.slice A1_4 l1_4.length c1_4]) (t:=27) ?hr ?_;(case hd=>rfl);(case hg=>rfl);(case hr=>first|(go_simp;done)|(go_simp;rfl));intro gb381 hg w5 hbox hb;have BK381:=aK (hbox);have GW381:=aK ((by rw [hg];exact (below_size z21):w.heap.size≤gb381));have GE381:=aK ((by rw [hg];exact (below_size z21):w.heap.size≤gb381));have NB380_381:=aK (z48);have NB381_380:=aK (z49);replace BK380:=aK (blk_below (g:=gb380) (o:= .cells #[.slice A0_0 l0_0.length c0_0,.int .i64 a0_1,.int .i64 a0_2,.int .i64 a0_3,.slice A0_4 l0_4.length c0_4] 27 (0,0)) z29 hb);replace HB:=aK (below_step z21 hb);clear hb hbox hg));go_upto_region 1 with (first|((with_reducible refine gate_dst (N:=2) rfl ?_);(try (refine gate_guard (by rfl) ?_;dsimp only));refine box_event ?hg (N:=2) ?hd (cs:= #[.slice A0_0 l0_0.length c0_0,.int .i64 a0_1,.int .i64 a0_2,.int .i64 a0_3,.slice A0_4 l0_4.length c0_4]) (t:=27) ?hr ?_;(case hd=>rfl);(case hg=>rfl);(case hr=>first|(go_simp;done)|(go_simp;rfl));intro gb380 hg w4 hbox hb;have BK380:=aK (hbox);have GW380:=aK ((by rw [hg];exact (below_size z1):w.heap.size≤gb380));have GE380:=aK ((by rw [hg];exact (below_size z1):w.heap.size≤gb380));replace HB:=aK (below_step z1 hb);clear hb hbox hg)|((with_reducible refine gate_dst (N:=3) rfl ?_);(try (refine gate_guard (by rfl) ?_;dsimp only));refine box_event ?hg (N:=3) ?hd (cs:= #[.slice A1_0 l1_0.length c1_0,.int .i64 a1_1,.int .i64 a1_2,.int .i64 a1_3,.slice A1_4 l1_4.length c1_4]) (t:=27) ?hr ?_;(case hd=>rfl);(case hg=>rfl);(case hr=>first|(go_simp;done)|(go_simp;rfl));intro gb381 hg w5 hbox hb;have BK381:=aK (hbox);have GW381:=aK ((by rw [hg];exact (below_size z21):w.heap.size≤gb381));have GE381:=aK ((by rw [hg];exact (below_size z21):w.heap.size≤gb381));have NB380_381:=aK (z48);have NB381_380:=aK (z49);replace BK380:=aK (blk_below (g:=gb380) (o:= .cells #[.slice A0_0 l0_0.length c0_0,.int .i64 a0_1,.int .i64 a0_2,.int .i64 a0_3,.slice A0_4 l0_4.length c0_4] 27 (0,0)) z29 hb);replace HB:=aK (below_step z21 hb);clear hb hbox hg)))
 (try simp only [Act.put,List.setIfInBounds_toArray,List.set_cons_zero,List.set_cons_succ])
 go_cut [41] (fun v41 wc=> ∃(kq:Nat) (x41_2:Bool),v41= .bool x41_2∧Aside0 (laws_leMem.j0 kq x41_2 l0_0 a0_1 a0_2 a0_3 l0_4 l1_0 a1_1 a1_2 a1_3 l1_4=some r)∧Aside0 (kq≤k)∧Aside0 (wc.heap[gb380]? =some (.cells #[(.slice A0_0 l0_0.length c0_0),.int .i64 a0_1,.int .i64 a0_2,.int .i64 a0_3,(.slice A0_4 l0_4.length c0_4)] 27 (0,0)))∧Aside0 (wc.heap[gb381]? =some (.cells #[(.slice A1_0 l1_0.length c1_0),.int .i64 a1_1,.int .i64 a1_2,.int .i64 a1_3,(.slice A1_4 l1_4.length c1_4)] 27 (0,0)))∧Aside0 (Below w.heap.size w wc))
 case first =>
  have H:=HC3.out;clear HC3;replace H:=Option.bind_eq_some_iff.mp H;obtain ⟨t382,A60,H⟩:=H;(try dsimp only at H);have A6:=aK A60;clear A60;by_cases c7:t382=true
  ·subst c7
   rw [if_pos rfl] at H;by_cases c8:a0_1=a1_1
   ·rw [if_pos c8] at H
    have c8b0:(a0_1==a1_1)=true:=beq_iff_eq.mpr c8
    have c8b1:(a0_1 !=a1_1)=false:=bne_eq_false_iff_eq.mpr c8
    clear c8
    (first|rw [c8b0]|(simp only [i64_w,i32_w];rw [c8b0])|skip)
    by_cases c9:a0_2=a1_2
    ·rw [if_pos c9] at H
     have c9b0:(a0_2==a1_2)=true:=beq_iff_eq.mpr c9
     have c9b1:(a0_2 !=a1_2)=false:=bne_eq_false_iff_eq.mpr c9
     clear c9;by_cases c10:a0_3=a1_3
     ·rw [if_pos c10] at H
      have c10b0:(a0_3==a1_3)=true:=beq_iff_eq.mpr c10
      have c10b1:(a0_3 !=a1_3)=false:=bne_eq_false_iff_eq.mpr c10
      clear c10;have H':=aK H;clear H;have hnb11:=NB380_381.out;have hnc11:=NB381_380.out;obtain ⟨hcz12_0,hcz12_1,hcz12_2,hcz12_3,hcz12_4,hfz12_0,hfz12_1,hfz12_2,hfz12_3,hfz12_4⟩:=cbf5 BK380;obtain ⟨hcz13_0,hcz13_1,hcz13_2,hcz13_3,hcz13_4,hfz13_0,hfz13_1,hfz13_2,hfz13_3,hfz13_4⟩:=cbf5 BK381
      go_wp2_with (first|(go_at_call 23;(with_reducible refine (laws_leInts.calls k _ _ l0_0 _ _ l1_0 true _ ?side1 ?side2 ?side3 ?side4 A6.out).mono ?_);(case side1=>exact z10);(case side2=>exact HC0_0.out);(case side3=>exact z6);(case side4=>exact HC1_0.out);rintro e w' ⟨rfl,⟨nd,rfl⟩⟩;(try first|exact ⟨rfl,_,World.drewN_drewN _ _ _⟩|exact ⟨rfl,_,Eq.trans (World.drewN_drewN _ _ _) (congrArg (World.drewN _) (Nat.add_assoc _ _ _))⟩)))
      repeat (go_quiet (first|(go_at_call 23;(with_reducible refine (laws_leInts.calls k _ _ l0_0 _ _ l1_0 true _ ?side1 ?side2 ?side3 ?side4 A6.out).mono ?_);(case side1=>exact z10);(case side2=>exact HC0_0.out);(case side3=>exact z6);(case side4=>exact HC1_0.out);rintro e w' ⟨rfl,⟨nd,rfl⟩⟩;(try first|exact ⟨rfl,_,World.drewN_drewN _ _ _⟩|exact ⟨rfl,_,Eq.trans (World.drewN_drewN _ _ _) (congrArg (World.drewN _) (Nat.add_assoc _ _ _))⟩)));try go_wp2_with (first|(go_at_call 23;(with_reducible refine (laws_leInts.calls k _ _ l0_0 _ _ l1_0 true _ ?side1 ?side2 ?side3 ?side4 A6.out).mono ?_);(case side1=>exact z10);(case side2=>exact HC0_0.out);(case side3=>exact z6);(case side4=>exact HC1_0.out);rintro e w' ⟨rfl,⟨nd,rfl⟩⟩;(try first|exact ⟨rfl,_,World.drewN_drewN _ _ _⟩|exact ⟨rfl,_,Eq.trans (World.drewN_drewN _ _ _) (congrArg (World.drewN _) (Nat.add_assoc _ _ _))⟩))))
      go_meet
      case rel=>exact ⟨_,(((l0_4.length:Int) !=(l1_4.length:Int))),z7,H',⟨by first|omega|exact Nat.le_refl _⟩,⟨by (with_reducible repeat (first|refine blk_drewN ?_ _|refine blk_drew ?_|refine blk_alloc ?_ _));exact BK380.out⟩,⟨by (with_reducible repeat (first|refine blk_drewN ?_ _|refine blk_drew ?_|refine blk_alloc ?_ _));exact BK381.out⟩,⟨by repeat (first|(with_reducible first|exact HB.out|apply below_alloc|apply pw_below_drewN|apply below_drew1|refine below_set ?_ GE380.out|refine below_set ?_ GE381.out)|exact HB.out)⟩⟩
     ·rw [if_neg c10] at H
      have c10b0:(a0_3==a1_3)=false:=beq_eq_false_iff_ne.mpr c10
      have c10b1:(a0_3 !=a1_3)=true:=bne_iff_ne.mpr c10
      have H':=aK H;clear H;have hnb14:=NB380_381.out;have hnc14:=NB381_380.out;obtain ⟨hcz15_0,hcz15_1,hcz15_2,hcz15_3,hcz15_4,hfz15_0,hfz15_1,hfz15_2,hfz15_3,hfz15_4⟩:=cbf5 BK380;obtain ⟨hcz16_0,hcz16_1,hcz16_2,hcz16_3,hcz16_4,hfz16_0,hfz16_1,hfz16_2,hfz16_3,hfz16_4⟩:=cbf5 BK381
      go_wp2_with (first|(go_at_call 23;(with_reducible refine (laws_leInts.calls k _ _ l0_0 _ _ l1_0 true _ ?side1 ?side2 ?side3 ?side4 A6.out).mono ?_);(case side1=>exact z10);(case side2=>exact HC0_0.out);(case side3=>exact z6);(case side4=>exact HC1_0.out);rintro e w' ⟨rfl,⟨nd,rfl⟩⟩;(try first|exact ⟨rfl,_,World.drewN_drewN _ _ _⟩|exact ⟨rfl,_,Eq.trans (World.drewN_drewN _ _ _) (congrArg (World.drewN _) (Nat.add_assoc _ _ _))⟩)))
      repeat (go_quiet (first|(go_at_call 23;(with_reducible refine (laws_leInts.calls k _ _ l0_0 _ _ l1_0 true _ ?side1 ?side2 ?side3 ?side4 A6.out).mono ?_);(case side1=>exact z10);(case side2=>exact HC0_0.out);(case side3=>exact z6);(case side4=>exact HC1_0.out);rintro e w' ⟨rfl,⟨nd,rfl⟩⟩;(try first|exact ⟨rfl,_,World.drewN_drewN _ _ _⟩|exact ⟨rfl,_,Eq.trans (World.drewN_drewN _ _ _) (congrArg (World.drewN _) (Nat.add_assoc _ _ _))⟩)));try go_wp2_with (first|(go_at_call 23;(with_reducible refine (laws_leInts.calls k _ _ l0_0 _ _ l1_0 true _ ?side1 ?side2 ?side3 ?side4 A6.out).mono ?_);(case side1=>exact z10);(case side2=>exact HC0_0.out);(case side3=>exact z6);(case side4=>exact HC1_0.out);rintro e w' ⟨rfl,⟨nd,rfl⟩⟩;(try first|exact ⟨rfl,_,World.drewN_drewN _ _ _⟩|exact ⟨rfl,_,Eq.trans (World.drewN_drewN _ _ _) (congrArg (World.drewN _) (Nat.add_assoc _ _ _))⟩))))
      go_meet
      case rel=>exact ⟨_,(true),z7,H',⟨by first|omega|exact Nat.le_refl _⟩,⟨by (with_reducible repeat (first|refine blk_drewN ?_ _|refine blk_drew ?_|refine blk_alloc ?_ _));exact BK380.out⟩,⟨by (with_reducible repeat (first|refine blk_drewN ?_ _|refine blk_drew ?_|refine blk_alloc ?_ _));exact BK381.out⟩,⟨by repeat (first|(with_reducible first|exact HB.out|apply below_alloc|apply pw_below_drewN|apply below_drew1|refine below_set ?_ GE380.out|refine below_set ?_ GE381.out)|exact HB.out)⟩⟩
    ·rw [if_neg c9] at H
     have c9b0:(a0_2==a1_2)=false:=beq_eq_false_iff_ne.mpr c9
     have c9b1:(a0_2 !=a1_2)=true:=bne_iff_ne.mpr c9
     have H':=aK H;clear H;have hnb17:=NB380_381.out;have hnc17:=NB381_380.out;obtain ⟨hcz18_0,hcz18_1,hcz18_2,hcz18_3,hcz18_4,hfz18_0,hfz18_1,hfz18_2,hfz18_3,hfz18_4⟩:=cbf5 BK380;obtain ⟨hcz19_0,hcz19_1,hcz19_2,hcz19_3,hcz19_4,hfz19_0,hfz19_1,hfz19_2,hfz19_3,hfz19_4⟩:=cbf5 BK381
     go_wp2_with (first|(go_at_call 23;(with_reducible refine (laws_leInts.calls k _ _ l0_0 _ _ l1_0 true _ ?side1 ?side2 ?side3 ?side4 A6.out).mono ?_);(case side1=>exact z10);(case side2=>exact HC0_0.out);(case side3=>exact z6);(case side4=>exact HC1_0.out);rintro e w' ⟨rfl,⟨nd,rfl⟩⟩;(try first|exact ⟨rfl,_,World.drewN_drewN _ _ _⟩|exact ⟨rfl,_,Eq.trans (World.drewN_drewN _ _ _) (congrArg (World.drewN _) (Nat.add_assoc _ _ _))⟩)))
     repeat (go_quiet (first|(go_at_call 23;(with_reducible refine (laws_leInts.calls k _ _ l0_0 _ _ l1_0 true _ ?side1 ?side2 ?side3 ?side4 A6.out).mono ?_);(case side1=>exact z10);(case side2=>exact HC0_0.out);(case side3=>exact z6);(case side4=>exact HC1_0.out);rintro e w' ⟨rfl,⟨nd,rfl⟩⟩;(try first|exact ⟨rfl,_,World.drewN_drewN _ _ _⟩|exact ⟨rfl,_,Eq.trans (World.drewN_drewN _ _ _) (congrArg (World.drewN _) (Nat.add_assoc _ _ _))⟩)));try go_wp2_with (first|(go_at_call 23;(with_reducible refine (laws_leInts.calls k _ _ l0_0 _ _ l1_0 true _ ?side1 ?side2 ?side3 ?side4 A6.out).mono ?_);(case side1=>exact z10);(case side2=>exact HC0_0.out);(case side3=>exact z6);(case side4=>exact HC1_0.out);rintro e w' ⟨rfl,⟨nd,rfl⟩⟩;(try first|exact ⟨rfl,_,World.drewN_drewN _ _ _⟩|exact ⟨rfl,_,Eq.trans (World.drewN_drewN _ _ _) (congrArg (World.drewN _) (Nat.add_assoc _ _ _))⟩))))
     go_meet
     case rel=>exact ⟨_,(true),z7,H',⟨by first|omega|exact Nat.le_refl _⟩,⟨by (with_reducible repeat (first|refine blk_drewN ?_ _|refine blk_drew ?_|refine blk_alloc ?_ _));exact BK380.out⟩,⟨by (with_reducible repeat (first|refine blk_drewN ?_ _|refine blk_drew ?_|refine blk_alloc ?_ _));exact BK381.out⟩,⟨by repeat (first|(with_reducible first|exact HB.out|apply below_alloc|apply pw_below_drewN|apply below_drew1|refine below_set ?_ GE380.out|refine below_set ?_ GE381.out)|exact HB.out)⟩⟩
   ·rw [if_neg c8] at H
    have c8b0:(a0_1==a1_1)=false:=beq_eq_false_iff_ne.mpr c8
    have c8b1:(a0_1 !=a1_1)=true:=bne_iff_ne.mpr c8
    (first|rw [c8b0]|(simp only [i64_w,i32_w];rw [c8b0])|skip)
    have H':=aK H;clear H;have hnb20:=NB380_381.out;have hnc20:=NB381_380.out;obtain ⟨hcz21_0,hcz21_1,hcz21_2,hcz21_3,hcz21_4,hfz21_0,hfz21_1,hfz21_2,hfz21_3,hfz21_4⟩:=cbf5 BK380;obtain ⟨hcz22_0,hcz22_1,hcz22_2,hcz22_3,hcz22_4,hfz22_0,hfz22_1,hfz22_2,hfz22_3,hfz22_4⟩:=cbf5 BK381
    go_wp2_with (first|(go_at_call 23;(with_reducible refine (laws_leInts.calls k _ _ l0_0 _ _ l1_0 true _ ?side1 ?side2 ?side3 ?side4 A6.out).mono ?_);(case side1=>exact z10);(case side2=>exact HC0_0.out);(case side3=>exact z6);(case side4=>exact HC1_0.out);rintro e w' ⟨rfl,⟨nd,rfl⟩⟩;(try first|exact ⟨rfl,_,World.drewN_drewN _ _ _⟩|exact ⟨rfl,_,Eq.trans (World.drewN_drewN _ _ _) (congrArg (World.drewN _) (Nat.add_assoc _ _ _))⟩)))
    repeat (go_quiet (first|(go_at_call 23;(with_reducible refine (laws_leInts.calls k _ _ l0_0 _ _ l1_0 true _ ?side1 ?side2 ?side3 ?side4 A6.out).mono ?_);(case side1=>exact z10);(case side2=>exact HC0_0.out);(case side3=>exact z6);(case side4=>exact HC1_0.out);rintro e w' ⟨rfl,⟨nd,rfl⟩⟩;(try first|exact ⟨rfl,_,World.drewN_drewN _ _ _⟩|exact ⟨rfl,_,Eq.trans (World.drewN_drewN _ _ _) (congrArg (World.drewN _) (Nat.add_assoc _ _ _))⟩)));try go_wp2_with (first|(go_at_call 23;(with_reducible refine (laws_leInts.calls k _ _ l0_0 _ _ l1_0 true _ ?side1 ?side2 ?side3 ?side4 A6.out).mono ?_);(case side1=>exact z10);(case side2=>exact HC0_0.out);(case side3=>exact z6);(case side4=>exact HC1_0.out);rintro e w' ⟨rfl,⟨nd,rfl⟩⟩;(try first|exact ⟨rfl,_,World.drewN_drewN _ _ _⟩|exact ⟨rfl,_,Eq.trans (World.drewN_drewN _ _ _) (congrArg (World.drewN _) (Nat.add_assoc _ _ _))⟩))))
    go_meet
    case rel=>exact ⟨_,(true),z7,H',⟨by first|omega|exact Nat.le_refl _⟩,⟨by (with_reducible repeat (first|refine blk_drewN ?_ _|refine blk_drew ?_|refine blk_alloc ?_ _));exact BK380.out⟩,⟨by (with_reducible repeat (first|refine blk_drewN ?_ _|refine blk_drew ?_|refine blk_alloc ?_ _));exact BK381.out⟩,⟨by repeat (first|(with_reducible first|exact HB.out|apply below_alloc|apply pw_below_drewN|apply below_drew1|refine below_set ?_ GE380.out|refine below_set ?_ GE381.out)|exact HB.out)⟩⟩
  ·replace c7 := Bool.eq_false_iff.mpr c7
   subst c7;rw [if_neg (show¬(false=true) by decide)] at H;have H':=aK H;clear H;have hnb23:=NB380_381.out;have hnc23:=NB381_380.out;obtain ⟨hcz24_0,hcz24_1,hcz24_2,hcz24_3,hcz24_4,hfz24_0,hfz24_1,hfz24_2,hfz24_3,hfz24_4⟩:=cbf5 BK380;obtain ⟨hcz25_0,hcz25_1,hcz25_2,hcz25_3,hcz25_4,hfz25_0,hfz25_1,hfz25_2,hfz25_3,hfz25_4⟩:=cbf5 BK381
   go_wp2_with (first|(go_at_call 23;(with_reducible refine (laws_leInts.calls k _ _ l0_0 _ _ l1_0 false _ ?side1 ?side2 ?side3 ?side4 A6.out).mono ?_);(case side1=>exact z10);(case side2=>exact HC0_0.out);(case side3=>exact z6);(case side4=>exact HC1_0.out);rintro e w' ⟨rfl,⟨nd,rfl⟩⟩;(try first|exact ⟨rfl,_,World.drewN_drewN _ _ _⟩|exact ⟨rfl,_,Eq.trans (World.drewN_drewN _ _ _) (congrArg (World.drewN _) (Nat.add_assoc _ _ _))⟩)))
   repeat (go_quiet (first|(go_at_call 23;(with_reducible refine (laws_leInts.calls k _ _ l0_0 _ _ l1_0 false _ ?side1 ?side2 ?side3 ?side4 A6.out).mono ?_);(case side1=>exact z10);(case side2=>exact HC0_0.out);(case side3=>exact z6);(case side4=>exact HC1_0.out);rintro e w' ⟨rfl,⟨nd,rfl⟩⟩;(try first|exact ⟨rfl,_,World.drewN_drewN _ _ _⟩|exact ⟨rfl,_,Eq.trans (World.drewN_drewN _ _ _) (congrArg (World.drewN _) (Nat.add_assoc _ _ _))⟩)));try go_wp2_with (first|(go_at_call 23;(with_reducible refine (laws_leInts.calls k _ _ l0_0 _ _ l1_0 false _ ?side1 ?side2 ?side3 ?side4 A6.out).mono ?_);(case side1=>exact z10);(case side2=>exact HC0_0.out);(case side3=>exact z6);(case side4=>exact HC1_0.out);rintro e w' ⟨rfl,⟨nd,rfl⟩⟩;(try first|exact ⟨rfl,_,World.drewN_drewN _ _ _⟩|exact ⟨rfl,_,Eq.trans (World.drewN_drewN _ _ _) (congrArg (World.drewN _) (Nat.add_assoc _ _ _))⟩))))
   go_meet
   case rel=>exact ⟨_,(true),z7,H',⟨by first|omega|exact Nat.le_refl _⟩,⟨by (with_reducible repeat (first|refine blk_drewN ?_ _|refine blk_drew ?_|refine blk_alloc ?_ _));exact BK380.out⟩,⟨by (with_reducible repeat (first|refine blk_drewN ?_ _|refine blk_drew ?_|refine blk_alloc ?_ _));exact BK381.out⟩,⟨by repeat (first|(with_reducible first|exact HB.out|apply below_alloc|apply pw_below_drewN|apply below_drew1|refine below_set ?_ GE380.out|refine below_set ?_ GE381.out)|exact HB.out)⟩⟩
 case rest =>
  clear HC3;(try clear c1);(try clear c2);(try clear p2);(try clear c7);(try clear c8);(try clear c8b0);(try clear c8b1);(try clear c9);(try clear c9b0);(try clear c9b1);(try clear c10);(try clear c10b0);(try clear c10b1);(try clear c11);(try clear c13);(try clear c14);(try clear c17);(try clear c20);(try clear c23);(try clear hcz12_0);(try clear hcz12_1);(try clear hcz12_2);(try clear hcz12_3);(try clear hcz12_4);(try clear hcz13_0);(try clear hcz13_1);(try clear hcz13_2);(try clear hcz13_3);(try clear hcz13_4);(try clear hcz15_0);(try clear hcz15_1);(try clear hcz15_2);(try clear hcz15_3);(try clear hcz15_4);(try clear hcz16_0);(try clear hcz16_1);(try clear hcz16_2);(try clear hcz16_3);(try clear hcz16_4);(try clear hcz18_0);(try clear hcz18_1);(try clear hcz18_2);(try clear hcz18_3);(try clear hcz18_4);(try clear hcz19_0);(try clear hcz19_1);(try clear hcz19_2);(try clear hcz19_3);(try clear hcz19_4);(try clear hcz21_0);(try clear hcz21_1);(try clear hcz21_2);(try clear hcz21_3);(try clear hcz21_4);(try clear hcz22_0);(try clear hcz22_1);(try clear hcz22_2);(try clear hcz22_3);(try clear hcz22_4);(try clear hcz24_0);(try clear hcz24_1);(try clear hcz24_2);(try clear hcz24_3);(try clear hcz24_4);(try clear hcz25_0);(try clear hcz25_1);(try clear hcz25_2);(try clear hcz25_3);(try clear hcz25_4);(try clear hfz12_0);(try clear hfz12_1);(try clear hfz12_2);(try clear hfz12_3);(try clear hfz12_4);(try clear hfz13_0);(try clear hfz13_1);(try clear hfz13_2);(try clear hfz13_3);(try clear hfz13_4);(try clear hfz15_0);(try clear hfz15_1);(try clear hfz15_2);(try clear hfz15_3);(try clear hfz15_4);(try clear hfz16_0);(try clear hfz16_1);(try clear hfz16_2);(try clear hfz16_3);(try clear hfz16_4);(try clear hfz18_0);(try clear hfz18_1);(try clear hfz18_2);(try clear hfz18_3);(try clear hfz18_4);(try clear hfz19_0);(try clear hfz19_1);(try clear hfz19_2);(try clear hfz19_3);(try clear hfz19_4);(try clear hfz21_0);(try clear hfz21_1);(try clear hfz21_2);(try clear hfz21_3);(try clear hfz21_4);(try clear hfz22_0);(try clear hfz22_1);(try clear hfz22_2);(try clear hfz22_3);(try clear hfz22_4);(try clear hfz24_0);(try clear hfz24_1);(try clear hfz24_2);(try clear hfz24_3);(try clear hfz24_4);(try clear hfz25_0);(try clear hfz25_1);(try clear hfz25_2);(try clear hfz25_3);(try clear hfz25_4);obtain ⟨kq,x41_2,rfl,HA,HJ2,BK380,BK381,HB⟩:=hcut
  cases kq with
  |zero=>exact absurd HA.out (by simp [laws_leMem.j0])
  | succ kj2 =>
   have H:=HA.out;clear HA;simp only [laws_leMem.j0] at H;by_cases c26:x41_2=true
   ·subst c26
    rw [if_pos rfl] at H;obtain rfl:=Option.some.inj H;go_wp2;repeat (go_quiet (fail);try go_wp2)
    go_ret;exact ⟨z8,z51⟩
   ·replace c26 := Bool.eq_false_iff.mpr c26
    subst c26;rw [if_neg (show¬(false=true) by decide)] at H;have H':=aK H;clear H;go_wp2;repeat (go_quiet (fail);try go_wp2)
    go_loopg [5] kj2 (fun kq v5 w'=> ∃(x5_2:Int),v5= .int .i64 x5_2∧Aside0 (laws_leMem.l0 kq x5_2 l0_0 a0_1 a0_2 a0_3 l0_4 l1_0 a1_1 a1_2 a1_3 l1_4=some r)∧Aside0 (kq≤kj2)∧Aside0 (w'.heap[gb380]? =some (.cells #[(.slice A0_0 l0_0.length c0_0),.int .i64 a0_1,.int .i64 a0_2,.int .i64 a0_3,(.slice A0_4 l0_4.length c0_4)] 27 (0,0)))∧Aside0 (w'.heap[gb381]? =some (.cells #[(.slice A1_0 l1_0.length c1_0),.int .i64 a1_1,.int .i64 a1_2,.int .i64 a1_3,(.slice A1_4 l1_4.length c1_4)] 27 (0,0)))∧Aside0 (Below w.heap.size w w'))
    case atStart=>exact ⟨(0),z7,H',⟨Nat.le_refl _⟩,⟨by (with_reducible repeat (first|refine blk_drewN ?_ _|refine blk_drew ?_|refine blk_alloc ?_ _));exact BK380.out⟩,⟨by (with_reducible repeat (first|refine blk_drewN ?_ _|refine blk_drew ?_|refine blk_alloc ?_ _));exact BK381.out⟩,⟨by repeat (first|(with_reducible first|exact HB.out|apply below_alloc|apply pw_below_drewN|apply below_drew1|refine below_set ?_ GE380.out|refine below_set ?_ GE381.out)|exact HB.out)⟩⟩
    case round =>
     clear H';(try clear c1);(try clear c2);(try clear p2);(try clear c7);(try clear c8);(try clear c8b0);(try clear c8b1);(try clear c9);(try clear c9b0);(try clear c9b1);(try clear c10);(try clear c10b0);(try clear c10b1);(try clear c11);(try clear c13);(try clear c14);(try clear c17);(try clear c20);(try clear c23);(try clear c26);(try clear hcz12_0);(try clear hcz12_1);(try clear hcz12_2);(try clear hcz12_3);(try clear hcz12_4);(try clear hcz13_0);(try clear hcz13_1);(try clear hcz13_2);(try clear hcz13_3);(try clear hcz13_4);(try clear hcz15_0);(try clear hcz15_1);(try clear hcz15_2);(try clear hcz15_3);(try clear hcz15_4);(try clear hcz16_0);(try clear hcz16_1);(try clear hcz16_2);(try clear hcz16_3);(try clear hcz16_4);(try clear hcz18_0);(try clear hcz18_1);(try clear hcz18_2);(try clear hcz18_3);(try clear hcz18_4);(try clear hcz19_0);(try clear hcz19_1);(try clear hcz19_2);(try clear hcz19_3);(try clear hcz19_4);(try clear hcz21_0);(try clear hcz21_1);(try clear hcz21_2);(try clear hcz21_3);(try clear hcz21_4);(try clear hcz22_0);(try clear hcz22_1);(try clear hcz22_2);(try clear hcz22_3);(try clear hcz22_4);(try clear hcz24_0);(try clear hcz24_1);(try clear hcz24_2);(try clear hcz24_3);(try clear hcz24_4);(try clear hcz25_0);(try clear hcz25_1);(try clear hcz25_2);(try clear hcz25_3);(try clear hcz25_4);(try clear hfz12_0);(try clear hfz12_1);(try clear hfz12_2);(try clear hfz12_3);(try clear hfz12_4);(try clear hfz13_0);(try clear hfz13_1);(try clear hfz13_2);(try clear hfz13_3);(try clear hfz13_4);(try clear hfz15_0);(try clear hfz15_1);(try clear hfz15_2);(try clear hfz15_3);(try clear hfz15_4);(try clear hfz16_0);(try clear hfz16_1);(try clear hfz16_2);(try clear hfz16_3);(try clear hfz16_4);(try clear hfz18_0);(try clear hfz18_1);(try clear hfz18_2);(try clear hfz18_3);(try clear hfz18_4);(try clear hfz19_0);(try clear hfz19_1);(try clear hfz19_2);(try clear hfz19_3);(try clear hfz19_4);(try clear hfz21_0);(try clear hfz21_1);(try clear hfz21_2);(try clear hfz21_3);(try clear hfz21_4);(try clear hfz22_0);(try clear hfz22_1);(try clear hfz22_2);(try clear hfz22_3);(try clear hfz22_4);(try clear hfz24_0);(try clear hfz24_1);(try clear hfz24_2);(try clear hfz24_3);(try clear hfz24_4);(try clear hfz25_0);(try clear hfz25_1);(try clear hfz25_2);(try clear hfz25_3);(try clear hfz25_4);(try clear p2);obtain ⟨x5_2,rfl,HA,HK2,BK380,BK381,HB⟩:=hrel
     cases gk with
     |zero=>exact absurd HA.out (by simp [laws_leMem.l0])
     | succ k2 =>
      have H:=HA.out;clear HA;simp only [laws_leMem.l0] at H;by_cases c27:x5_2<(l0_4.length:Int)
      ·rw [if_pos c27] at H
       have c27b0:decide (x5_2<(l0_4.length:Int))=true:=decide_eq_true c27
       clear c27;by_cases c28:0≤x5_2
       ·rw [if_pos c28] at H
        have c28b0:decide (0≤x5_2)=true:=decide_eq_true c28
        clear c28;by_cases c29:x5_2<(l1_4.length:Int)
        ·rw [if_pos c29] at H
         have c29b0:decide (x5_2<(l1_4.length:Int))=true:=decide_eq_true c29
         clear c29;by_cases c30:((rdOf false l0_4 x5_2) !=(rdOf false l1_4 x5_2))=true
         ·rw [if_pos c30] at H
          have c30b0:((rdOf false l0_4 x5_2) !=(rdOf false l1_4 x5_2))=true:=c30
          (try (have c30b1:decide ((rdOf false l0_4 x5_2)=(rdOf false l1_4 x5_2))=false:=by simpa using c30))
          (try (have c30b2:((rdOf false l0_4 x5_2)==(rdOf false l1_4 x5_2))=false:=by simpa using c30))
          (try (have c30b3: ¬((rdOf false l0_4 x5_2)=(rdOf false l1_4 x5_2)):=by simpa using c30))
          clear c30;obtain rfl:=Option.some.inj H;have hnb31:=NB380_381.out;have hnc31:=NB381_380.out;obtain ⟨hcz32_0,hcz32_1,hcz32_2,hcz32_3,hcz32_4,hfz32_0,hfz32_1,hfz32_2,hfz32_3,hfz32_4⟩:=cbf5 BK380;have p383:0≤(x5_2:Int):=of_decide_eq_true z3
          have q383:x5_2<(l0_4.length:Int):=of_decide_eq_true z3
          obtain ⟨ad383,e383,hx383_0⟩:=Kd.at_bool HR0_4.out x5_2 p383 q383
          cases e383
          replace hx383_0:=(HB.out.cell (World.block_lt_of_cell? w _ hx383_0)).trans hx383_0;replace p383:=eq_true p383;replace q383:=eq_true q383;obtain ⟨hcz33_0,hcz33_1,hcz33_2,hcz33_3,hcz33_4,hfz33_0,hfz33_1,hfz33_2,hfz33_3,hfz33_4⟩:=cbf5 BK381;have p384:0≤(x5_2:Int):=of_decide_eq_true z3
          have q384:x5_2<(l1_4.length:Int):=of_decide_eq_true z3
          obtain ⟨ad384,e384,hx384_0⟩:=Kd.at_bool HR1_4.out x5_2 p384 q384
          cases e384
          replace hx384_0:=(HB.out.cell (World.block_lt_of_cell? w _ hx384_0)).trans hx384_0;replace p384:=eq_true p384;replace q384:=eq_true q384;go_wp2;repeat (go_quiet (fail);try go_wp2)
          go_ret;exact ⟨z8,z51⟩
         ·rw [if_neg c30] at H
          have c30b0:((rdOf false l0_4 x5_2) !=(rdOf false l1_4 x5_2))=false:=by simpa using c30
          (try (have c30b1:decide ((rdOf false l0_4 x5_2)=(rdOf false l1_4 x5_2))=true:=by simpa using c30))
          (try (have c30b2:((rdOf false l0_4 x5_2)==(rdOf false l1_4 x5_2))=true:=by simpa using c30))
          clear c30;have H':=aK H;clear H;have hnb34:=NB380_381.out;have hnc34:=NB381_380.out;obtain ⟨hcz35_0,hcz35_1,hcz35_2,hcz35_3,hcz35_4,hfz35_0,hfz35_1,hfz35_2,hfz35_3,hfz35_4⟩:=cbf5 BK380;have p383:0≤(x5_2:Int):=of_decide_eq_true z3
          have q383:x5_2<(l0_4.length:Int):=of_decide_eq_true z3
          obtain ⟨ad383,e383,hx383_0⟩:=Kd.at_bool HR0_4.out x5_2 p383 q383
          cases e383
          replace hx383_0:=(HB.out.cell (World.block_lt_of_cell? w _ hx383_0)).trans hx383_0;replace p383:=eq_true p383;replace q383:=eq_true q383;obtain ⟨hcz36_0,hcz36_1,hcz36_2,hcz36_3,hcz36_4,hfz36_0,hfz36_1,hfz36_2,hfz36_3,hfz36_4⟩:=cbf5 BK381;have p384:0≤(x5_2:Int):=of_decide_eq_true z3
          have q384:x5_2<(l1_4.length:Int):=of_decide_eq_true z3
          obtain ⟨ad384,e384,hx384_0⟩:=Kd.at_bool HR1_4.out x5_2 p384 q384
          cases e384
          replace hx384_0:=(HB.out.cell (World.block_lt_of_cell? w _ hx384_0)).trans hx384_0;replace p384:=eq_true p384;replace q384:=eq_true q384;go_wp2;repeat (go_quiet (fail);try go_wp2)
          go_roundg k2
          case measure=>have:=HJ2.out;have:=HK2.out;omega
          case rel=>exact ⟨(wrap64 (x5_2+1)),z7,H',⟨by have:=HJ2.out;have:=HK2.out;omega⟩,⟨by (with_reducible repeat (first|refine blk_drewN ?_ _|refine blk_drew ?_|refine blk_alloc ?_ _));exact BK380.out⟩,⟨by (with_reducible repeat (first|refine blk_drewN ?_ _|refine blk_drew ?_|refine blk_alloc ?_ _));exact BK381.out⟩,⟨by repeat (first|(with_reducible first|exact HB.out|apply below_alloc|apply pw_below_drewN|apply below_drew1|refine below_set ?_ GE380.out|refine below_set ?_ GE381.out)|exact HB.out)⟩⟩
        ·rw [if_neg c29] at H
         exact absurd H (by simp)
       ·rw [if_neg c28] at H
        exact absurd H (by simp)
      ·rw [if_neg c27] at H
       have c27b0:decide (x5_2<(l0_4.length:Int))=false:=decide_eq_false c27
       clear c27;obtain rfl:=Option.some.inj H;have hnb37:=NB380_381.out;have hnc37:=NB381_380.out;obtain ⟨hcz38_0,hcz38_1,hcz38_2,hcz38_3,hcz38_4,hfz38_0,hfz38_1,hfz38_2,hfz38_3,hfz38_4⟩:=cbf5 BK380;go_wp2;repeat (go_quiet (fail);try go_wp2)
       go_ret;exact ⟨z8,z51⟩
end Go.Proofs.Ytnlieahdakafbaa.K
namespace Go.Proofs.Ytnlieahdakafbaa.K
open Go.RowKit Go.Proofs.YtnlieahdakafbaaW.PrintWords Go.Proofs.YtnlieahdakafbaaW.PrintLast Go.Proofs.YtnlieahdakafbaaW.PrintMore
attribute [local go_sem] max2_int min2_int max_two min_two max_three min_three max_four min_four
set_option linter.unusedVariables false
set_option linter.unusedSimpArgs false
def memory_get.f (m:Mm) (at_ k:Int):Option Int:=(thing_first.f m at_).bind fun a=>if 0≤a+k∧a+k<m.words.length then some (rd m.words (a+k)) else none
set_option maxHeartbeats 4000000 in
set_option maxRecDepth 100000 in
theorem memory_get.calls (g:Nat) (m:Mm) (at_ k r:Int) (w:World) (hm:MV w g m) (h:memory_get.f m at_ k=some r):
  Calls Try.prog 48 #[.pointer (some ⟨g,0,none⟩),.int .i64 at_,.int .i64 k] w fun e w'=>e= .returned (.int .i64 r)∧Below w.heap.size w w':=by
 unfold memory_get.f at h;obtain ⟨a,ha,h⟩:=Option.bind_eq_some_iff.mp h;have l1:=thing_first_lt ha
 split at h
 case isFalse=>simp at h
 case isTrue h2=>
 have HFi:=aK ha;have HM1:=aK hm;have HR:=aK (Option.some.inj h);obtain ⟨j,hj⟩: ∃j,j=a+k:=⟨_,rfl⟩;have q1:IntKind.i64.wrap (a+k)=j:=by rw [hj];exact IntWalk.i64_in _ ⟨by omega,by omega⟩
 rw [←hj] at HR;obtain ⟨AW,cW,AC,cC,AF,cF,AB,cB,h0,hW,_,_,_,_⟩:=hm;have p1:=eq_true (show 0≤j by omega);have p2:=eq_true (show j<(m.words.length:Int) by omega);obtain ⟨ad,e0,hx⟩:=Kd.at_int hW j (by omega) (by omega)
 cases e0
 have g0:=(blk_cell h0 0).trans rfl;have HB:=aK (Below.refl w.heap.size w);clear ha h h0 hW h2 l1 hj;go_enter Try.func48,Try.ntmps48;go_wp2;refine sT 14 (S:=fun w'=>Aside0 (Below w.heap.size w w')∧Aside0 (MV w' g (m))∧w'.cell? (⟨g,0,none⟩)=some (.slice (some ad) m.words.length cW)∧w'.cell? (ad.add j.toNat)=some (.int .i64 (rd m.words j))) (ds:=[]) ⟨⟨below_drew1 HB.out⟩,⟨MV_below HM1.out (below_drew1 (Below.refl _ _))⟩,(by go_simp),(by go_simp)⟩ (fun hHeld=>?_);refine pS 0 7 (lA 14 1) ?_;refine pS 1 8 (lA 14 3) ?_;refine pS 2 9 (lA 14 7) ?_;refine pS 3 10 (lA 14 15) ?_;refine pS 5 12 (lA 14 47) ?_;refine pS 6 13 (lA 14 111) ?_;refine pS 9 16 (lA 14 623) ?_;refine tS 4 11 (lA 14 639) rfl rfl (by kernel_rfl) hHeld z33 ?_;refine oS 7 14 (lA 14 767) rfl rfl (fun K hK=>?_);refine gO Try.func54 #[.pointer (some ⟨g,0,none⟩),.int .i64 at_] ?_;(with_reducible refine (memory_thing.calls g at_ _).mono ?_);rintro e w3 ⟨rfl,hb3⟩;refine ⟨_,rfl,?_⟩;refine hK.out _ _ ⟨⟨below_step hHeld.1.out hb3⟩,⟨MV_below hHeld.2.1.out hb3⟩,(pw_cell_below hb3 hHeld.2.2.1),(pw_cell_below hb3 hHeld.2.2.2)⟩ (fun hHeld=>?_);clear hK K;refine nS 14 ?_;refine oS 8 15 (lA 14 1023) rfl rfl (fun K hK=>?_);refine gO Try.func72 #[thV g at_] ?_;(with_reducible refine (thing_first.calls g m at_ a _ hHeld.2.1.out HFi.out).mono ?_);rintro e w3 ⟨rfl,hb3⟩;refine ⟨_,rfl,?_⟩;refine hK.out _ _ ⟨⟨below_step hHeld.1.out hb3⟩,⟨MV_below hHeld.2.1.out hb3⟩,(pw_cell_below hb3 hHeld.2.2.1),(pw_cell_below hb3 hHeld.2.2.2)⟩ (fun hHeld=>?_);clear hK K;refine nS 15 ?_;refine pS 10 17 (lA 14 2047) ?_;refine pS 11 18 (lA 14 4095) ?_;refine tS 12 19 (lA 14 8191) rfl rfl (by kernel_rfl) hHeld z33 ?_;refine pS 13 6 (lA 14 16383) ?_;refine done_ (by kernel_rfl) ?_;go_wp2;go_ret;exact ⟨by rw [←HR.out];rfl,hHeld.1.out⟩
end Go.Proofs.Ytnlieahdakafbaa.K
namespace Go.Proofs.Ytnlieahdakafbaa.K
open Go.RowKit Go.Proofs.YtnlieahdakafbaaW.PrintWords Go.Proofs.YtnlieahdakafbaaW.PrintLast Go.Proofs.YtnlieahdakafbaaW.PrintMore
attribute [local go_sem] max2_int min2_int max_two min_two max_three min_three max_four min_four
set_option linter.unusedVariables false
set_option linter.unusedSimpArgs false
def getOf (k:Nat) (a2 a3:Int):Option Mm→Option (Int×Bool)
  |none=>some (0,false)
  |some m=>(memory_hasIn.f k m a2 a3).bind fun b=>if b=true then (memory_get.f m a2 a3).bind fun x=>some (x,true) else some (0,false)
def impl_MemGet.f (k:Nat) (l0:List (S112)) (l1_0:List Int) (a1_1:Int) (a1_2:Int) (a1_3:Int) (l1_4:List Bool) (a2:Int) (a3:Int):Option (Int×Bool):=(mopen k k l0 l1_0 a1_1 a1_2 a1_3 l1_4).bind fun r=>getOf k a2 a3 r
set_option maxHeartbeats 8000000 in
set_option maxRecDepth 100000 in
theorem impl_MemGet.calls (k:Nat) (A0:Option Addr) (c0:Nat) (l0:List (S112)) (A1_0:Option Addr) (c1_0:Nat) (l1_0:List Int) (a1_1:Int) (a1_2:Int) (a1_3:Int) (A1_4:Option Addr) (c1_4:Nat) (l1_4:List Bool) (a2:Int) (a3:Int) (r1:Int) (r2:Bool) (w:World) (hr0:Kd.C k112 w A0 l0.length l0) (hc0:l0.length≤c0) (hr1_0:Kd.C (Kd.int .i64) w A1_0 l1_0.length l1_0) (hc1_0:l1_0.length≤c1_0) (hr1_4:Kd.C Kd.bool w A1_4 l1_4.length l1_4) (hc1_4:l1_4.length≤c1_4) (h:impl_MemGet.f k l0 l1_0 a1_1 a1_2 a1_3 l1_4 a2 a3=some (r1,r2)):
  Calls Try.prog 15 #[.slice A0 l0.length c0,.agg #[.slice A1_0 l1_0.length c1_0,.int .i64 a1_1,.int .i64 a1_2,.int .i64 a1_3,.slice A1_4 l1_4.length c1_4],.int .i64 a2,.int .i64 a3] w fun e w'=>e= .returned (.tuple #[.int .i64 r1,.bool r2])∧Below w.heap.size w w':=by
 unfold impl_MemGet.f at h;obtain ⟨m,hm,h⟩:=Option.bind_eq_some_iff.mp h;have HM:=aK hm;have HR0:=aK hr0;have HC0:=aK hc0;have HR1:=aK hr1_0;have HC1:=aK hc1_0;have HR4:=aK hr1_4;have HC4:=aK hc1_4;have HB:=aK (below_alloc (Below.refl w.heap.size w) (.cells #[.slice A1_0 l1_0.length c1_0,.int .i64 a1_1,.int .i64 a1_2,.int .i64 a1_3,.slice A1_4 l1_4.length c1_4] 27 (0,0)));have HH:=aK h;clear hr0 hc0 hr1_0 hc1_0 hr1_4 hc1_4 h hm;go_enter Try.func15,Try.ntmps15
 go_wp2_with fail
 go_at_call 35;refine (memOpen.calls k k A0 c0 l0 A1_0 c1_0 l1_0 a1_1 a1_2 a1_3 A1_4 c1_4 l1_4 m _ (Kd.C_below HR0.out HB.out) HC0.out (Kd.C_below HR1.out HB.out) HC1.out (Kd.C_below HR4.out HB.out) HC4.out HM.out).mono ?_
 cases m with
 |none=>
  rintro e w1 ⟨rfl,hb⟩;have HB1:=aK (below_step HB.out hb);have hh:=Option.some.inj HH.out;injection hh with h1 h2;subst h1 h2;clear hb HM HH;go_wp2
  go_ret2
  exact ⟨rfl,HB1.out⟩
 | some m =>
  rintro e w1 ⟨g,rfl,hmo,hb⟩;have HB1:=aK (below_step HB.out hb);have HMO:=aK hmo;have hh:=HH.out;unfold getOf at hh;obtain ⟨b,hq,hh⟩:=Option.bind_eq_some_iff.mp hh;have HQ:=aK hq;clear hb HM HH hmo hq
  cases b with
  |false=>
   rw [if_neg (by simp)] at hh;have hh:=Option.some.inj hh;injection hh with h1 h2;subst h1 h2
   go_wp2_with (go_at_call 36;refine (memory_hasIn.calls k g m a2 a3 false _ (MO_MV HMO.out) HQ.out).mono ?_;rintro e w2 ⟨rfl,hd⟩;have HB2:=aK (below_step HB1.out hd);clear hd)
   go_ret2
   exact ⟨rfl,HB2.out⟩
  |true=>
   rw [if_pos rfl] at hh;obtain ⟨x,hx,hh⟩:=Option.bind_eq_some_iff.mp hh;have HS:=aK hx;have hh:=Option.some.inj hh;injection hh with h1 h2;subst h1 h2;clear hx
   go_wp2_with (first|(go_at_call 36;refine (memory_hasIn.calls k g m a2 a3 true _ (MO_MV HMO.out) HQ.out).mono ?_;rintro e w2 ⟨rfl,hd⟩;have HB2:=aK (below_step HB1.out hd);have HMO2:=aK (MO_below HMO.out hd);clear hd)|(go_at_call 48;refine (memory_get.calls g m a2 a3 x _ (MO_MV HMO2.out) HS.out).mono ?_;rintro e w4 ⟨rfl,hd⟩;have HB4:=aK (below_step HB2.out hd);clear hd))
   go_ret2
   exact ⟨rfl,HB4.out⟩
end Go.Proofs.Ytnlieahdakafbaa.K
namespace Go.Proofs.Ytnlieahdakafbaa.Pure
open Go.RowKit Go.Proofs.Ytnlieahdakafbaa.K Go.Proofs.YtnlieahdakafbaaW.PrintWords Go.Proofs.YtnlieahdakafbaaW.PrintLast Go.Proofs.YtnlieahdakafbaaW.PrintMore
set_option linter.unusedVariables false
set_option linter.unusedSimpArgs false
theorem leInts_l0 (xs:List Int) (hl:xs.length≤1048576) (d:Nat): ∀(k i:Nat),i+d=xs.length→d<k→laws_leInts.l0 k xs xs i=some true:=by
 induction d with
 |zero=>
  intro k i hi hk;obtain ⟨k,rfl⟩: ∃m,k=m+1:=⟨k - 1,by omega⟩;rw [laws_leInts.l0,if_neg (by omega)]
 |succ d ih=>
  intro k i hi hk;obtain ⟨k,rfl⟩: ∃m,k=m+1:=⟨k - 1,by omega⟩;rw [laws_leInts.l0,if_pos (by omega),if_pos (by omega),if_pos (by omega),if_pos rfl,wrap_inc (n:=1048577) (by omega) (by omega) (by omega)];have:=ih k (i+1) (by omega) (by omega)
  rw [show ((i+1:Nat):Int)=(i:Int)+1 by omega] at this;exact this
theorem leInts_self (xs:List Int) (hl:xs.length≤1048576) (k:Nat) (hk:1048578≤k):laws_leInts.f k xs xs=some true:=by
 unfold laws_leInts.f;rw [if_pos rfl];exact leInts_l0 xs hl xs.length k 0 (by omega) (by omega)
end Go.Proofs.Ytnlieahdakafbaa.Pure
namespace Go.Proofs.Ytnlieahdakafbaa.Pure
open Go.RowKit Go.Proofs.Ytnlieahdakafbaa.K Go.Proofs.YtnlieahdakafbaaW.PrintWords Go.Proofs.YtnlieahdakafbaaW.PrintLast Go.Proofs.YtnlieahdakafbaaW.PrintMore
set_option linter.unusedVariables false
set_option linter.unusedSimpArgs false
theorem leMem_l0 (ws:List Int) (y t o:Int) (cs:List Bool) (hl:cs.length≤1048576) (d:Nat): ∀(k i:Nat),i+d=cs.length→d<k→laws_leMem.l0 k i ws y t o cs ws y t o cs=some true:=by
 induction d with
 |zero=>
  intro k i hi hk;obtain ⟨k,rfl⟩: ∃m,k=m+1:=⟨k - 1,by omega⟩;rw [laws_leMem.l0,if_neg (by omega)]
 |succ d ih=>
  intro k i hi hk;obtain ⟨k,rfl⟩: ∃m,k=m+1:=⟨k - 1,by omega⟩;rw [laws_leMem.l0,if_pos (by omega),if_pos (by omega),if_pos (by omega),if_neg (by simp),wrap_inc (n:=1048577) (by omega) (by omega) (by omega)];have:=ih k (i+1) (by omega) (by omega)
  rw [show ((i+1:Nat):Int)=(i:Int)+1 by omega] at this;exact this
theorem leMem_at (ws:List Int) (y t o:Int) (cs:List Bool) (hw:ws.length≤1048576) (hl:cs.length≤1048576) (k:Nat) (hk:1048580≤k):laws_leMem.f k ws y t o cs ws y t o cs=some true:=by
 unfold laws_leMem.f;rw [leInts_self ws hw k (by omega),Option.bind_some,if_pos rfl,if_pos rfl,if_pos rfl,if_pos rfl];obtain ⟨k,rfl⟩: ∃m,k=m+1:=⟨k - 1,by omega⟩;rw [laws_leMem.j0,if_neg (by simp)];exact leMem_l0 ws y t o cs hl cs.length k 0 (by omega) (by omega)
end Go.Proofs.Ytnlieahdakafbaa.Pure
namespace Go.Proofs.Ytnlieahdakafbaa.Pure
open Go.RowKit Go.Proofs.Ytnlieahdakafbaa.K Go.Proofs.YtnlieahdakafbaaW.PrintWords Go.Proofs.YtnlieahdakafbaaW.PrintLast Go.Proofs.YtnlieahdakafbaaW.PrintMore
set_option linter.unusedVariables false
set_option linter.unusedSimpArgs false
theorem l21Copy_eq (ws:List Int) (y t o:Int) (cards:List Bool) (h0:ws.length≤1048576) (h4:cards.length≤1048576):spec_l21Copy.f ws y t o cards=some (ws,y,t,o,cards):=by
 unfold spec_l21Copy.f;rw [Option.bind_some,if_pos (by simp;omega),Option.bind_some,if_pos (by simp;omega)];simp
end Go.Proofs.Ytnlieahdakafbaa.Pure
namespace Go.Proofs.Ytnlieahdakafbaa.Pure
open Go.RowKit Go.Proofs.Ytnlieahdakafbaa.K Go.Proofs.YtnlieahdakafbaaW.PrintWords Go.Proofs.YtnlieahdakafbaaW.PrintLast Go.Proofs.YtnlieahdakafbaaW.PrintMore
set_option linter.unusedVariables false
set_option linter.unusedSimpArgs false
theorem is_eq {cs:Cs} {ws:List Int} {y t o:Int} {cards:List Bool} (hb:Bnd cs ws y t o cards) {W:List Int} (hw:Wlk cs ws W) (hk: ∀k,4000000≤k→spec_l21Walk.f k cs ws y t o cards=some (W,true)) (a:Int):
  ∀k,4000000≤k→spec_l21Is.f k cs ws y t o cards a=some (decide (a - 1∈W)):=by
 intro k hk2;have n0:=hb.n0;have n1:=hb.n1;have y0:=hb.y0;have y1:=hb.y1;unfold spec_l21Is.f;rw [hk k hk2,Option.bind_some,spec_l6In_eq,Option.bind_some];simp only [decide_eq_true_eq]
 by_cases c:1≤a∧a≤(ws.length:Int)
 ·rw [if_pos c,starts_eq (fun x hx=>wlk_range hw hx) (by have:=hw.len;omega) (by omega) k (by omega),Option.bind_some,wrap64_of (n:=a - 1) (by omega) (by omega),if_pos (by omega),startsL_len,if_pos (by omega),startsL_at W ws.length (by omega) (by omega)]
 ·rw [if_neg c,decide_eq_false (fun h=>c (by have:=wlk_range hw h;omega))]
end Go.Proofs.Ytnlieahdakafbaa.Pure
namespace Go.Proofs.Ytnlieahdakafbaa.Pure
open Go.RowKit Go.Proofs.Ytnlieahdakafbaa.K Go.Proofs.YtnlieahdakafbaaW.PrintWords Go.Proofs.YtnlieahdakafbaaW.PrintLast Go.Proofs.YtnlieahdakafbaaW.PrintMore
set_option linter.unusedVariables false
set_option linter.unusedSimpArgs false
theorem refs_eq {cs:Cs} {ws:List Int} {y t o:Int} {cards:List Bool} (hb:Bnd cs ws y t o cards) {c hd cnt x:Int} (hc:c=rd ws x) (h0:0≤x) (hhd:hd=1∨hd=2) (hcn:0≤cnt) (hcn8:cnt≤8) (hsz:x+hd+cnt≤ws.length) (hhe:spec_l21Head.f c=some hd) (hl21: ∀k,20≤k→spec_l21Size.f k cs ws x ws.length=some (hd+cnt)) (hcc:c= -1∨c= -2∨(0≤c∧c<cs.length∧hd=1∧cnt=(cfl cs c).length)):
  ∀k,200≤k→spec_l21Refs.f k cs ws x=some (refsL cs c hd (hd+cnt)):=by
 intro k hk;unfold spec_l21Refs.f;rw [hl21 k (by omega),Option.bind_some,if_pos (by omega),if_pos (by omega),if_pos h0,if_pos (by omega),←hc,hhe,Option.bind_some]
 have:=refs_l0 hb.ok (c:=c) (hd:=hd) (s:=(hd+cnt).toNat) (by omega) hhd (by rcases hcc with z|z|z;exact .inl z;exact .inr (.inl z);exact .inr (.inr ⟨z.1,z.2.1,z.2.2.1,by omega⟩)) ((hd+cnt).toNat - hd.toNat) k hd.toNat (List.replicate (hd+cnt).toNat false) (by omega) (by omega) (by omega) (by simp) (fun i hi=>by
  rw [List.getD_eq_getElem?_getD,List.getElem?_replicate,if_pos hi]
  rw [decide_eq_false (by omega)];rfl)
 rw [show ((hd.toNat:Nat):Int)=hd by omega,show (((hd+cnt).toNat:Nat):Int)=hd+cnt by omega] at this;exact this
end Go.Proofs.Ytnlieahdakafbaa.Pure
namespace Go.Proofs.Ytnlieahdakafbaa.Pure
open Go.RowKit Go.Proofs.Ytnlieahdakafbaa.K Go.Proofs.YtnlieahdakafbaaW.PrintWords Go.Proofs.YtnlieahdakafbaaW.PrintLast Go.Proofs.YtnlieahdakafbaaW.PrintMore
set_option linter.unusedVariables false
set_option linter.unusedSimpArgs false
theorem MemPut_eq {cs : Cs} (hf : fewF cs) {ws : List Int} {y t o : Int} {cards : List Bool} (hn : ws.length ≤ 1048576) (hc : cards.length ≤ 1048576) (a b v : Int) :
    ∃s:List Int×Int×Int×Int×List Bool×Bool,s.1.length≤1048576∧s.2.2.2.2.1.length≤1048576∧(∀k,4000000≤k→impl_MemPut.f k cs ws y t o cards a b v=some s)∧∀k,4000000≤k→spec_MemPut.f k cs ws y t o cards a b v=some s:=by
  obtain ⟨r,h1,h2,h3⟩:=open_eq2 (cs:=cs) hf (ws:=ws) (y:=y) (t:=t) (o:=o) (cards:=cards) hn hc
  cases r with
  |none=>exact ⟨([],0,0,0,[],false),by simp,by simp,fun k hk=>by unfold impl_MemPut.f;rw [h1 k hk];rfl,fun k hk=>by unfold spec_MemPut.f;rw [h2 k hk];rfl⟩
  | some m =>
    obtain ⟨W,hb,hw,hm,hk,hp,_,_⟩:=h3 m rfl;have n0:=hb.n0;have n1:=hb.n1;have y0:=hb.y0;have y1:=hb.y1;have t0:=hb.t0;have t1:=hb.t1;have o0:=hb.o0;have o1:=hb.o1;have cd:=hb.cd;have hh:=has_eq hw m (by rw [hm]) a;have hi:=is_eq hb hw hk a
    have hS: ∀k,4000000≤k→spec_MemPut.f k cs ws y t o cards a b v=(spec_l21Inside.f k cs ws y t o cards a b).bind fun i=>if i.2=true then (spec_l21Refs.f k cs ws (wrap64 (a - 1))).bind fun R=>
        if 0≤wrap64 (wrap64 (i.1 - a)+1)∧wrap64 (wrap64 (i.1 - a)+1)<(R.length:Int) then (spec_l21Walk.f k cs ws y t o cards).bind fun W=>
          if rdOf false R (wrap64 (wrap64 (i.1 - a)+1))=true then (spec_l21Starts.f k (ws.length:Int) W.1).bind fun T=>(spec_l21Lead.f T v).bind fun ld=>sput_end k ld ws y t o cards i.1 v true
          else (spec_l1Word.f v).bind fun z=>sput_end k z ws y t o cards i.1 v false
        else none
      else some ([],0,0,0,[],false):=fun k hk2=>by
      unfold spec_MemPut.f;rw [h2 k hk2,Option.bind_some];simp only [Option.isSome_some,if_true]
    have hI0: ∀k,impl_MemPut.f k cs ws y t o cards a b v=(mopen k k cs ws y t o cards).bind fun r=>putOf k a b v r:=fun k=>rfl
    by_cases c:a - 1∈W
    case neg=>
      refine ⟨([],0,0,0,[],false),by simp,by simp,fun k hk2=>?_,fun k hk2=>?_⟩
      · rw [hI0, h1 k hk2, Option.bind_some]
        unfold putOf memory_hasIn.f
        dsimp only
        rw [hh k (by omega),Option.bind_some,decide_eq_false c];rfl
      · rw [hS k hk2]
        unfold spec_l21Inside.f;rw [hi k hk2,Option.bind_some,decide_eq_false c];rfl
    case pos=>
    obtain ⟨cc,hd,cnt,hcc,h0,hhd,hcn,hcn8,hsz,hco,hfi,hhe,hl21,hle,hcl⟩:=thing_facts hb hw m hm c;rw [show a - 1+1=a by omega] at hco hfi hle
    have hI: ∀k,4000000≤k→spec_l21Inside.f k cs ws y t o cards a b=some (wrap64 (wrap64 (a - 1+hd)+b),decide (0≤b∧b≤cnt - 1)):=fun k hk2=>by
      unfold spec_l21Inside.f
      rw [hi k hk2,Option.bind_some,decide_eq_true c,if_pos rfl,wrap64_of (n:=a - 1) (by omega) (by omega),if_pos (by omega),if_pos (by omega),←hcc,hhe,Option.bind_some,hl21 k (by omega),Option.bind_some,spec_l6In_eq,Option.bind_some,
        show hd+cnt - hd=cnt by omega,wrap64_of (n:=cnt) (by omega) (by omega),wrap64_of (n:=cnt - 1) (by omega) (by omega)]
    by_cases z:0≤b∧b≤cnt - 1
    case neg=>
      refine ⟨([],0,0,0,[],false),by simp,by simp,fun k hk2=>?_,fun k hk2=>?_⟩
      · rw [hI0, h1 k hk2, Option.bind_some]
        unfold putOf memory_hasIn.f
        dsimp only
        rw [hh k (by omega),Option.bind_some,decide_eq_true c,if_pos rfl];by_cases z0:0≤b
        · rw [if_pos z0,hco,Option.bind_some,decide_eq_false (show¬b<cnt by omega)];rfl
        · rw [if_neg z0];rfl
      · rw [hS k hk2,hI k hk2,Option.bind_some,decide_eq_false z];rfl
    case pos=>
    obtain ⟨i,hii⟩: ∃i,i=a - 1+hd+b:=⟨_,rfl⟩;have hiw:wrap64 (wrap64 (a - 1+hd)+b)=i:=by rw [wrap64_of (n:=a - 1+hd) (by omega) (by omega),wrap64_of (by omega) (by omega),hii]
    have hRl:((refsL cs cc hd (hd+cnt)).length:Int)=hd+cnt:=by unfold refsL;rw [List.length_map,List.length_range];omega
    have hrd:rdOf false (refsL cs cc hd (hd+cnt)) (hd+b)=ldB cs cc b:=by rw [refsL_at cs cc hd (hd+cnt) (by omega) (by omega) (by omega),show hd+b - hd=b by omega]
    have hpart:=part_facts hb hp c hl21;have hcd:i≥y→(i - y)/4<(cards.length:Int):=fun _=>by omega
    have hS2: ∀k,4000000≤k→spec_MemPut.f k cs ws y t o cards a b v=if ldB cs cc b=true then sput_end k (decide (v=0)||decide (v - 1∈W)) ws y t o cards i v true else sput_end k (decide (-128≤v∧v≤127)) ws y t o cards i v false:=fun k hk2=>by
      rw [hS k hk2,hI k hk2,Option.bind_some,decide_eq_true z,if_pos rfl]
      dsimp only
      rw [wrap64_of (n:=a - 1) (by omega) (by omega),refs_eq hb hcc h0 hhd hcn hcn8 hsz hhe hl21 hcl k (by omega),Option.bind_some,hiw,wrap64_of (n:=i - a) (by omega) (by omega),wrap64_of (n:=i - a+1) (by omega) (by omega),show i - a+1=hd+b by omega,if_pos (by omega),hk k hk2,Option.bind_some,hrd];by_cases l:ldB cs cc b=true
      · rw [if_pos l,if_pos l,starts_eq (fun x hx=>wlk_range hw hx) (by have:=hw.len;omega) (by omega) k (by omega),Option.bind_some,lead_eq hw hn,Option.bind_some]
      · rw [if_neg l, if_neg l]
        unfold spec_l1Word.f;rw [spec_l6In_eq];rfl
    have hE: ∀k (ok ref:Bool),sput_end k ok ws y t o cards i v ref=if ok=true then some ((putM ws y cards i v ref).1,y,t,o,(putM ws y cards i v ref).2,true) else some ([],0,0,0,[],false):=fun k ok ref=>by
      unfold sput_end
      cases ok with
      |false=>rfl
      |true=>rw [if_pos rfl,if_pos rfl,l21Copy_eq ws y t o cards hn hc,Option.bind_some];dsimp only;rw [l21Put_eq ref hn (by omega) (by omega) y0 y1 hcd,Option.bind_some]
    have hl1: ∀ref,(putM ws y cards i v ref).1.length≤1048576:=fun ref=>by unfold putM;rw [List.length_set];exact hn
    have hl4: ∀ref,(putM ws y cards i v ref).2.length≤1048576:=fun ref=>by unfold putM;dsimp only;split;rw [List.length_set];exact hc;exact hc
    have hP: ∀k,4000000≤k→impl_MemPut.f k cs ws y t o cards a b v=(memory_put.f k m a b v).bind fun p=>if p.1=true then some (p.2.words,p.2.young,p.2.top,p.2.old,p.2.cards,true) else some ([],0,0,0,[],false):=fun k hk2=>by
      rw [hI0,h1 k hk2,Option.bind_some];unfold putOf memory_hasIn.f
      dsimp only
      rw [hh k (by omega),Option.bind_some,decide_eq_true c,if_pos rfl,if_pos z.1,hco,Option.bind_some,decide_eq_true (show b<cnt by omega),Option.bind_some,if_pos rfl]
    have hmem:m.words=ws∧m.young=y∧m.top=t∧m.old=o∧m.cards=cards:=by rw [hm];exact ⟨rfl,rfl,rfl,rfl,rfl⟩
    obtain ⟨m0,m1,m2,m3,m4⟩:=hmem
    have hQ: ∀k,memory_put.f k m a b v=if ldB cs cc b=true then
        (if v=0 then some (true,m.setW i v) else (memory_has.f k m v).bind fun h=>if h=true then
          (if a>y then (if v>y then some (true,m.setW i v) else (if 0≤Int.tdiv (i - y) 4∧Int.tdiv (i - y) 4<(cards.length:Int) then some (true,(m.setC (Int.tdiv (i - y) 4)).setW i v) else none)) else some (true,m.setW i v)) else some (false,m))
        else (impl_isWord.f v).bind fun z=>if z=true then some (true,m.setW i v) else some (false,m):=fun k=>by
      unfold memory_put.f;rw [hfi,Option.bind_some,hle b z.1 (by omega),Option.bind_some,m0,m1,m4,show a - 1+hd+b=i from hii.symm,if_pos (by omega)]
    by_cases l:ldB cs cc b=true
    case neg=>
      have hw8:impl_isWord.f v=some (decide (-128≤v∧v≤127)):=by
        unfold impl_isWord.f;by_cases q:v≥ -128
        · rw [if_pos q];simp [show -128≤v from q]
        · rw [if_neg q];simp [show¬ -128≤v from q]
      by_cases q: -128≤v∧v≤127
      · refine ⟨((putM ws y cards i v false).1, y, t, o, (putM ws y cards i v false).2, true), hl1 false, hl4 false, fun k hk2 => ?_, fun k hk2 => ?_⟩
        · rw [hP k hk2, hQ, if_neg l, hw8, decide_eq_true q, Option.bind_some, if_pos rfl, Option.bind_some, if_pos rfl]
          unfold Mm.setW putM;simp [m0,m1,m2,m3,m4]
        · rw [hS2 k hk2,if_neg l,hE,decide_eq_true q,if_pos rfl]
      · refine ⟨([], 0, 0, 0, [], false), by simp, by simp, fun k hk2 => ?_, fun k hk2 => ?_⟩
        · rw [hP k hk2,hQ,if_neg l,hw8,decide_eq_false q];rfl
        · rw [hS2 k hk2,if_neg l,hE,decide_eq_false q];rfl
    case pos=>
    by_cases v0:v=0
    · refine ⟨((putM ws y cards i v true).1, y, t, o, (putM ws y cards i v true).2, true), hl1 true, hl4 true, fun k hk2 => ?_, fun k hk2 => ?_⟩
      · rw [hP k hk2, hQ, if_pos l, if_pos v0, Option.bind_some, if_pos rfl]
        unfold Mm.setW putM
        dsimp only
        rw [if_neg (by omega),m0,m1,m2,m3,m4]
      · rw [hS2 k hk2,if_pos l,hE,decide_eq_true v0];rfl
    have hhv:=has_eq hw m (by rw [hm]) v;by_cases vw:v - 1∈W
    case neg=>
      refine ⟨([],0,0,0,[],false),by simp,by simp,fun k hk2=>?_,fun k hk2=>?_⟩
      · rw [hP k hk2,hQ,if_pos l,if_neg v0,hhv k (by omega),decide_eq_false vw];rfl
      · rw [hS2 k hk2,if_pos l,hE,decide_eq_false v0,decide_eq_false vw];rfl
    case pos=>
    have hvr:=wlk_range hw vw;refine ⟨((putM ws y cards i v true).1,y,t,o,(putM ws y cards i v true).2,true),hl1 true,hl4 true,fun k hk2=>?_,fun k hk2=>?_⟩
    · rw [hP k hk2, hQ, if_pos l, if_neg v0, hhv k (by omega), decide_eq_true vw, Option.bind_some, if_pos rfl]
      by_cases g1:a>y
      · rw [if_pos g1]
        by_cases g2:v>y
        · rw [if_pos g2, Option.bind_some, if_pos rfl]
          unfold Mm.setW putM
          dsimp only
          rw [if_neg (by omega),m0,m1,m2,m3,m4]
        · have := hcd (by omega)
          rw [if_neg g2,Int.tdiv_eq_ediv_of_nonneg (by omega),if_pos (by omega),Option.bind_some,if_pos rfl];unfold Mm.setW Mm.setC putM
          dsimp only
          rw [if_pos ⟨rfl,by omega,by omega,by omega⟩,m0,m1,m2,m3,m4]
      · rw [if_neg g1, Option.bind_some, if_pos rfl]
        unfold Mm.setW putM
        dsimp only
        rw [if_neg (by omega),m0,m1,m2,m3,m4]
    · rw [hS2 k hk2,if_pos l,hE,decide_eq_false v0,decide_eq_true vw];rfl
end Go.Proofs.Ytnlieahdakafbaa.Pure
