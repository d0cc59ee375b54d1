import Derived.Test.YtnlieahdakafbaaPc24
import Derived.Test.YtnlieahdakafbaaPc26
import Derived.Test.YtnlieahdakafbaaPc36
import Derived.Test.YtnlieahdakafbaaPc31
import Derived.Test.YtnlieahdakafbaaPc25
import Derived.Test.YtnlieahdakafbaaPc27
import Derived.Test.YtnlieahdakafbaaPc32
import Derived.Test.YtnlieahdakafbaaPc29
import Derived.Test.YtnlieahdakafbaaPc30
import Derived.Test.YtnlieahdakafbaaPc28
import Derived.Test.YtnlieahdakafbaaPc35
import Derived.Test.YtnlieahdakafbaaPc34
namespace Go.Proofs.Ytnlieahdakafbaa.K
open Go.RowKit Go.Proofs.YtnlieahdakafbaaW.PrintWords Go.Proofs.YtnlieahdakafbaaW.PrintLast Go.Proofs.YtnlieahdakafbaaW.PrintMore
attribute [local go_sem] max2_int min2_int max_two min_two max_three min_three max_four min_four
set_option linter.unusedVariables false
set_option linter.unusedSimpArgs false
def spec_MemObjs.f (k:Nat) (l0:List (S112)) (l1_0:List Int) (a1_1:Int) (a1_2:Int) (a1_3:Int) (l1_4:List Bool):Option ((List (S46))):=(spec_MemOk.f k l0 l1_0 a1_1 a1_2 a1_3 l1_4).bind fun t443=>(if t443=true then ((spec_l21Objs.f k l0 l1_0 a1_1 a1_2 a1_3 l1_4).bind fun t444=>(some t444)) else (some (([]:List (S46)))))
set_option maxHeartbeats 8000000 in
set_option maxRecDepth 100000 in
theorem spec_MemObjs.calls (k:Nat) (A0:Option Addr) (c0:Nat) (l0:List (S112)) (A1_0:Option Addr) (c1_0:Nat) (l1_0:List Int) (a1_1:Int) (a1_2:Int) (a1_3:Int) (A1_4:Option Addr) (c1_4:Nat) (l1_4:List Bool) (r:List (S46)) (w:World) (hr0:Kd.C k112 w A0 l0.length l0) (hc0:l0.length≤c0) (hr1_0:Kd.C (Kd.int .i64) w A1_0 l1_0.length l1_0) (hc1_0:l1_0.length≤c1_0) (hr1_4:Kd.C Kd.bool w A1_4 l1_4.length l1_4) (hc1_4:l1_4.length≤c1_4) (h:spec_MemObjs.f k l0 l1_0 a1_1 a1_2 a1_3 l1_4=some r):
  Calls Try.prog 21 #[.slice A0 l0.length c0,.agg #[.slice A1_0 l1_0.length c1_0,.int .i64 a1_1,.int .i64 a1_2,.int .i64 a1_3,.slice A1_4 l1_4.length c1_4]] w fun e w'=> ∃v0_:Value,e= .returned (v0_)∧Kd.S k46 46 w' w.heap.size (fun _=>True) v0_ r∧Below w.heap.size w w':=by
 have hu27:=Try.underlying27;have HR0:=aK hr0;have HC0:=aK hc0;clear hr0 hc0;have HR1_0:=aK hr1_0;have HC1_0:=aK hc1_0;clear hr1_0 hc1_0;have HR1_4:=aK hr1_4;have HC1_4:=aK hc1_4;clear hr1_4 hc1_4;have HB:=aK (Below.refl w.heap.size w);have H:((spec_MemOk.f k l0 l1_0 a1_1 a1_2 a1_3 l1_4).bind fun t443=>(if t443=true then ((spec_l21Objs.f k l0 l1_0 a1_1 a1_2 a1_3 l1_4).bind fun t444=>(some t444)) else (some (([]:List (S46))))))=some r:=h
 clear h;replace H:=Option.bind_eq_some_iff.mp H;obtain ⟨t443,A30,H⟩:=H;(try dsimp only at H);have A3:=aK A30;clear A30;by_cases c4:t443=true
 ·subst c4
  rw [if_pos rfl] at H;replace H:=Option.bind_eq_some_iff.mp H;obtain ⟨t444,A50,H⟩:=H;(try dsimp only at H);have A5:=aK A50;clear A50;obtain rfl:=Option.some.inj H;go_enter Try.func21,Try.ntmps21
  go_wp2_with (first|((with_reducible refine gate_dst (N:=3) rfl ?_);refine box_event ?hg (N:=3) ?hd (cs:= #[.slice A1_0 l1_0.length c1_0,.int .i64 a1_1,.int .i64 a1_2,.int .i64 a1_3,.slice A1_4 l1_4.length c1_4]) (t:=27) ?hr ?_;(case hd=>rfl);(case hg=>rfl);(case hr=>first|(go_simp;done)|(go_simp;rfl));intro gb442 hg w6 hbox hb;have BK442:=aK (hbox);have GW442:=aK ((by rw [hg];exact (below_size zz1):w.heap.size≤gb442));have GE442:=aK ((by rw [hg];exact (below_size zz1):w.heap.size≤gb442));replace HB:=aK (below_step zz1 hb);clear hb hbox hg;obtain ⟨hcz7_0,hcz7_1,hcz7_2,hcz7_3,hcz7_4,hfz7_0,hfz7_1,hfz7_2,hfz7_3,hfz7_4⟩:=cbf5 BK442)|((with_reducible refine gate_callee (f:=14) rfl ?_);refine goesL_ (some 7) rfl rfl Try.func14 (by kernel_rfl) rfl #[.slice A0 l0.length c0,.agg #[.slice A1_0 l1_0.length c1_0,.int .i64 a1_1,.int .i64 a1_2,.int .i64 a1_3,.slice A1_4 l1_4.length c1_4]] rfl zz2 ?_;(with_reducible refine (spec_MemOk.calls k _ _ l0 _ _ l1_0 a1_1 a1_2 a1_3 _ _ l1_4 true _ ?side1 ?side2 ?side3 ?side4 ?side5 ?side6 A3.out).mono ?_);(case side1=>exact zz5);(case side2=>exact HC0.out);(case side3=>exact zz10);(case side4=>exact HC1_0.out);(case side5=>exact zz13);(case side6=>exact HC1_4.out);rintro e w8 ⟨rfl,hb⟩;refine ⟨_,rfl,?_⟩;replace BK442:=aK (blk_below (g:=gb442) (o:= .cells #[.slice A1_0 l1_0.length c1_0,.int .i64 a1_1,.int .i64 a1_2,.int .i64 a1_3,.slice A1_4 l1_4.length c1_4] 27 (0,0)) zz57 hb);replace HB:=aK (below_step zz34 hb);(try clear hb);(try clear hb2);(try clear hk);(try clear hi);obtain ⟨hcz9_0,hcz9_1,hcz9_2,hcz9_3,hcz9_4,hfz9_0,hfz9_1,hfz9_2,hfz9_3,hfz9_4⟩:=cbf5 BK442)|((with_reducible refine gate_callee (f:=52) rfl ?_);refine goesL_ (some 12) rfl rfl Try.func52 (by kernel_rfl) rfl #[.slice A0 l0.length c0,.agg #[.slice A1_0 l1_0.length c1_0,.int .i64 a1_1,.int .i64 a1_2,.int .i64 a1_3,.slice A1_4 l1_4.length c1_4]] rfl zz2 ?_;(with_reducible refine (spec_l21Objs.calls k _ _ l0 _ _ l1_0 a1_1 a1_2 a1_3 _ _ l1_4 t444 _ ?side1 ?side2 ?side3 ?side4 ?side5 ?side6 A5.out).mono ?_);(case side1=>exact zz5);(case side2=>exact HC0.out);(case side3=>exact zz10);(case side4=>exact HC1_0.out);(case side5=>exact zz13);(case side6=>exact HC1_4.out);rintro e w10 ⟨v445,rfl,ho0,hb⟩;refine ⟨_,rfl,?_⟩;have HO446:=aK (Kd.S_lower ho0 (below_size zz34));replace BK442:=aK (blk_below (g:=gb442) (o:= .cells #[.slice A1_0 l1_0.length c1_0,.int .i64 a1_1,.int .i64 a1_2,.int .i64 a1_3,.slice A1_4 l1_4.length c1_4] 27 (0,0)) zz57 hb);replace HB:=aK (below_step zz34 hb);(try clear hb);(try clear hb2);(try clear hk);(try clear hi);(try clear ho0)))
  go_ret;exact ⟨_,by first|rfl|(simp [errW_none,errW_some]<;>rfl)|(simp [*,errW_none,errW_some]<;>rfl),by (with_reducible repeat (first|apply Kd.S_alloc|apply Kd.S_drewN|apply Kd.S_drew));exact HO446.out,by repeat (first|(with_reducible first|exact HB.out|apply below_alloc|apply pw_below_drewN|apply below_drew1|refine below_set ?_ GE442.out)|exact HB.out)⟩
 ·replace c4 := Bool.eq_false_iff.mpr c4
  subst c4;rw [if_neg (show¬(false=true) by decide)] at H;obtain ⟨y447,hy447⟩: ∃y_:List (S46),y_=(([]:List (S46))):=⟨_,rfl⟩;replace H:(some y447)=some r:=by first|(rw [hy447];with_reducible exact H)|(have H2_:=(Option.bind_some _ _).symm.trans H;rw [hy447];with_reducible exact H2_)|(have H2_:=(Option.bind_some _ _).symm.trans H;with_reducible exact H2_)|with_reducible exact H|(rw [hy447];exact H)|exact H
  have Ny447:=aK hy447;clear hy447;obtain rfl:=Option.some.inj H;go_enter Try.func21,Try.ntmps21
  go_wp2_with (first|((with_reducible refine gate_dst (N:=3) rfl ?_);refine box_event ?hg (N:=3) ?hd (cs:= #[.slice A1_0 l1_0.length c1_0,.int .i64 a1_1,.int .i64 a1_2,.int .i64 a1_3,.slice A1_4 l1_4.length c1_4]) (t:=27) ?hr ?_;(case hd=>rfl);(case hg=>rfl);(case hr=>first|(go_simp;done)|(go_simp;rfl));intro gb442 hg w11 hbox hb;have BK442:=aK (hbox);have GW442:=aK ((by rw [hg];exact (below_size zz1):w.heap.size≤gb442));have GE442:=aK ((by rw [hg];exact (below_size zz1):w.heap.size≤gb442));replace HB:=aK (below_step zz1 hb);clear hb hbox hg;obtain ⟨hcz12_0,hcz12_1,hcz12_2,hcz12_3,hcz12_4,hfz12_0,hfz12_1,hfz12_2,hfz12_3,hfz12_4⟩:=cbf5 BK442)|((with_reducible refine gate_callee (f:=14) rfl ?_);refine goesL_ (some 7) rfl rfl Try.func14 (by kernel_rfl) rfl #[.slice A0 l0.length c0,.agg #[.slice A1_0 l1_0.length c1_0,.int .i64 a1_1,.int .i64 a1_2,.int .i64 a1_3,.slice A1_4 l1_4.length c1_4]] rfl zz2 ?_;(with_reducible refine (spec_MemOk.calls k _ _ l0 _ _ l1_0 a1_1 a1_2 a1_3 _ _ l1_4 false _ ?side1 ?side2 ?side3 ?side4 ?side5 ?side6 A3.out).mono ?_);(case side1=>exact zz5);(case side2=>exact HC0.out);(case side3=>exact zz10);(case side4=>exact HC1_0.out);(case side5=>exact zz13);(case side6=>exact HC1_4.out);rintro e w13 ⟨rfl,hb⟩;refine ⟨_,rfl,?_⟩;replace BK442:=aK (blk_below (g:=gb442) (o:= .cells #[.slice A1_0 l1_0.length c1_0,.int .i64 a1_1,.int .i64 a1_2,.int .i64 a1_3,.slice A1_4 l1_4.length c1_4] 27 (0,0)) zz57 hb);replace HB:=aK (below_step zz34 hb);(try clear hb);(try clear hb2);(try clear hk);(try clear hi))|((with_reducible refine gate_dst (N:=9) rfl ?_);refine Kd.S_lit k46 _ 46 ?hg (N:=9) ?hd (xs:=([]:List (S46))) (inner:=[]) (ok:=fun _=>True) (okp:=fun _=>True) ?hr ?hp (fun _ hk=>hk) trivial (Below.refl _ _) (Nat.le_refl _) (by simp) ?_;(case hd=>rfl);(case hg=>rfl);(case hr=>first|(go_simp;done)|(go_simp;rfl));(case hp=>exact (Reps.none _ _));intro v448 w14 ho15 hb hg_ hnew_;clear hg_ hnew_;(first|rw [←Ny447.out] at ho15|(simp only [Int.reduceToNat] at ho15;rw [←Ny447.out] at ho15));have HO449:=aK (Kd.S_lower ho15 (below_size zz34));replace BK442:=aK (blk_below (g:=gb442) (o:= .cells #[.slice A1_0 l1_0.length c1_0,.int .i64 a1_1,.int .i64 a1_2,.int .i64 a1_3,.slice A1_4 l1_4.length c1_4] 27 (0,0)) zz57 hb);replace HB:=aK (below_step zz34 hb);clear hb ho15))
  go_ret;exact ⟨_,by first|rfl|(simp [errW_none,errW_some]<;>rfl)|(simp [*,errW_none,errW_some]<;>rfl),by (with_reducible repeat (first|apply Kd.S_alloc|apply Kd.S_drewN|apply Kd.S_drew));exact HO449.out,by repeat (first|(with_reducible first|exact HB.out|apply below_alloc|apply pw_below_drewN|apply below_drew1|refine below_set ?_ GE442.out)|exact HB.out)⟩
def laws_leVal.l0:Nat→List Int→Int→Int→Option (Bool×Int)
  |0,_,_,_=>none
  |k+1,x0,x1,x5=>if x5<(x0.length:Int) then (if 0≤x5 then (if (rd x0 x5)=x1 then (some (true,wrap64 (x5+1))) else (laws_leVal.l0 k x0 x1 (wrap64 (x5+1)))) else (none)) else (some (true,0))
def laws_leVal.f (k:Nat) (l0:List Int) (a1:Int):Option (Bool×Int):=laws_leVal.l0 k l0 a1 0
set_option maxHeartbeats 8000000 in
set_option maxRecDepth 100000 in
theorem laws_leVal.calls (k:Nat) (A0:Option Addr) (c0:Nat) (l0:List Int) (a1:Int) (r1:Bool) (r2:Int) (w:World) (hr0:Kd.C (Kd.int .i64) w A0 l0.length l0) (hc0:l0.length≤c0) (h:laws_leVal.f k l0 a1=some (r1,r2)):
  Calls Try.prog 22 #[.slice A0 l0.length c0,.int .i64 a1] w fun e w'=>e= .returned (.agg #[.bool r1,.int .i64 r2])∧Below w.heap.size w w':=by
 have hu48:=Try.underlying48;have HR0:=aK hr0;have HC0:=aK hc0;clear hr0 hc0;have HB:=aK (Below.refl w.heap.size w);have H:(laws_leVal.l0 k l0 a1 0)=some (r1,r2):=h
 clear h;have H':=aK H;clear H;go_enter Try.func22,Try.ntmps22
 go_wp2_with (first|((with_reducible refine gate_dst (N:=4) rfl ?_);refine box_event ?hg (N:=4) ?hd (cs:= #[.bool false,.int .i64 0]) (t:=48) ?hr ?_;(case hd=>rfl);(case hg=>rfl);(case hr=>first|(go_simp;done)|(go_simp;rfl));intro gb450 hg w3 hbox hb;have BK450:=aK (hbox);have GW450:=aK ((by rw [hg];exact (below_size zz1):w.heap.size≤gb450));have GE450:=aK ((by rw [hg];exact (below_size zz1):w.heap.size≤gb450));replace HB:=aK (below_step zz1 hb);clear hb hbox hg))
 go_loopg [5] k (fun kq v5 w'=> ∃(x5_1:Int) (x451000_1:Bool) (x451001_1:Int),v5= .int .i64 x5_1∧Aside0 (laws_leVal.l0 kq l0 a1 x5_1=some (r1,r2))∧Aside0 (kq≤k)∧Aside0 (w'.heap[gb450]? =some (.cells #[.bool x451000_1,.int .i64 x451001_1] 48 (0,0)))∧Aside0 (Below w.heap.size w w'))
 case atStart=>exact ⟨(0),(false),(0),zz6,H',⟨Nat.le_refl _⟩,⟨by (with_reducible repeat (first|refine blk_drewN ?_ _|refine blk_drew ?_|refine blk_alloc ?_ _));exact BK450.out⟩,⟨by repeat (first|(with_reducible first|exact HB.out|apply below_alloc|apply pw_below_drewN|apply below_drew1|refine below_set ?_ GE450.out)|exact HB.out)⟩⟩
 case round =>
  clear H';(try clear c2);(try clear p2);obtain ⟨x5_1,x451000_1,x451001_1,rfl,HA,HK1,BK450,HB⟩:=hrel
  cases gk with
  |zero=>exact absurd HA.out (by simp [laws_leVal.l0])
  | succ k1 =>
   have H:=HA.out;clear HA;simp only [laws_leVal.l0] at H;by_cases c4:x5_1<(l0.length:Int)
   ·rw [if_pos c4] at H
    have c4b0:decide (x5_1<(l0.length:Int))=true:=decide_eq_true c4
    clear c4;by_cases c5:0≤x5_1
    ·rw [if_pos c5] at H
     have c5b0:decide (0≤x5_1)=true:=decide_eq_true c5
     clear c5;by_cases c6:(rd l0 x5_1)=a1
     ·rw [if_pos c6] at H
      have c6b0:((rd l0 x5_1)==a1)=true:=beq_iff_eq.mpr c6
      have c6b1:((rd l0 x5_1) !=a1)=false:=bne_eq_false_iff_eq.mpr c6
      clear c6;simp only [Option.some.injEq,Prod.mk.injEq] at H;obtain ⟨rfl,rfl⟩:=H;have p451:0≤(x5_1:Int):=of_decide_eq_true zz3
      have q451:x5_1<(l0.length:Int):=of_decide_eq_true zz3
      obtain ⟨ad451,e451,hx451_0⟩:=Kd.at_int HR0.out x5_1 p451 q451
      cases e451
      replace hx451_0:=(HB.out.cell (World.block_lt_of_cell? w _ hx451_0)).trans hx451_0;replace p451:=eq_true p451;replace q451:=eq_true q451;obtain ⟨hcz7_0,hcz7_1,hfz7_0,hfz7_1⟩:=cbf2 BK450;go_wp2;refine bodyPost_ret (results_cell_row rfl _ _ gb450 48 #[.bool true,.int .i64 (wrap64 (x5_1+1))] (0,0) _ rfl (by (with_reducible repeat (first|refine blk_drewN ?_ _|refine blk_drew ?_|refine blk_alloc ?_ _));refine blk_put (cs:= #[.bool true,.int .i64 x451001_1]) ?_ 1 _ rfl;(with_reducible repeat (first|refine blk_drewN ?_ _|refine blk_drew ?_|refine blk_alloc ?_ _));refine blk_put (cs:= #[.bool x451000_1,.int .i64 x451001_1]) ?_ 0 _ rfl;(with_reducible repeat (first|refine blk_drewN ?_ _|refine blk_drew ?_|refine blk_alloc ?_ _));exact BK450.out) Try.underlying48 rfl (by kernel_rfl)) rfl ?_;exact ⟨zz7,(by repeat (first|(with_reducible first|exact HB.out|apply below_alloc|apply pw_below_drewN|apply below_drew1|refine below_set ?_ GE450.out)|exact HB.out))⟩
     ·rw [if_neg c6] at H
      have c6b0:((rd l0 x5_1)==a1)=false:=beq_eq_false_iff_ne.mpr c6
      have c6b1:((rd l0 x5_1) !=a1)=true:=bne_iff_ne.mpr c6
      have H':=aK H;clear H;have p451:0≤(x5_1:Int):=of_decide_eq_true zz3
      have q451:x5_1<(l0.length:Int):=of_decide_eq_true zz3
      obtain ⟨ad451,e451,hx451_0⟩:=Kd.at_int HR0.out x5_1 p451 q451
      cases e451
      replace hx451_0:=(HB.out.cell (World.block_lt_of_cell? w _ hx451_0)).trans hx451_0;replace p451:=eq_true p451;replace q451:=eq_true q451;go_wp2
      go_roundg k1
      case measure=>have:=HK1.out;omega
      case rel=>exact ⟨(wrap64 (x5_1+1)),(x451000_1),(x451001_1),zz6,H',⟨by have:=HK1.out;omega⟩,⟨by (with_reducible repeat (first|refine blk_drewN ?_ _|refine blk_drew ?_|refine blk_alloc ?_ _));exact BK450.out⟩,⟨by repeat (first|(with_reducible first|exact HB.out|apply below_alloc|apply pw_below_drewN|apply below_drew1|refine below_set ?_ GE450.out)|exact HB.out)⟩⟩
    ·rw [if_neg c5] at H
     exact absurd H (by simp)
   ·rw [if_neg c4] at H
    have c4b0:decide (x5_1<(l0.length:Int))=false:=decide_eq_false c4
    clear c4;simp only [Option.some.injEq,Prod.mk.injEq] at H;obtain ⟨rfl,rfl⟩:=H;obtain ⟨hcz8_0,hcz8_1,hfz8_0,hfz8_1⟩:=cbf2 BK450;go_wp2;refine bodyPost_ret (results_cell_row rfl _ _ gb450 48 #[.bool true,.int .i64 0] (0,0) _ rfl (by (with_reducible repeat (first|refine blk_drewN ?_ _|refine blk_drew ?_|refine blk_alloc ?_ _));refine blk_put (cs:= #[.bool true,.int .i64 x451001_1]) ?_ 1 _ rfl;(with_reducible repeat (first|refine blk_drewN ?_ _|refine blk_drew ?_|refine blk_alloc ?_ _));refine blk_put (cs:= #[.bool x451000_1,.int .i64 x451001_1]) ?_ 0 _ rfl;(with_reducible repeat (first|refine blk_drewN ?_ _|refine blk_drew ?_|refine blk_alloc ?_ _));exact BK450.out) Try.underlying48 rfl (by kernel_rfl)) rfl ?_;exact ⟨zz7,(by repeat (first|(with_reducible first|exact HB.out|apply below_alloc|apply pw_below_drewN|apply below_drew1|refine below_set ?_ GE450.out)|exact HB.out))⟩
def valBox (w:World) (g:Nat) (a b:Value):World:=(w.setCell ⟨g,0,none⟩ a).setCell ⟨g,1,none⟩ b
theorem blk_box2 {w:World} {g:Nat} {t:TypeId} {c0 c1 a b:Value} (h:w.heap[g]? =some (.cells #[c0,c1] t (0,0))):(valBox w g a b).heap[g]? =some (.cells #[a,b] t (0,0)):=
  blk_put (blk_put h 0 _ rfl) 1 _ rfl
theorem Ch.box2 {S:Nat→Prop} {w w1:World} (h:Ch S w w1) {g:Nat} (hp:S g∨w.heap.size≤g) (a b:Value):Ch S w (valBox w1 g a b):=(h.set (p:=⟨g,0,none⟩) hp a).set (p:=⟨g,1,none⟩) hp b
theorem obj_cells {w:World} {A:Option Addr} {s:List S46} (h:Kd.C k46 w A s.length s) (i:Nat) (hi:i<s.length): ∃ad A1 c1,A=some ad∧w.cell? (ad.add (i*2))=some (.int .i64 (rd_T46 s (i:Int)).f0)∧w.cell? ⟨(ad.add (i*2)).block,(ad.add (i*2)).off+1,none⟩=some (.slice A1 (rd_T46 s (i:Int)).f1.length c1)∧Kd.C k48 w A1 (rd_T46 s (i:Int)).f1.length (rd_T46 s (i:Int)).f1:=by
 obtain ⟨ad,A1,c1,e,h0,h1,_,h3⟩:=at_T46 h (i:Int) (by omega) (by omega);rw [Int.toNat_natCast] at h0 h1;exact ⟨ad,A1,c1,e,h0,h1,h3⟩
theorem val_cells {w:World} {A:Option Addr} {s:List S48} (h:Kd.C k48 w A s.length s) (i:Nat) (hi:i<s.length): ∃ad,A=some ad∧w.cell? (ad.add (i*2))=some (.bool (rd_T48 s (i:Int)).f0)∧w.cell? ⟨(ad.add (i*2)).block,(ad.add (i*2)).off+1,none⟩=some (.int .i64 (rd_T48 s (i:Int)).f1):=by
 obtain ⟨ad,e,h0,h1⟩:=at_T48 h (i:Int) (by omega) (by omega);rw [Int.toNat_natCast] at h0 h1;exact ⟨ad,e,h0,h1⟩
end Go.Proofs.Ytnlieahdakafbaa.K
namespace Go.Proofs.Ytnlieahdakafbaa.Pure
open Go.RowKit Go.Proofs.Ytnlieahdakafbaa.K Go.Proofs.YtnlieahdakafbaaW.PrintWords Go.Proofs.YtnlieahdakafbaaW.PrintLast Go.Proofs.YtnlieahdakafbaaW.PrintMore
set_option linter.unusedVariables false
set_option linter.unusedSimpArgs false
theorem all_drop (fs:List Int) (P:Int→Bool) (i:Nat) (h:i<fs.length):(fs.drop i).all P=(P (fs.getD i 0)&&(fs.drop (i+1)).all P):=by
  rw [drop_getD fs i 0 h,List.all_cons]
theorem spec_l2Field_eq (cs:Cs) (t:Int) (hl:cs.length≤1000):spec_l2Field.f cs t=some (fldOk cs.length t):=by
 unfold spec_l2Field.f fldOk;by_cases c1:t=1
 ·rw [if_pos c1];simp [c1]
 rw [if_neg c1];by_cases c2:t=3
 ·rw [if_pos c2];simp [c2]
 rw [if_neg c2];by_cases c3:t=4
 ·rw [if_pos c3];simp [c3]
 rw [if_neg c3,wrap64_of (n:=8+(cs.length:Int)) (by omega) (by omega),wrap64_of (by omega) (by omega),spec_l6In_eq];simp only [Option.bind_some,Option.some.injEq]
 rw [Bool.eq_iff_iff];simp only [decide_eq_true_eq];omega
def clsTail (cs:Cs) (i su:Int) (fs:List Int):Bool:=
  if i=0 then decide (su= -1∧fs=[]) else if i=1 then decide (su=0∧fs=[1]) else decide ((0≤su∧su<i)∧fs.length≤2)
theorem len_nil (fs:List Int):((fs.length:Int)==0)=decide (fs=[]):=by cases fs<;>simp;omega
theorem spec_l2Class_l0 (cs:Cs) (c su:Int) (fs:List Int) (hl:cs.length≤1000) (hf:fs.length≤140737488355328) (hc:0≤c∧c<1000) (d:Nat): ∀(k i:Nat),i≤fs.length→fs.length - i=d→d<k→
  spec_l2Class.l0 k cs c i su fs=some ((fs.drop i).all (fldOk cs.length)&&clsTail cs c su fs):=by
 induction d with
 | zero =>
  intro k i hi hd hk;obtain ⟨k,rfl⟩: ∃m,k=m+1:=⟨k - 1,by omega⟩;have:i=fs.length:=by omega
  subst this;simp only [spec_l2Class.l0]
  rw [if_neg (by omega),List.drop_length];simp only [List.all_nil,Bool.true_and]
  unfold clsTail;by_cases c0:c=0
  ·rw [if_pos c0, if_pos c0]
   by_cases s0:su= -1
   ·rw [if_pos s0,len_nil];simp [s0]
   ·rw [if_neg s0];simp [s0]
  rw [if_neg c0,if_neg c0];by_cases c1:c=1
  ·rw [if_pos c1, if_pos c1]
   by_cases s0:su=0
   ·rw [if_pos s0]
    by_cases l1:(fs.length:Int)=1
    ·rw [if_pos l1, if_pos (by omega)]
     obtain ⟨x,rfl⟩:=List.length_eq_one_iff.1 (show fs.length=1 by omega);by_cases e:x=1
     ·simp [rd,s0,e]
     ·simp [rd,s0,e]
    ·rw [if_neg l1]
     have:fs≠[1]:=fun e=>l1 (by rw [e];rfl)
     simp [this]
   ·rw [if_neg s0];simp [s0]
  rw [if_neg c1,if_neg c1,wrap64_of (by omega) (by omega),spec_l6In_eq];simp only [Option.bind_some,decide_eq_true_eq]
  by_cases z:0≤su∧su≤c - 1
  ·rw [if_pos z]
   congr 1
   rw [Bool.eq_iff_iff];simp only [decide_eq_true_eq];omega
  ·rw [if_neg z]
   congr 1
   rw [Bool.eq_iff_iff];simp only [decide_eq_true_eq,Bool.false_eq_true,false_iff];omega
 | succ d ih =>
  intro k i hi hd hk;obtain ⟨k,rfl⟩: ∃m,k=m+1:=⟨k - 1,by omega⟩;simp only [spec_l2Class.l0]
  rw [if_pos (by omega),if_pos (by omega),spec_l2Field_eq cs _ hl,rd_cast,all_drop fs _ i (by omega)];simp only [Option.bind_some]
  cases hq:fldOk cs.length (fs.getD i 0) with
  |false=>simp
  |true=>
   simp only [if_true,Bool.true_and]
   rw [wrap_inc (n:=fs.length) (by omega) (by omega) (by omega),show ((i:Int)+1)=((i+1:Nat):Int) from by omega];exact ih k (i+1) (by omega) (by omega) (by omega)
def fewF (cs:Cs):Prop:= ∀i:Int,(flds cs i).length≤1048576
theorem spec_l2Class_eq {cs:Cs} (hl:cs.length≤1000) (hf:fewF cs) {i:Int} (h0:0≤i) (h1:i<cs.length) (k:Nat) (hk:1048577≤k):spec_l2Class.f k cs i=some (clsOk cs i):=by
 unfold spec_l2Class.f;rw [if_pos h0,if_pos h1];have:=hf i
 have e:=spec_l2Class_l0 cs i (sup cs i) (flds cs i) hl (by omega) ⟨h0,by omega⟩ (flds cs i).length k 0 (by omega) (by omega) (by omega)
 have e2:spec_l2Class.l0 k cs i 0 (sup cs i) (flds cs i)=some (clsOk cs i):=by
  rw [show ((0:Nat):Int)=0 from rfl] at e;rw [e,List.drop_zero];unfold clsOk clsTail;by_cases c0:i=0
  ·subst c0;rfl
  by_cases c1:i=1
  ·subst c1;rfl
  rw [if_neg c0,if_neg c1,if_neg c0,if_neg c1]
 exact e2
theorem range_all_drop (n i:Nat) (P:Nat→Bool) (h:i<n):((List.range n).drop i).all P=(P i&&((List.range n).drop (i+1)).all P):=by
  rw [List.drop_eq_getElem_cons (by simpa using h),List.all_cons];simp
theorem spec_ClassesOk_l0 {cs:Cs} (hl:cs.length≤1000) (hf:fewF cs) (d:Nat): ∀(k i:Nat),i≤cs.length→cs.length - i=d→d+1048577≤k→
  spec_ClassesOk.l0 k cs i=some (((List.range cs.length).drop i).all (fun j:Nat=>clsOk cs j)):=by
 induction d with
 |zero=>
  intro k i hi hd hk;obtain ⟨k,rfl⟩: ∃m,k=m+1:=⟨k - 1,by omega⟩;have:i=cs.length:=by omega
  subst this;simp only [spec_ClassesOk.l0]
  rw [if_neg (by omega),List.drop_of_length_le (by simp)];rfl
 | succ d ih =>
  intro k i hi hd hk;obtain ⟨k,rfl⟩: ∃m,k=m+1:=⟨k - 1,by omega⟩;simp only [spec_ClassesOk.l0]
  rw [if_pos (by omega),spec_l2Class_eq hl hf (by omega) (by omega) k (by omega),range_all_drop _ _ _ (by omega)];simp only [Option.bind_some]
  cases hq:clsOk cs i with
  |false=>simp
  |true=>
   simp only [if_true,Bool.true_and]
   rw [wrap_inc (n:=cs.length) (by omega) (by omega) (by omega),show ((i:Int)+1)=((i+1:Nat):Int) from by omega];exact ih k (i+1) (by omega) (by omega) (by omega)
theorem spec_ClassesOk_eq {cs:Cs} (hf:fewF cs) (k:Nat) (hk:2000000≤k):spec_ClassesOk.f k cs=some (csOk cs):=by
 unfold spec_ClassesOk.f csOk;rw [spec_l6In_eq];simp only [Option.bind_some,decide_eq_true_eq]
 by_cases hl:(2:Int)≤cs.length∧(cs.length:Int)≤5
 ·rw [if_pos hl, show decide (2 ≤ cs.length ∧ cs.length ≤ 5) = true from decide_eq_true (by omega)]
  have:=spec_ClassesOk_l0 (cs:=cs) (by omega) hf cs.length k 0 (by omega) (by omega) (by omega)
  rw [show ((0:Nat):Int)=0 from rfl] at this;rw [this,List.drop_zero,Bool.true_and]
 ·rw [if_neg hl,show decide (2≤cs.length∧cs.length≤5)=false from decide_eq_false (by omega),Bool.false_and]
theorem impl_fieldType_eq (cs:Cs) (t:Int) (hl:cs.length≤1000):impl_fieldType.f cs.length t=some (fldOk cs.length t):=by
 unfold impl_fieldType.f kOk fldOk;rw [if_pos (by omega)]
 congr 1
 rw [Bool.eq_iff_iff];simp only [Bool.and_eq_true,decide_eq_true_eq];omega
def clsQ (cs:Cs) (i:Int):Bool:=(decide (i≤1)||decide (0≤sup cs i∧sup cs i<i))&&(decide ((flds cs i).length≤2)&&(flds cs i).all (fldOk cs.length))
theorem impl_ClassesOk_l1 (cs:Cs) (hl:cs.length≤1000) (i:Nat) (hi:i<1000) (fs:List Int) (hf:fs.length≤2) (R:Bool) (K:Nat) (hR: ∀k,K≤k→impl_ClassesOk.l0 k cs cs cs.length ((i+1:Nat):Int)=some R) (d:Nat): ∀(k j:Nat),j≤fs.length→fs.length - j=d→K+d+1≤k→
  impl_ClassesOk.l1 k cs cs cs.length i fs fs.length j=some ((fs.drop j).all (fldOk cs.length)&&R):=by
 induction d with
 |zero=>
  intro k j hj hd hk;obtain ⟨k,rfl⟩: ∃m,k=m+1:=⟨k - 1,by omega⟩;have:j=fs.length:=by omega
  subst this;simp only [impl_ClassesOk.l1]
  rw [if_neg (by omega),List.drop_length,wrap_inc (n:=1000) (by omega) (by omega) (by omega),show ((i:Int)+1)=((i+1:Nat):Int) from by omega,hR k (by omega)];simp
 | succ d ih =>
  intro k j hj hd hk;obtain ⟨k,rfl⟩: ∃m,k=m+1:=⟨k - 1,by omega⟩;simp only [impl_ClassesOk.l1]
  rw [if_pos (by omega),if_pos (by omega),if_pos (by omega),rd_cast,impl_fieldType_eq cs _ hl,all_drop fs _ j (by omega)];simp only [Option.bind_some]
  cases hq:fldOk cs.length (fs.getD j 0) with
  |false=>simp
  |true=>
   simp only [if_true,Bool.true_and]
   rw [wrap_inc (n:=fs.length) (by omega) (by omega) (by omega),show ((j:Int)+1)=((j+1:Nat):Int) from by omega];exact ih k (j+1) (by omega) (by omega) (by omega)
theorem impl_ClassesOk_l0 (cs:Cs) (hl:cs.length≤5) (d:Nat): ∀(i:Nat),i≤cs.length→cs.length - i=d→∀k,10*d+10≤k→
  impl_ClassesOk.l0 k cs cs cs.length i=some (((List.range cs.length).drop i).all (fun j:Nat=>clsQ cs j)):=by
 induction d with
 |zero=>
  intro i hi hd k hk;obtain ⟨k,rfl⟩: ∃m,k=m+1:=⟨k - 1,by omega⟩;have:i=cs.length:=by omega
  subst this;simp only [impl_ClassesOk.l0]
  rw [if_neg (by omega),List.drop_of_length_le (by simp)];rfl
 | succ d ih =>
  intro i hi hd k hk;obtain ⟨k,rfl⟩: ∃m,k=m+1:=⟨k - 1,by omega⟩;obtain ⟨k,rfl⟩: ∃m,k=m+1:=⟨k - 1,by omega⟩;rw [range_all_drop _ _ _ (by omega)]
  have hj:impl_ClassesOk.j4 (k+1) cs cs cs.length i false (sup cs i) (flds cs i)=some (decide ((flds cs i).length≤2)&&((flds cs i).all (fldOk cs.length)&&((List.range cs.length).drop (i+1)).all (fun j:Nat=>clsQ cs j))):=by
   simp only [impl_ClassesOk.j4]
   rw [if_neg (by simp)];by_cases h2:((flds cs i).length:Int)>2
   ·rw [if_pos h2,decide_eq_false (by omega)];rfl
   ·rw [if_neg h2, decide_eq_true (show (flds cs i).length ≤ 2 by omega), Bool.true_and]
    have:=impl_ClassesOk_l1 cs (by omega) i (by omega) (flds cs i) (by omega) _ (10*d+10) (fun k hk=>ih (i+1) (by omega) (by omega) k hk) (flds cs i).length k 0 (by omega) (by omega) (by omega)
    rw [show ((0:Nat):Int)=0 from rfl,List.drop_zero] at this;exact this
  have hjt:impl_ClassesOk.j4 (k+1) cs cs cs.length i true (sup cs i) (flds cs i)=some false:=by simp [impl_ClassesOk.j4]
  simp only [impl_ClassesOk.l0]
  rw [if_pos (by omega),if_pos (by omega),if_pos (by omega)];rw [show (rd_T112 cs (i:Int)).f0=sup cs i from rfl,show (rd_T112 cs (i:Int)).f1=flds cs i from rfl];have hQ:clsQ cs i=((decide ((i:Int)≤1)||decide (0≤sup cs i∧sup cs i<i))&&(decide ((flds cs i).length≤2)&&(flds cs i).all (fldOk cs.length))):=rfl
  rw [hQ];generalize ((List.range cs.length).drop (i+1)).all (fun j:Nat=>clsQ cs j)=T at*;by_cases h1:(i:Int)>1
  ·rw [if_pos h1]
   by_cases hs:sup cs i<0
   ·rw [if_pos hs,hjt,decide_eq_false (show¬(i:Int)≤1 by omega),decide_eq_false (show¬(0≤sup cs i∧sup cs i<i) by omega)];rfl
   ·rw [if_neg hs]
    by_cases hs2:sup cs i≥i
    ·rw [decide_eq_true hs2,hjt,decide_eq_false (show¬(i:Int)≤1 by omega),decide_eq_false (show¬(0≤sup cs i∧sup cs i<i) by omega)];rfl
    ·rw [decide_eq_false hs2, hj, decide_eq_true (show (0 ≤ sup cs i ∧ sup cs i < i) by omega)]
     simp [Bool.and_assoc]
  ·rw [if_neg h1, hj, decide_eq_true (show (i : Int) ≤ 1 by omega)]
   simp [Bool.and_assoc]
theorem impl_ClassesOk_eq (cs:Cs) (k:Nat) (hk:1000≤k):impl_ClassesOk.f k cs=some (csOk cs):=by
 obtain ⟨k,rfl⟩: ∃m,k=m+1:=⟨k - 1,by omega⟩;obtain ⟨k,rfl⟩: ∃m,k=m+1:=⟨k - 1,by omega⟩;obtain ⟨k,rfl⟩: ∃m,k=m+1:=⟨k - 1,by omega⟩;unfold impl_ClassesOk.f;by_cases h2:(cs.length:Int)<2
 ·rw [if_pos h2]
  simp only [impl_ClassesOk.j0,if_true]
  unfold csOk;rw [decide_eq_false (by omega),Bool.false_and]
 rw [if_neg h2];by_cases h5:(cs.length:Int)>5
 ·rw [decide_eq_true h5]
  simp only [impl_ClassesOk.j0,if_true]
  unfold csOk;rw [decide_eq_false (by omega),Bool.false_and]
 rw [decide_eq_false h5]
 have no: ∀i:Int,0≤i→i<cs.length→clsOk cs i=false→csOk cs=false:=by
  intro i h0 h1 hc
  cases hq:csOk cs with
  |false=>rfl
  |true=>rw [csOk_at hq h0 h1] at hc;cases hc
 simp only [impl_ClassesOk.j0,Bool.false_eq_true,if_false]
 rw [if_pos (by omega)];rw [show (rd_T112 cs 0).f0=sup cs 0 from rfl,show (rd_T112 cs 0).f1=flds cs 0 from rfl];by_cases r0:sup cs 0= -1
 case neg=>
  rw [if_neg r0];simp only [impl_ClassesOk.j1,if_true]
  rw [no 0 (by omega) (by omega) (by unfold clsOk;simp [r0])]
 rw [if_pos r0];by_cases f0:flds cs 0=[]
 case neg=>
  have:(((flds cs 0).length:Int) !=0)=true:=by
   cases hq:flds cs 0 with
   |nil=>exact absurd hq f0
   |cons x t=>simp;omega
  rw [this];simp only [impl_ClassesOk.j1,if_true]
  rw [no 0 (by omega) (by omega) (by unfold clsOk;simp [f0])]
 rw [show (((flds cs 0).length:Int) !=0)=false by rw [f0];rfl];simp only [impl_ClassesOk.j1,Bool.false_eq_true,if_false]
 rw [if_pos (by omega)];rw [show (rd_T112 cs 1).f0=sup cs 1 from rfl,show (rd_T112 cs 1).f1=flds cs 1 from rfl];have n1: ¬(sup cs 1=0∧flds cs 1=[1])→csOk cs=false:=fun z=>no 1 (by omega) (by omega) (by unfold clsOk;rw [if_neg (by omega),if_pos rfl,decide_eq_false z,Bool.and_false])
 by_cases r1:sup cs 1=0
 case neg=>
  rw [if_neg r1];simp only [impl_ClassesOk.j2,if_true]
  rw [n1 (fun z=>r1 z.1)]
 rw [if_pos r1];by_cases l1:((flds cs 1).length:Int)=1
 case neg=>
  rw [if_neg l1];simp only [impl_ClassesOk.j2,if_true]
  rw [n1 (fun z=>l1 (by rw [z.2];rfl))]
 rw [if_pos l1,if_pos (by omega)];obtain ⟨x,hx⟩:=List.length_eq_one_iff.1 (show (flds cs 1).length=1 by omega);by_cases e1:x=1
 case neg=>
  rw [show (rd (flds cs 1) 0 !=1)=true by rw [hx];simp [rd,e1]];simp only [impl_ClassesOk.j2,if_true]
  rw [n1 (fun z=>e1 (by rw [hx] at z;simpa using z.2))]
 rw [show (rd (flds cs 1) 0 !=1)=false by rw [hx];simp [rd,e1]];simp only [impl_ClassesOk.j2,Bool.false_eq_true,if_false]
 have:=impl_ClassesOk_l0 cs (by omega) cs.length 0 (by omega) (by omega) k (by omega)
 rw [show ((0:Nat):Int)=0 from rfl,List.drop_zero] at this;rw [this]
 congr 1
 unfold csOk;rw [decide_eq_true (show 2≤cs.length∧cs.length≤5 by omega),Bool.true_and,Bool.eq_iff_iff];simp only [List.all_eq_true,List.mem_range]
 refine forall_congr' fun i=>forall_congr' fun hi=>?_
 unfold clsQ clsOk;simp only [Bool.and_eq_true,Bool.or_eq_true,decide_eq_true_eq]
 by_cases i0:(i:Int)=0
 ·rw [i0,if_pos rfl,decide_eq_true_eq,r0,f0];simp
 by_cases i1:(i:Int)=1
 ·rw [i1,if_neg (by omega),if_pos rfl,decide_eq_true_eq,r1,hx,e1];simp
 rw [if_neg i0,if_neg i1,decide_eq_true_eq]
 constructor
 ·rintro ⟨h1 | h1, h3, h4⟩
  ·omega
  ·exact ⟨h4,h1,h3⟩
 ·rintro ⟨h4, h1, h3⟩
  exact ⟨Or.inr h1,h3,h4⟩
theorem mem_map1 (W:List Int) (v:Int):v∈W.map (· +1)↔v - 1∈W:=by
 rw [List.mem_map]
 constructor
 ·rintro ⟨a,ha,rfl⟩;rw [show a+1 - 1=a by omega];exact ha
 ·intro h;exact ⟨v - 1,h,by omega⟩
theorem map1_sorted {W:List Int} (h:W.Pairwise (· < ·)):(W.map (· +1)).Pairwise (· < ·):=by
  rw [List.pairwise_map];exact h.imp (fun hab=>by omega)
theorem has_eq {cs:Cs} {ws W:List Int} (hw:Wlk cs ws W) (m:Mm) (hm:m.begins=W.map (· +1)) (v:Int): ∀q,300≤q→memory_has.f q m v=some (decide (v - 1∈W)):=by
 intro q hq;have hl:=hw.len;obtain ⟨p,_,h,_,_⟩:=search_eq (map1_sorted hw.srt) (by rw [List.length_map];omega) v;unfold memory_has.f;rw [hm,h q (by rw [List.length_map];omega),Option.bind_some];simp only [mem_map1]
theorem wlk_range {cs:Cs} {ws W:List Int} (hw:Wlk cs ws W) {x:Int} (hx:x∈W):0≤x∧x<ws.length:=by
  obtain ⟨e,h1,h2,h3,_⟩:=hw.mem x hx;omega
theorem lead_eq {cs:Cs} {ws W:List Int} (hw:Wlk cs ws W) (hn:ws.length≤1048576) (v:Int):spec_l21Lead.f (startsL W ws.length) v=some (decide (v=0)||decide (v - 1∈W)):=by
 unfold spec_l21Lead.f;by_cases c0:v=0
 ·rw [if_pos c0,decide_eq_true c0];rfl
 rw [if_neg c0,spec_l6In_eq,startsL_len,decide_eq_false c0,Bool.false_or];simp only [Option.bind_some,decide_eq_true_eq]
 by_cases c1:1≤v∧v≤(ws.length:Int)
 ·rw [if_pos c1,wrap64_of (n:=v - 1) (by omega) (by omega),if_pos (by omega),if_pos (by omega),startsL_at W ws.length (by omega) (by omega)]
 ·rw [if_neg c1,decide_eq_false (fun hv=>c1 (by have:=wlk_range hw hv;omega))]
theorem word_eq {cs:Cs} {ws:List Int} {y t o:Int} {cards:List Bool} (hb:Bnd cs ws y t o cards) {W:List Int} (hw:Wlk cs ws W) (m:Mm) (hm:m=⟨ws,y,t,o,cards,allF cs,W.map (· +1)⟩)
  {x hd cnt c:Int} (h0:0≤x) (hhd:hd=1∨hd=2) (hcn:0≤cnt) (hsz:x+hd+cnt≤ws.length) (hfi:thing_first.f m (x+1)=some (x+hd)) (hle: ∀k,0≤k→k<cnt→thing_leads.f m (x+1) k=some (ldB cs c k))
  (R:List Bool) (hR:R=refsL cs c hd (hd+cnt)) {k:Int} (k0:0≤k) (k1:k<cnt):
  ∃b,(∀q,300≤q→wordAt q m (x+1) k=some b)∧∀κ:Nat,spec_l21Thing.l0 (κ+2) (startsL W ws.length) x R (hd+k) ws y t o cards=if b=true then spec_l21Thing.l0 κ (startsL W ws.length) x R (hd+k+1) ws y t o cards else some false:=by
 have n0:=hb.n0;have n1:=hb.n1;have y0:=hb.y0;have y1:=hb.y1;have cd:=hb.cd;have hRl:(R.length:Int)=hd+cnt:=by rw [hR];unfold refsL;rw [List.length_map,List.length_range];omega
 have hRk:rdOf false R (hd+k)=ldB cs c k:=by rw [hR,refsL_at cs c hd (hd+cnt) (by omega) (by omega) (by omega),show hd+k - hd=k by omega]
 obtain ⟨v,hv⟩: ∃v,v=rd ws (x+(hd+k)):=⟨_,rfl⟩;have hmw:m.words=ws:=by rw [hm]
 have hA: ∀q,wordAt q m (x+1) k=if ldB cs c k=true then (if v=0 then some true else (memory_has.f q m v).bind fun h=>if h=true then cardOk m (x+1) v (x+(hd+k)) else some false) else impl_isWord.f v:=fun q=>by
  unfold wordAt;rw [hfi,Option.bind_some,hmw,if_pos (by omega),hle k k0 k1,Option.bind_some,show x+hd+k=x+(hd+k) by omega,←hv]
 have w1:wrap64 (x+(hd+k))=x+(hd+k):=wrap64_of (by omega) (by omega)
 have w2:wrap64 (hd+k+1)=hd+k+1:=wrap64_of (by omega) (by omega)
 have hB: ∀κ:Nat,spec_l21Thing.l0 (κ+2) (startsL W ws.length) x R (hd+k) ws y t o cards=if ldB cs c k=true then spec_l21Thing.j1 (κ+1) (startsL W ws.length) x R (hd+k) v (!(decide (v=0)||decide (v - 1∈W))) ws y t o cards else spec_l21Thing.j1 (κ+1) (startsL W ws.length) x R (hd+k) v (!(decide (-128≤v∧v≤127))) ws y t o cards:=fun κ=>by
  rw [spec_l21Thing.l0,if_pos (by omega),w1,if_pos (by omega),if_pos (by omega),if_pos (by omega),hRk,←hv,lead_eq hw (by omega)];simp only [Option.bind_some]
  by_cases c0:ldB cs c k=true
  ·rw [if_pos c0, if_pos c0]
   cases (decide (v=0)||decide (v - 1∈W))<;>rfl
  ·rw [if_neg c0, if_neg c0]
   unfold spec_l1Word.f;rw [spec_l6In_eq];rfl
 have hJ: ∀(κ:Nat) (bad:Bool),spec_l21Thing.j1 (κ+1) (startsL W ws.length) x R (hd+k) v bad ws y t o cards=if bad=true then some false else (if ldB cs c k=true then (if x≥y then (if 1≤v∧v≤y then (if rdOf false cards ((x+(hd+k) - y)/4)=true then spec_l21Thing.l0 κ (startsL W ws.length) x R (hd+k+1) ws y t o cards else some false) else spec_l21Thing.l0 κ (startsL W ws.length) x R (hd+k+1) ws y t o cards) else spec_l21Thing.l0 κ (startsL W ws.length) x R (hd+k+1) ws y t o cards) else spec_l21Thing.l0 κ (startsL W ws.length) x R (hd+k+1) ws y t o cards):=fun κ bad=>by
  rw [spec_l21Thing.j1,w2,w1]
  cases bad with
  |true=>rw [if_pos rfl,if_pos rfl]
  | false =>
   simp only [Bool.false_eq_true,if_false]
   rw [if_pos (show 0≤hd+k by omega),if_pos (show hd+k<(R.length:Int) by omega),hRk];by_cases c0:ldB cs c k=true
   ·rw [if_pos c0, if_pos c0]
    by_cases c1:x≥y
    ·rw [if_pos c1, if_pos c1, spec_l6In_eq]
     simp only [Option.bind_some,decide_eq_true_eq]
     by_cases c2:1≤v∧v≤y
     ·rw [if_pos c2,if_pos c2,wrap64_of (n:=x+(hd+k) - y) (by omega) (by omega),Int.tdiv_eq_ediv_of_nonneg (by omega),wrap64_of (n:=(x+(hd+k) - y)/4) (by omega) (by omega),if_pos (by omega),if_pos (by omega)]
     ·rw [if_neg c2,if_neg c2]
    ·rw [if_neg c1,if_neg c1]
   ·rw [if_neg c0,if_neg c0]
 by_cases c0:ldB cs c k=true
 case neg=>
  refine ⟨decide (-128≤v∧v≤127),fun q hq=>?_,fun κ=>?_⟩
  ·rw [hA, if_neg c0]
   unfold impl_isWord.f;by_cases z:v≥ -128
   ·rw [if_pos z];simp [show -128≤v from z]
   ·rw [if_neg z];simp [show¬ -128≤v from z]
  ·rw [hB, if_neg c0, hJ, if_neg c0]
   cases decide (-128≤v∧v≤127)<;>rfl
 case pos=>
 by_cases c1:v=0
 ·refine ⟨true, fun q hq => by rw [hA, if_pos c0, if_pos c1], fun κ => ?_⟩
  rw [hB,if_pos c0,hJ,decide_eq_true c1,if_pos c0];rw [if_neg (by simp),if_pos rfl];by_cases c2:x≥y
  ·rw [if_pos c2,if_neg (by omega)]
  ·rw [if_neg c2]
 have hq0:=has_eq hw m (by rw [hm]) v;by_cases c2:v - 1∈W
 case neg=>
  refine ⟨false,fun q hq=>by rw [hA,if_pos c0,if_neg c1,hq0 q hq,decide_eq_false c2];rfl,fun κ=>?_⟩;rw [hB,if_pos c0,hJ,decide_eq_false c1,decide_eq_false c2];rfl
 case pos=>
 have hvr:=wlk_range hw c2
 have hA2: ∀q,300≤q→wordAt q m (x+1) k=cardOk m (x+1) v (x+(hd+k)):=fun q hq=>by
  rw [hA,if_pos c0,if_neg c1,hq0 q hq,decide_eq_true c2];rfl
 have hB2: ∀κ:Nat,spec_l21Thing.l0 (κ+2) (startsL W ws.length) x R (hd+k) ws y t o cards=(if x≥y then (if 1≤v∧v≤y then (if rdOf false cards ((x+(hd+k) - y)/4)=true then spec_l21Thing.l0 κ (startsL W ws.length) x R (hd+k+1) ws y t o cards else some false) else spec_l21Thing.l0 κ (startsL W ws.length) x R (hd+k+1) ws y t o cards) else spec_l21Thing.l0 κ (startsL W ws.length) x R (hd+k+1) ws y t o cards):=fun κ=>by
  rw [hB,if_pos c0,hJ,decide_eq_true c2,if_pos c0];rw [if_neg (by simp)]
 have hC:cardOk m (x+1) v (x+(hd+k))=if x≥y then (if 1≤v∧v≤y then some (rdOf false cards ((x+(hd+k) - y)/4)) else some true) else some true:=by
  unfold cardOk;rw [hm];show (if x+1>y then (if v>y then some true else (if 0≤wrap64 (Int.tdiv (wrap64 (x+(hd+k) - y)) 4)∧wrap64 (Int.tdiv (wrap64 (x+(hd+k) - y)) 4)<(cards.length:Int) then some (rdOf false cards (wrap64 (Int.tdiv (wrap64 (x+(hd+k) - y)) 4))) else none)) else some true)=_
  by_cases z1:x≥y
  ·rw [if_pos (show x + 1 > y by omega), if_pos z1]
   by_cases z2:v>y
   ·rw [if_pos z2,if_neg (by omega)]
   ·rw [if_neg z2,if_pos (show 1≤v∧v≤y by omega),wrap64_of (n:=x+(hd+k) - y) (by omega) (by omega),Int.tdiv_eq_ediv_of_nonneg (by omega),wrap64_of (n:=(x+(hd+k) - y)/4) (by omega) (by omega),if_pos (by omega)]
  ·rw [if_neg (show¬x+1>y by omega),if_neg z1]
 by_cases z1:x≥y
 ·by_cases z2 : 1 ≤ v ∧ v ≤ y
  ·refine ⟨rdOf false cards ((x+(hd+k) - y)/4),fun q hq=>by rw [hA2 q hq,hC,if_pos z1,if_pos z2],fun κ=>by rw [hB2,if_pos z1,if_pos z2]⟩
  ·exact ⟨true,fun q hq=>by rw [hA2 q hq,hC,if_pos z1,if_neg z2],fun κ=>by rw [hB2,if_pos z1,if_neg z2,if_pos rfl]⟩
 ·exact ⟨true,fun q hq=>by rw [hA2 q hq,hC,if_neg z1],fun κ=>by rw [hB2,if_neg z1,if_pos rfl]⟩
theorem thing_eq {cs:Cs} {ws:List Int} {y t o:Int} {cards:List Bool} (hb:Bnd cs ws y t o cards) {W:List Int} (hw:Wlk cs ws W) (m:Mm) (hm:m=⟨ws,y,t,o,cards,allF cs,W.map (· +1)⟩) {x:Int} (hx:x∈W):
  ∃b,(∀q,300≤q→wordsOk.f q m (x+1)=some b)∧∀k,200≤k→spec_l21Thing.f k cs ws y t o cards (startsL W ws.length) x=some b:=by
 obtain ⟨c,hd,cnt,hc,h0,hhd,hcn,hcn8,hsz,hco,hfi,hhe,hl21,hle,hcc⟩:=thing_facts hb hw m hm hx;have n0:=hb.n0;have n1:=hb.n1;have y0:=hb.y0;have y1:=hb.y1
 have key: ∀d:Nat,∀k:Int,0≤k→k+d=cnt→∃b,(∀q,300≤q→∀j:Nat,d+1≤j→wordsOk.l q m (x+1) cnt j k=some b)∧∀κ:Nat,2*d+1≤κ→spec_l21Thing.l0 κ (startsL W ws.length) x (refsL cs c hd (hd+cnt)) (hd+k) ws y t o cards=some b:=by
  intro d
  induction d with
  | zero =>
   intro k k0 kd;refine ⟨true,fun q hq j hj=>?_,fun κ hκ=>?_⟩
   ·obtain ⟨j, rfl⟩ : ∃ i, j = i + 1 := ⟨j - 1, by omega⟩
    rw [wordsOk.l,if_neg (by omega)]
   ·obtain ⟨κ, rfl⟩ : ∃ i, κ = i + 1 := ⟨κ - 1, by omega⟩
    have hRl:((refsL cs c hd (hd+cnt)).length:Int)=hd+cnt:=by unfold refsL;rw [List.length_map,List.length_range];omega
    rw [spec_l21Thing.l0,if_neg (by omega)]
  | succ d ih =>
   intro k k0 kd;obtain ⟨b,hb1,hb2⟩:=word_eq hb hw m hm h0 hhd hcn hsz hfi hle _ rfl k0 (show k<cnt by omega);obtain ⟨b',h1,h2⟩:=ih (k+1) (by omega) (by omega)
   cases b with
   | true =>
    refine ⟨b',fun q hq j hj=>?_,fun κ hκ=>?_⟩
    ·obtain ⟨j, rfl⟩ : ∃ i, j = i + 1 := ⟨j - 1, by omega⟩
     rw [wordsOk.l,if_pos (by omega),hb1 q hq,Option.bind_some,if_pos rfl];exact h1 q hq j (by omega)
    ·obtain ⟨κ, rfl⟩ : ∃ i, κ = i + 2 := ⟨κ - 2, by omega⟩
     rw [hb2 κ,if_pos rfl,show hd+k+1=hd+(k+1) by omega];exact h2 κ (by omega)
   | false =>
    refine ⟨false,fun q hq j hj=>?_,fun κ hκ=>?_⟩
    ·obtain ⟨j, rfl⟩ : ∃ i, j = i + 1 := ⟨j - 1, by omega⟩
     rw [wordsOk.l,if_pos (by omega),hb1 q hq,Option.bind_some,if_neg (by simp)]
    ·obtain ⟨κ, rfl⟩ : ∃ i, κ = i + 2 := ⟨κ - 2, by omega⟩
     rw [hb2 κ,if_neg (by simp)]
 obtain ⟨b,h1,h2⟩:=key cnt.toNat 0 (by omega) (by omega);refine ⟨b,fun q hq=>?_,fun k hk=>?_⟩
 ·unfold wordsOk.f
  rw [hco,Option.bind_some,if_pos (by omega)];exact h1 q hq _ (by omega)
 ·unfold spec_l21Thing.f spec_l21Refs.f
  rw [hl21 k (by omega)];simp only [Option.bind_some]
  rw [if_pos (by omega),if_pos (by omega),if_pos h0,if_pos (by omega),←hc,hhe];simp only [Option.bind_some]
  have hr:=refs_l0 (cs:=cs) hb.ok (c:=c) (hd:=hd) (s:=(hd+cnt).toNat) (by omega) hhd (by rcases hcc with z|z|z;exact Or.inl z;exact Or.inr (Or.inl z);exact Or.inr (Or.inr ⟨z.1,z.2.1,z.2.2.1,by omega⟩)) cnt.toNat k hd.toNat (List.replicate (hd+cnt).toNat false) (by omega) (by omega) (by omega) (by simp) (fun i hi=>by
   rw [decide_eq_false (show¬(hd≤(i:Int)∧i<hd.toNat) by omega)]
   simp [List.getD_eq_getElem?_getD,hi])
  rw [show ((hd.toNat:Nat):Int)=hd by omega] at hr;rw [hr];simp only [Option.bind_some]
  rw [if_pos (by omega),if_pos (by omega)];have:=h2 k (by omega)
  rw [show hd+0=hd by omega,show ((hd+cnt).toNat:Int)=hd+cnt by omega] at*;exact this
theorem all_drop_iff (l:List Int) (T:Nat):(l.drop T).all (· ==0)=true↔∀j:Nat,T≤j→j<l.length→l.getD j 0=0:=by
 rw [List.all_eq_true]
 constructor
 ·intro h j h1 h2
  have hm:l[j]∈l.drop T:=by
   rw [List.mem_iff_getElem];refine ⟨j - T,by rw [List.length_drop];omega,?_⟩;simp only [List.getElem_drop,show T+(j - T)=j by omega]
  have:=h _ hm
  rw [List.getD_eq_getElem?_getD,List.getElem?_eq_getElem h2]
  simpa using this
 ·intro h x hx
  obtain ⟨i,hi,rfl⟩:=List.getElem_of_mem hx;rw [List.length_drop] at hi;have:=h (T+i) (by omega) (by omega)
  rw [List.getD_eq_getElem?_getD,List.getElem?_eq_getElem (by omega)] at this;rw [List.getElem_drop]
  simpa using this
def Zr (ws:List Int) (y t o:Int) (i:Nat):Prop:=((t≤i∧(i:Int)≤y - 1)∨(i:Int)≥o)→ws.getD i 0=0
theorem bounds_l0 {ws:List Int} {y t o:Int} {cards:List Bool} (hn:ws.length≤1048576) (hy:0≤y) (hy2:y≤40) (d:Nat): ∀(k i:Nat),i+d=ws.length→d<k→∃b,spec_l21Bounds.l0 k ws.length i ws y t o cards=some b∧(b=true↔∀j:Nat,i≤j→j<ws.length→Zr ws y t o j):=by
 induction d with
 |zero=>
  intro k i hi hk;obtain ⟨k,rfl⟩: ∃m,k=m+1:=⟨k - 1,by omega⟩;refine ⟨true,by rw [spec_l21Bounds.l0,if_neg (by omega)],by simp only [true_iff];intro j h1 h2;omega⟩
 | succ d ih =>
  intro k i hi hk;obtain ⟨k,rfl⟩: ∃m,k=m+1:=⟨k - 1,by omega⟩;have hlt:i<ws.length:=by omega
  obtain ⟨b,h1,h2⟩:=ih k (i+1) (by omega) (by omega);rw [show ((i+1:Nat):Int)=wrap64 ((i:Int)+1) by rw [wrap_inc (n:=1048577) (by omega) (by omega) (by omega)];omega] at h1;have w:wrap64 (y - 1)=y - 1:=wrap64_of (by omega) (by omega)
  by_cases z:Zr ws y t o i
  ·refine ⟨b, ?_, h2.trans ⟨fun h j h3 h4 => ?_, fun h j h3 h4 => h j (by omega) h4⟩⟩
   ·rw [spec_l21Bounds.l0, if_pos (by omega), spec_l6In_eq, w]
    simp only [Option.bind_some,decide_eq_true_eq]
    by_cases c1:t≤(i:Int)∧(i:Int)≤y - 1
    ·rw [if_pos c1, if_pos (by omega), if_pos (by omega), rd_cast, if_pos (z (Or.inl c1))]
     exact h1
    ·rw [if_neg c1]
     by_cases c2:(i:Int)≥o
     ·rw [if_pos c2, if_pos (by omega), if_pos (by omega), rd_cast, if_pos (z (Or.inr c2))]
      exact h1
     ·rw [if_neg c2]
      exact h1
   ·rcases Nat.eq_or_lt_of_le h3 with q | q
    ·subst q;exact z
    ·exact h j (by omega) h4
  ·refine ⟨false, ?_, by constructor; intro h; simp at h; intro h; exact absurd (h i (Nat.le_refl _) hlt) z⟩
   have z2:((t≤(i:Int)∧(i:Int)≤y - 1)∨(i:Int)≥o)∧¬ws.getD i 0=0:=by
    unfold Zr at z;exact ⟨Classical.byContradiction fun q=>z (fun p=>absurd p q),fun q=>z (fun _=>q)⟩
   rw [spec_l21Bounds.l0,if_pos (by omega),spec_l6In_eq,w];simp only [Option.bind_some,decide_eq_true_eq]
   by_cases c1:t≤(i:Int)∧(i:Int)≤y - 1
   ·rw [if_pos c1,if_pos (by omega),if_pos (by omega),rd_cast,if_neg z2.2]
   ·rw [if_neg c1,if_pos (z2.1.resolve_left c1),if_pos (by omega),if_pos (by omega),rd_cast,if_neg z2.2]
theorem bounds_eq {cs:Cs} (hf:fewF cs) (hok:csOk cs=true) {ws:List Int} {y t o:Int} {cards:List Bool} (hn:ws.length≤1048576) (hc:cards.length≤1048576):
    ∃p,impl_partsOk.f ws y t o cards=some p∧(∀k,4000000≤k→spec_l21Bounds.f k cs ws y t o cards=some p)∧(p=true→Bnd cs ws y t o cards):=by
  have bad: ∀k,1≤k→spec_l21Bounds.j0 k ws.length true ws y t o cards=some false:=fun k hk=>by
    obtain ⟨k,rfl⟩: ∃m,k=m+1:=⟨k - 1,by omega⟩;rw [spec_l21Bounds.j0,if_pos rfl]
  have hp:impl_partsOk.f ws y t o cards=some (pOk ws y t o cards 0&&pOk ws y t o cards 1&&pOk ws y t o cards 2&&pOk ws y t o cards 3&&pOk ws y t o cards 4&&pOk ws y t o cards 5&&pOk ws y t o cards 6):=by
    unfold impl_partsOk.f;rw [if_pos (by omega)]
  rw [hp]
  have hs: ∀k,4000000≤k→spec_l21Bounds.f k cs ws y t o cards=if 0≤y∧y≤40 then (if 14≤wrap64 ((ws.length:Int) - y)∧wrap64 ((ws.length:Int) - y)≤120 then (if 0≤t∧t≤y then (if y≤o∧o≤ws.length then spec_l21Bounds.j0 k ws.length ((cards.length:Int) !=cardsN (wrap64 ((ws.length:Int) - y))) ws y t o cards else some false) else some false) else some false) else some false:=fun k hk=>by
    unfold spec_l21Bounds.f;rw [spec_ClassesOk_eq hf k (by omega),hok];simp only [Option.bind_some,if_true,spec_l6In_eq,decide_eq_true_eq,bad k (by omega)]
    rfl
  by_cases c0:0≤y∧y≤40
  case neg=>
    refine ⟨_,rfl,fun k hk=>?_,fun h=>?_⟩
    · rw [hs k hk,if_neg c0,show pOk ws y t o cards 0=false from decide_eq_false c0];rfl
    · rw [show pOk ws y t o cards 0=false from decide_eq_false c0] at h;simp at h
  case pos=>
  have e0:pOk ws y t o cards 0=true:=decide_eq_true c0
  have w:wrap64 ((ws.length:Int) - y)=(ws.length:Int) - y:=wrap64_of (by omega) (by omega)
  rw [e0,Bool.true_and];by_cases c1:14≤wrap64 ((ws.length:Int) - y)∧wrap64 ((ws.length:Int) - y)≤120
  case neg=>
    refine ⟨_,rfl,fun k hk=>?_,fun h=>?_⟩
    · rw [hs k hk,if_pos c0,if_neg c1,show pOk ws y t o cards 1=false from decide_eq_false c1];rfl
    · rw [show pOk ws y t o cards 1=false from decide_eq_false c1] at h;simp at h
  case pos=>
  have e1:pOk ws y t o cards 1=true:=decide_eq_true c1
  rw [e1,Bool.true_and];by_cases c2:0≤t∧t≤y
  case neg=>
    refine ⟨_,rfl,fun k hk=>?_,fun h=>?_⟩
    · rw [hs k hk,if_pos c0,if_pos c1,if_neg c2,show pOk ws y t o cards 2=false from decide_eq_false c2];rfl
    · rw [show pOk ws y t o cards 2=false from decide_eq_false c2] at h;simp at h
  case pos=>
  have e2:pOk ws y t o cards 2=true:=decide_eq_true c2
  rw [e2,Bool.true_and];by_cases c3:y≤o∧o≤(ws.length:Int)
  case neg=>
    refine ⟨_,rfl,fun k hk=>?_,fun h=>?_⟩
    · rw [hs k hk,if_pos c0,if_pos c1,if_pos c2,if_neg c3,show pOk ws y t o cards 3=false from decide_eq_false c3];rfl
    · rw [show pOk ws y t o cards 3=false from decide_eq_false c3] at h;simp at h
  case pos=>
  have e3:pOk ws y t o cards 3=true:=decide_eq_true c3
  rw [e3,Bool.true_and];by_cases c4:(cards.length:Int)=cardsN (wrap64 ((ws.length:Int) - y))
  case neg=>
    have e4:pOk ws y t o cards 4=false:=beq_eq_false_iff_ne.mpr c4
    refine ⟨_,rfl,fun k hk=>?_,fun h=>?_⟩
    · rw [hs k hk,if_pos c0,if_pos c1,if_pos c2,if_pos c3,bne_iff_ne.mpr c4,bad k (by omega),e4];rfl
    · rw [e4] at h;simp at h
  case pos=>
  have e4:pOk ws y t o cards 4=true:=beq_iff_eq.mpr c4
  rw [e4,Bool.true_and]
  have h5:pOk ws y t o cards 5=true↔∀j:Nat,t≤j→(j:Int)≤y - 1→ws.getD j 0=0:=by
    show ((ws.take y.toNat).drop t.toNat).all (· ==0)=true↔_
    rw [all_drop_iff]
    constructor
    · intro h j h1 h2
      have:=h j (by omega) (by rw [List.length_take];omega)
      rw [List.getD_eq_getElem?_getD,List.getElem?_take,if_pos (by omega)] at this;rw [List.getD_eq_getElem?_getD];exact this
    · intro h j h1 h2
      rw [List.length_take] at h2;rw [List.getD_eq_getElem?_getD,List.getElem?_take,if_pos (by omega)];have:=h j (by omega) (by omega)
      rw [List.getD_eq_getElem?_getD] at this;exact this
  have h6:pOk ws y t o cards 6=true↔∀j:Nat,o≤j→j<ws.length→ws.getD j 0=0:=by
    show ((ws.drop y.toNat).drop (o - y).toNat).all (· ==0)=true↔_
    rw [List.drop_drop,all_drop_iff]
    constructor
    · intro h j h1 h2;exact h j (by omega) h2
    · intro h j h1 h2;exact h j (by omega) h2
  obtain ⟨b,hb1,hb2⟩:=bounds_l0 (ws:=ws) (y:=y) (t:=t) (o:=o) (cards:=cards) hn c0.1 c0.2 ws.length (ws.length+1) 0 (by omega) (by omega)
  have eb:(pOk ws y t o cards 5&&pOk ws y t o cards 6)=b:=by
    rw [Bool.eq_iff_iff,Bool.and_eq_true,h5,h6,hb2]
    constructor
    · rintro ⟨q1, q2⟩ j _ hj z
      rcases z with z|z
      · exact q1 j z.1 z.2
      · exact q2 j z hj
    · intro q
      exact ⟨fun j h1 h2=>q j (by omega) (by omega) (Or.inl ⟨h1,h2⟩),fun j h1 h2=>q j (by omega) h2 (Or.inr h1)⟩
  refine ⟨_,rfl,fun k hk=>?_,fun _=>?_⟩
  · rw [hs k hk, if_pos c0, if_pos c1, if_pos c2, if_pos c3, eb]
    obtain ⟨k,rfl⟩: ∃m,k=m+1:=⟨k - 1,by omega⟩;have e:((cards.length:Int) !=cardsN (wrap64 ((ws.length:Int) - y)))=false:=by rw [←c4];simp
    rw [e,spec_l21Bounds.j0,if_neg (by simp)];exact at_rounds (g:=fun k=>spec_l21Bounds.l0 k ws.length 0 ws y t o cards) (fun k=>(spec_l21Bounds.mono_l k).2 _ _ _ _ _ _ _) (show ws.length+1≤k by omega) hb1
  · have w4 : cardsN (wrap64 ((ws.length : Int) - y)) = ((ws.length : Int) - y + 3) / 4 := by
      rw [w] at c1 ⊢;unfold cardsN;rw [wrap64_of (n:=(ws.length:Int) - y+4) (by omega) (by omega),wrap64_of (n:=(ws.length:Int) - y+4 - 1) (by omega) (by omega),Int.tdiv_eq_ediv_of_nonneg (by omega),show (ws.length:Int) - y+4 - 1=(ws.length:Int) - y+3 by omega,wrap64_of (by omega) (by omega)]
    rw [w] at c1;exact ⟨hok,c0.1,c0.2,c1.1,c1.2,c2.1,c2.2,c3.1,c3.2,by rw [c4,w4]⟩
theorem things_eq {cs:Cs} {ws:List Int} {y t o:Int} {cards:List Bool} (hb:Bnd cs ws y t o cards) {W:List Int} (hw:Wlk cs ws W) (m:Mm) (hm:m=⟨ws,y,t,o,cards,allF cs,W.map (· +1)⟩):
  ∃b,(∀q,300≤q→thingsOk q m (W.map (· +1))=some b)∧∀k,500≤k→spec_MemOk.l0 k cs W (startsL W ws.length) 0 ws y t o cards=some b:=by
 have hlen:=hw.len
 have key: ∀d i:Nat,i+d=W.length→∃b,(∀q,300≤q→thingsOk q m ((W.drop i).map (· +1))=some b)∧∀k,d+201≤k→spec_MemOk.l0 k cs W (startsL W ws.length) i ws y t o cards=some b:=by
  intro d
  induction d with
  |zero=>
   intro i hi;refine ⟨true,fun q _=>by rw [List.drop_eq_nil_of_le (by omega)];rfl,fun k hk=>?_⟩;obtain ⟨k,rfl⟩: ∃m,k=m+1:=⟨k - 1,by omega⟩;rw [spec_MemOk.l0,if_neg (by omega)]
  | succ d ih =>
   intro i hi;have hlt:i<W.length:=by omega
   obtain ⟨b,h1,h2⟩:=thing_eq hb hw m hm (List.getElem_mem hlt);obtain ⟨b',h3,h4⟩:=ih (i+1) (by omega);have hd:(W.drop i).map (· +1)=(W[i]+1)::(W.drop (i+1)).map (· +1):=by rw [List.drop_eq_getElem_cons hlt];rfl
   refine ⟨if b=true then b' else false,fun q hq=>?_,fun k hk=>?_⟩
   ·rw [hd, thingsOk, h1 q hq, Option.bind_some]
    cases b with
    |true=>exact h3 q hq
    |false=>rfl
   ·obtain ⟨k, rfl⟩ : ∃ m, k = m + 1 := ⟨k - 1, by omega⟩
    rw [spec_MemOk.l0,if_pos (by omega),if_pos (by omega),rd_mem hlt,h2 k (by omega),Option.bind_some,wrap_inc (n:=1048577) (by omega) (by omega) (by omega)]
    cases b with
    |true=>have:=h4 k (by omega);rw [show ((i+1:Nat):Int)=(i:Int)+1 by omega] at this;exact this
    |false=>rfl
 obtain ⟨b,h1,h2⟩:=key W.length 0 (by omega);exact ⟨b,h1,fun k hk=>h2 k (by omega)⟩
def Prt (cs:Cs) (ws:List Int) (y t o:Int) (W:List Int):Prop:= ∀x∈W,(0≤x∧0<mstep ws (allF cs) t x∧mstep ws (allF cs) t x≤t - x)∨(y≤x∧0<mstep ws (allF cs) o x∧mstep ws (allF cs) o x≤o - x)
theorem open_eq2 {cs:Cs} (hf:fewF cs) {ws:List Int} {y t o:Int} {cards:List Bool} (hn:ws.length≤1048576) (hc:cards.length≤1048576):
  ∃r:Option Mm,(∀k,4000000≤k→mopen k k cs ws y t o cards=some r)∧(∀k,4000000≤k→spec_MemOk.f k cs ws y t o cards=some r.isSome)∧
   (∀m,r=some m→∃W,Bnd cs ws y t o cards∧Wlk cs ws W∧m=⟨ws,y,t,o,cards,allF cs,W.map (· +1)⟩∧(∀k,4000000≤k→spec_l21Walk.f k cs ws y t o cards=some (W,true))∧Prt cs ws y t o W∧W=(pw ws (allF cs) t t.toNat 0).1++(pw ws (allF cs) o (o - y).toNat y).1∧∀q,300≤q→thingsOk q m (W.map (· +1))=some true):=by
 cases hok:csOk cs with
 | false =>
  refine ⟨none,fun k hk=>?_,fun k hk=>?_,fun m hm=>by cases hm⟩
  ·unfold mopen
   rw [impl_ClassesOk_eq cs k (by omega),hok];rfl
  ·unfold spec_MemOk.f spec_l21Bounds.f
   rw [spec_ClassesOk_eq hf k (by omega),hok];obtain ⟨k,rfl⟩: ∃m,k=m+1:=⟨k - 1,by omega⟩;rw [Option.bind_some,if_neg (by simp),spec_l21Bounds.j0,if_pos rfl];rfl
 |true=>
 obtain ⟨p,hp1,hp2,hp3⟩:=bounds_eq (cs:=cs) (y:=y) (t:=t) (o:=o) hf hok hn hc
 cases p with
 | false =>
  refine ⟨none,fun k hk=>?_,fun k hk=>?_,fun m hm=>by cases hm⟩
  ·unfold mopen
   rw [impl_ClassesOk_eq cs k (by omega),hok,Option.bind_some,if_pos rfl,hp1];rfl
  ·unfold spec_MemOk.f
   rw [hp2 k hk];rfl
 |true=>
 have hb:=hp3 rfl;have n0:=hb.n0;have n1:=hb.n1;have y0:=hb.y0;have y1:=hb.y1;have t0:=hb.t0;have t1:=hb.t1;have o0:=hb.o0;have o1:=hb.o1;obtain ⟨r1,h1⟩: ∃r1,r1=pw ws (allF cs) t t.toNat 0:=⟨_,rfl⟩;obtain ⟨r2,h2⟩: ∃r2,r2=pw ws (allF cs) o (o - y).toNat y:=⟨_,rfl⟩;have l1:=pw_len ws (allF cs) t t.toNat 0;have l2:=pw_len ws (allF cs) o (o - y).toNat y;have m1:=pw_mem ws (allF cs) t t.toNat 0;have m2:=pw_mem ws (allF cs) o (o - y).toNat y;have s1:=pw_sorted ws (allF cs) t t.toNat 0;have s2:=pw_sorted ws (allF cs) o (o - y).toNat y;rw [←h1] at l1 m1 s1;rw [←h2] at l2 m2 s2
 have hM: ∀k,4000000≤k→mopen k k cs ws y t o cards=if r1.2=true then (if r2.2=true then (thingsOk k ⟨ws,y,t,o,cards,allF cs,(r1.1++r2.1).map (· +1)⟩ ((r1.1++r2.1).map (· +1))).bind fun ok=>if ok=true then some (some ⟨ws,y,t,o,cards,allF cs,(r1.1++r2.1).map (· +1)⟩) else some none else some none) else some none:=fun k hk=>by
  unfold mopen
  rw [impl_ClassesOk_eq cs k (by omega),hok,Option.bind_some,if_pos rfl,hp1,Option.bind_some,if_pos rfl,allFields_eq hok k (by omega),Option.bind_some,if_pos ⟨allF_all hok,hn,hc⟩,
   pw_mwalk ws (allF cs) t t.toNat 0 [] k (by omega) (by omega),←h1,Option.bind_some]
  by_cases c:r1.2=true
  ·rw [if_pos c, if_pos c, if_pos (by simp; omega), pw_mwalk ws (allF cs) o (o - y).toNat y _ k (by omega) (by omega), ← h2, Option.bind_some]
   by_cases c2:r2.2=true
   ·rw [if_pos c2, if_pos c2, if_pos (by simp; omega)]
    simp only [List.nil_append,←List.map_append]
   ·rw [if_neg c2,if_neg c2]
  ·rw [if_neg c,if_neg c]
 have hW: ∀k,4000000≤k→spec_l21Walk.f k cs ws y t o cards=some (r1.1++r2.1,r1.2&&r2.2):=fun k hk=>by
  unfold spec_l21Walk.f spec_l21Part.f;rw [pw_part hok hn (by omega) t.toNat 0 [] k (by omega) (by omega) (by omega) (by simp;omega),←h1,Option.bind_some,pw_part hok hn (by omega) (o - y).toNat y [] k (by omega) (by omega) (by omega) (by simp;omega),←h2,Option.bind_some];simp only [List.nil_append]
  rw [if_pos (by omega),Option.bind_some]
  cases r1.2 with
  |true=>rw [if_pos rfl];rfl
  |false=>rw [if_neg (by simp)];rfl
 have hS: ∀k,4000000≤k→spec_MemOk.f k cs ws y t o cards=if (r1.2&&r2.2)=true then (spec_l21Starts.f k ws.length (r1.1++r2.1)).bind fun S=>spec_MemOk.l0 k cs (r1.1++r2.1) S 0 ws y t o cards else some false:=fun k hk=>by
  unfold spec_MemOk.f;rw [hp2 k hk,Option.bind_some,if_pos rfl,hW k hk,Option.bind_some]
 cases c1:r1.2 with
 |false=>
  refine ⟨none,fun k hk=>by rw [hM k hk,c1];rfl,fun k hk=>by rw [hS k hk,c1];rfl,fun m hm=>by cases hm⟩
 |true=>
 cases c2:r2.2 with
 |false=>
  refine ⟨none,fun k hk=>by rw [hM k hk,c1,c2];rfl,fun k hk=>by rw [hS k hk,c1,c2];rfl,fun m hm=>by cases hm⟩
 |true=>
 have hw:Wlk cs ws (r1.1++r2.1):=by
  refine ⟨fun x hx=>?_,?_,by rw [List.length_append];omega⟩
  ·rcases List.mem_append.mp hx with z | z
   ·have:=m1 x z;exact ⟨t,by omega,by omega,by omega,by omega,by omega⟩
   ·have:=m2 x z;exact ⟨o,by omega,by omega,by omega,by omega,by omega⟩
  ·rw [List.pairwise_append]
   exact ⟨s1,s2,fun a ha b hb'=>by have:=m1 a ha;have:=m2 b hb';omega⟩
 obtain ⟨b,b1,b2⟩:=things_eq hb hw _ rfl;have hst: ∀k,4000000≤k→spec_l21Starts.f k ws.length (r1.1++r2.1)=some (startsL (r1.1++r2.1) ws.length):=fun k hk=>starts_eq (fun x hx=>wlk_range hw hx) (by have:=hw.len;omega) (by omega) k (by omega)
 cases b with
 |false=>
  refine ⟨none,fun k hk=>by rw [hM k hk,if_pos c1,if_pos c2,b1 k (by omega)];rfl,fun k hk=>by rw [hS k hk,c1,c2,if_pos (show (true&&true)=true from rfl),hst k hk,Option.bind_some,b2 k (by omega)];rfl,fun m hm=>by cases hm⟩
 |true=>
  refine ⟨some ⟨ws,y,t,o,cards,allF cs,(r1.1++r2.1).map (· +1)⟩,fun k hk=>by rw [hM k hk,if_pos c1,if_pos c2,b1 k (by omega)];rfl,fun k hk=>by rw [hS k hk,c1,c2,if_pos (show (true&&true)=true from rfl),hst k hk,Option.bind_some,b2 k (by omega)];rfl,fun m hm=>?_⟩;obtain rfl:=Option.some.inj hm;refine ⟨r1.1++r2.1,hb,hw,rfl,fun k hk=>by rw [hW k hk,c1,c2];rfl,fun x hx=>?_,by rw [h1,h2],fun q hq=>b1 q hq⟩;rcases List.mem_append.mp hx with z|z
  ·have:=m1 x z;exact .inl ⟨by omega,this.2.2.1,this.2.2.2⟩
  ·have:=m2 x z;exact .inr ⟨by omega,this.2.2.1,this.2.2.2⟩
theorem refs_eq {cs:Cs} {ws:List Int} {y t o:Int} {cards:List Bool} (hb:Bnd cs ws y t o cards) {c hd cnt x:Int} (hc:c=rd ws x) (h0:0≤x) (hhd:hd=1∨hd=2) (hcn:0≤cnt) (hcn8:cnt≤8) (hsz:x+hd+cnt≤ws.length) (hhe:spec_l21Head.f c=some hd) (hl21: ∀k,20≤k→spec_l21Size.f k cs ws x ws.length=some (hd+cnt)) (hcc:c= -1∨c= -2∨(0≤c∧c<cs.length∧hd=1∧cnt=(cfl cs c).length)):
  ∀k,200≤k→spec_l21Refs.f k cs ws x=some (refsL cs c hd (hd+cnt)):=by
 intro k hk;unfold spec_l21Refs.f;rw [hl21 k (by omega),Option.bind_some,if_pos (by omega),if_pos (by omega),if_pos h0,if_pos (by omega),←hc,hhe,Option.bind_some]
 have:=refs_l0 hb.ok (c:=c) (hd:=hd) (s:=(hd+cnt).toNat) (by omega) hhd (by rcases hcc with z|z|z;exact .inl z;exact .inr (.inl z);exact .inr (.inr ⟨z.1,z.2.1,z.2.2.1,by omega⟩)) ((hd+cnt).toNat - hd.toNat) k hd.toNat (List.replicate (hd+cnt).toNat false) (by omega) (by omega) (by omega) (by simp) (fun i hi=>by
  rw [List.getD_eq_getElem?_getD,List.getElem?_replicate,if_pos hi]
  rw [decide_eq_false (by omega)];rfl)
 rw [show ((hd.toNat:Nat):Int)=hd by omega,show (((hd+cnt).toNat:Nat):Int)=hd+cnt by omega] at this;exact this
abbrev Vs:=S48
abbrev Os:=S46
theorem things_true {q:Nat} {m:Mm}: ∀{l:List Int},thingsOk q m l=some true→∀a∈l,wordsOk.f q m a=some true
 |[],_,a,ha=>by simp at ha
 | b :: r, h, a, ha => by
  rw [thingsOk] at h;obtain ⟨ok,h1,h2⟩:=Option.bind_eq_some_iff.mp h
  cases ok with
  |false=>simp at h2
  |true=>
   rw [if_pos rfl] at h2;rcases List.mem_cons.mp ha with e|e
   ·rw [e];exact h1
   ·exact things_true h2 a e
theorem wordsL_true {q:Nat} {m:Mm} {a n:Int}: ∀{j:Nat} {x:Int},wordsOk.l q m a n j x=some true→∀k,x≤k→k<n→wordAt q m a k=some true
 |0,_,h,_,_,_=>by simp [wordsOk.l] at h
 | j + 1, x, h, k, h0, h1 => by
  rw [wordsOk.l,if_pos (by omega)] at h;obtain ⟨ok,h2,h3⟩:=Option.bind_eq_some_iff.mp h
  cases ok with
  |false=>simp at h3
  |true=>
   rw [if_pos rfl] at h3;by_cases e:x=k
   ·rw [←e];exact h2
   ·exact wordsL_true h3 k (by omega) h1
theorem word_lead {cs:Cs} {ws W:List Int} {y t o:Int} {cards:List Bool} (hw:Wlk cs ws W) (m:Mm) (hm:m=⟨ws,y,t,o,cards,allF cs,W.map (· +1)⟩) (hok: ∀q,300≤q→thingsOk q m (W.map (· +1))=some true) {x hd cnt c k:Int} (hx:x∈W)
  (hco:thing_count.f m (x+1)=some cnt) (hfi:thing_first.f m (x+1)=some (x+hd)) (hle: ∀k,0≤k→k<cnt→thing_leads.f m (x+1) k=some (ldB cs c k)) (k0:0≤k) (k1:k<cnt) (hl:ldB cs c k=true):
  rd ws (x+hd+k)=0∨rd ws (x+hd+k) - 1∈W:=by
 have h1:=things_true (hok 300 (Nat.le_refl _)) (x+1) ((mem_map1 W (x+1)).mpr (by rw [show x+1 - 1=x by omega];exact hx));unfold wordsOk.f at h1;rw [hco,Option.bind_some] at h1
 split at h1
 case isFalse=>simp at h1
 have h2:=wordsL_true h1 k k0 k1;unfold wordAt at h2;rw [hfi,Option.bind_some] at h2
 split at h2
 case isFalse=>simp at h2
 rw [hle k k0 k1,Option.bind_some,hl,if_pos rfl] at h2;have e:m.words=ws:=by rw [hm]
 rw [e] at h2;by_cases z:rd ws (x+hd+k)=0
 ·exact .inl z
 ·rw [if_neg z, has_eq hw m (by rw [hm]) _ 300 (Nat.le_refl _), Option.bind_some] at h2
  by_cases z2:rd ws (x+hd+k) - 1∈W
  ·exact .inr z2
  ·rw [decide_eq_false z2] at h2;simp at h2
def idx (W:List Int) (x:Int):Nat:=W.idxOf x
theorem idx_lt {W:List Int} {x:Int} (h:x∈W):idx W x<W.length:=List.idxOf_lt_length_of_mem h
theorem idx_at {W:List Int} {x:Int} (h:x∈W):W[idx W x]'(idx_lt h)=x:=List.getElem_idxOf _
theorem number_eq {cs:Cs} {ws W:List Int} (hw:Wlk cs ws W) (m:Mm) (hm:m.begins=W.map (· +1)) {v:Int} (hv:v - 1∈W) (v0:v≠0): ∀q,300≤q→memory_number.f q m v=some ((idx W (v - 1):Int)+1):=by
 intro q hq;have hl:=hw.len;obtain ⟨p,hp,h,h1,h2⟩:=search_eq (map1_sorted hw.srt) (by rw [List.length_map];omega) v;unfold memory_number.f;rw [if_neg v0,hm,h q (by rw [List.length_map];omega),Option.bind_some];rw [List.length_map] at hp;have hx:=idx_lt hv;have ha:=idx_at hv
 have h3:p≤idx W (v - 1):=Nat.le_of_not_lt fun z=>by
  have:=h1 (idx W (v - 1)) (by rw [List.length_map];exact hx) z
  rw [List.getElem_map,ha] at this;omega
 have h4:p=idx W (v - 1):=by
  rcases Nat.eq_or_lt_of_le h3 with z|z
  ·exact z
  ·have h5 := h2 p (by rw [List.length_map]; omega) (Nat.le_refl _)
   rw [List.getElem_map] at h5;have:=sorted_lt hw.srt z hx
   omega
 rw [←h4];show some (wrap64 ((p:Int)+1))=_
 rw [wrap64_of (by omega) (by omega)]
theorem number_l0 {W:List Int} {n:Nat} (hW: ∀x∈W,0≤x∧x<(n:Int)) (hs:W.Pairwise (· < ·)) (hl:W.length≤1000) (d:Nat): ∀(k i:Nat) (S:List Int),i+d=W.length→d<k→S.length=n→(∀p (h:p<W.length),p<i→S.getD W[p].toNat 0=(p:Int)+1)→
  ∃S':List Int,spec_l21Number.l0 k W S i=some S'∧S'.length=n∧∀p (h:p<W.length),S'.getD W[p].toNat 0=(p:Int)+1:=by
 induction d with
 |zero=>
  intro k i S hi hk hS hp;obtain ⟨k,rfl⟩: ∃m,k=m+1:=⟨k - 1,by omega⟩;exact ⟨S,by rw [spec_l21Number.l0,if_neg (by omega)],hS,fun p h=>hp p h (by omega)⟩
 | succ d ih =>
  intro k i S hi hk hS hp;obtain ⟨k,rfl⟩: ∃m,k=m+1:=⟨k - 1,by omega⟩;have hlt:i<W.length:=by omega
  have hr:=hW W[i] (List.getElem_mem hlt);rw [spec_l21Number.l0,if_pos (by omega),if_pos (by omega),rd_mem hlt,if_pos hr.1,if_pos (by omega),wrap_inc (n:=100000) (by omega) (by omega) (by omega)]
  have:=ih k (i+1) (S.set W[i].toNat ((i:Int)+1)) (by omega) (by omega) (by rw [List.length_set];exact hS) (fun p h hpi=>by
   rw [List.getD_eq_getElem?_getD,List.getElem?_set];by_cases e:W[i].toNat=W[p].toNat
   ·rw [if_pos e, if_pos (by omega)]
    have hr2:=hW W[p] (List.getElem_mem h);rcases Nat.lt_trichotomy i p with z|z|z
    ·omega
    ·subst z;rfl
    ·have:=sorted_lt hs z hlt;omega
   ·rw [if_neg e, ← List.getD_eq_getElem?_getD]
    exact hp p h (by rcases Nat.eq_or_lt_of_le (show p≤i by omega) with z|z;subst z;exact absurd rfl e;exact z))
  rw [show ((i+1:Nat):Int)=(i:Int)+1 by omega] at this;exact this
theorem numL {W:List Int} {n:Nat} (hW: ∀x∈W,0≤x∧x<(n:Int)) (hs:W.Pairwise (· < ·)) (hl:W.length≤1000) (hn:n≤1048576):
  ∃S:List Int,(∀k,1001≤k→spec_l21Number.f k n W=some S)∧S.length=n∧∀x∈W,rd S x=(idx W x:Int)+1:=by
 obtain ⟨S,h1,h2,h3⟩:=number_l0 hW hs hl W.length 1001 0 (List.replicate n 0) (by omega) (by omega) (by simp) (fun p h hp=>by omega);refine ⟨S,fun k hk=>?_,h2,fun x hx=>?_⟩
 ·unfold spec_l21Number.f
  rw [if_pos (by omega),if_pos (by omega),Int.toNat_natCast];exact at_rounds (g:=fun k=>spec_l21Number.l0 k W (List.replicate n 0) 0) (fun k=>(spec_l21Number.mono_l k) _ _ _) hk h1
 ·have := h3 (idx W x) (idx_lt hx)
  rw [idx_at hx] at this;exact this
def valAt (cs:Cs) (ws W:List Int) (c b k:Int):Vs:=if ldB cs c k=true then ⟨true,if rd ws (b+k)=0 then 0 else (idx W (rd ws (b+k) - 1):Int)+1⟩ else ⟨false,rd ws (b+k)⟩
def valsL (cs:Cs) (ws W:List Int) (c b:Int):Nat→Int→List Vs
  |0,_=>[]
  |d+1,k=>valAt cs ws W c b k::valsL cs ws W c b d (k+1)
theorem valsL_length (cs:Cs) (ws W:List Int) (c b:Int): ∀d k,(valsL cs ws W c b d k).length=d
  |0,_=>rfl
  |d+1,k=>by rw [valsL,List.length_cons,valsL_length]
theorem objVals_eq {cs:Cs} {ws:List Int} {y t o:Int} {cards:List Bool} (hb:Bnd cs ws y t o cards) {W:List Int} (hw:Wlk cs ws W) (m:Mm) (hm:m=⟨ws,y,t,o,cards,allF cs,W.map (· +1)⟩) (hok: ∀q,300≤q→thingsOk q m (W.map (· +1))=some true) {x hd cnt c:Int} (hx:x∈W) (hhd:hd=1∨hd=2) (hcn8:cnt≤8) (hsz:x+hd+cnt≤ws.length)
  (hco:thing_count.f m (x+1)=some cnt) (hfi:thing_first.f m (x+1)=some (x+hd)) (hle: ∀k,0≤k→k<cnt→thing_leads.f m (x+1) k=some (ldB cs c k)) (q:Nat) (hq:300≤q):
  ∀(d j:Nat) (k:Int) (acc:List Vs),0≤k→k+d=cnt→d<j→acc.length≤100 - d→objVals q m (x+1) cnt j k acc=some (acc++valsL cs ws W c (x+hd) d k):=by
 have n0:=hb.n0;have n1:=hb.n1;have y0:=hb.y0;have y1:=hb.y1;have hr:=wlk_range hw hx;intro d
 induction d with
 |zero=>
  intro j k acc k0 hk hj hacc;obtain ⟨j,rfl⟩: ∃i,j=i+1:=⟨j - 1,by omega⟩;rw [objVals,if_neg (by omega),valsL,List.append_nil]
 | succ d ih =>
  intro j k acc k0 hk hj hacc;obtain ⟨j,rfl⟩: ∃i,j=i+1:=⟨j - 1,by omega⟩;have hmw:m.words=ws:=by rw [hm]
  have hg:memory_get.f m (x+1) k=some (rd ws (x+hd+k)):=by
   unfold memory_get.f;rw [hfi,Option.bind_some,hmw,if_pos (by omega)]
  rw [objVals,if_pos (by omega),hg,Option.bind_some,hle k k0 (by omega),Option.bind_some,if_pos (by omega),valsL]
  have step: ∀v:Vs,v=valAt cs ws W c (x+hd) k→objVals q m (x+1) cnt j (k+1) (acc++[v])=some (acc++valAt cs ws W c (x+hd) k::valsL cs ws W c (x+hd) d (k+1)):=fun v e=>by
   rw [ih j (k+1) (acc++[v]) (by omega) (by omega) (by omega) (by simp<;>omega),e];simp
  by_cases l:ldB cs c k=true
  ·rw [if_pos l]
   rcases word_lead hw m hm hok hx hco hfi hle k0 (by omega) l with z|z
   ·have : memory_number.f q m (rd ws (x + hd + k)) = some 0 := by unfold memory_number.f; rw [if_pos z]
    rw [this,Option.bind_some];exact step _ (by unfold valAt;rw [if_pos l,if_pos z])
   ·have hz := wlk_range hw z
    rw [number_eq hw m (by rw [hm]) z (by omega) q hq,Option.bind_some];exact step _ (by unfold valAt;rw [if_pos l,if_neg (by omega)])
  ·rw [if_neg l]
   exact step _ (by unfold valAt;rw [if_neg l])
theorem specVals_eq {cs:Cs} {ws:List Int} {y t o:Int} {cards:List Bool} (hb:Bnd cs ws y t o cards) {W:List Int} (hw:Wlk cs ws W) (m:Mm) (hm:m=⟨ws,y,t,o,cards,allF cs,W.map (· +1)⟩) (hok: ∀q,300≤q→thingsOk q m (W.map (· +1))=some true) {x hd cnt c:Int} (hx:x∈W) (hhd:hd=1∨hd=2) (hcn:0≤cnt) (hcn8:cnt≤8) (hsz:x+hd+cnt≤ws.length)
  (hco:thing_count.f m (x+1)=some cnt) (hfi:thing_first.f m (x+1)=some (x+hd)) (hle: ∀k,0≤k→k<cnt→thing_leads.f m (x+1) k=some (ldB cs c k)) {S:List Int} (hS:S.length=ws.length) (hSx: ∀z∈W,rd S z=(idx W z:Int)+1):
  ∀(d κ:Nat) (k:Int) (acc:List Vs),0≤k→k+d=cnt→d<κ→acc.length≤100 - d→spec_l21Obj.l0 κ S x (refsL cs c hd (hd+cnt)) (hd+k) ws y t o cards c acc=some (c,acc++valsL cs ws W c (x+hd) d k):=by
 have n0:=hb.n0;have n1:=hb.n1;have y0:=hb.y0;have y1:=hb.y1;have hr:=wlk_range hw hx;have hRl:((refsL cs c hd (hd+cnt)).length:Int)=hd+cnt:=by unfold refsL;rw [List.length_map,List.length_range];omega
 intro d
 induction d with
 |zero=>
  intro κ k acc k0 hk hj hacc;obtain ⟨κ,rfl⟩: ∃i,κ=i+1:=⟨κ - 1,by omega⟩;rw [spec_l21Obj.l0,if_neg (by omega),valsL,List.append_nil]
 | succ d ih =>
  intro κ k acc k0 hk hj hacc;obtain ⟨κ,rfl⟩: ∃i,κ=i+1:=⟨κ - 1,by omega⟩;have w1:wrap64 (x+(hd+k))=x+hd+k:=by rw [wrap64_of (by omega) (by omega)];omega
  have w2:wrap64 (hd+k+1)=hd+(k+1):=by rw [wrap64_of (by omega) (by omega)];omega
  have hrd:rdOf false (refsL cs c hd (hd+cnt)) (hd+k)=ldB cs c k:=by rw [refsL_at cs c hd (hd+cnt) (by omega) (by omega) (by omega),show hd+k - hd=k by omega]
  have step: ∀v:Vs,v=valAt cs ws W c (x+hd) k→spec_l21Obj.l0 κ S x (refsL cs c hd (hd+cnt)) (hd+(k+1)) ws y t o cards c (acc++[v])=some (c,acc++valAt cs ws W c (x+hd) k::valsL cs ws W c (x+hd) d (k+1)):=fun v e=>by
   rw [ih κ (k+1) (acc++[v]) (by omega) (by omega) (by omega) (by simp<;>omega),e];simp
  rw [spec_l21Obj.l0,if_pos (by omega),if_pos (by omega),w1,if_pos (by omega),if_pos (by omega),hrd,w2,valsL];by_cases l:ldB cs c k=true
  ·rw [if_pos l]
   rcases word_lead hw m hm hok hx hco hfi hle k0 (by omega) l with z|z
   ·rw [if_neg (by omega), if_pos (by omega)]
    exact step _ (by unfold valAt;rw [if_pos l,if_pos z,l,z])
   ·have hz := wlk_range hw z
    rw [if_pos (by omega),wrap64_of (n:=rd ws (x+hd+k) - 1) (by omega) (by omega),if_pos (by omega),if_pos (by omega),if_pos (by omega),hSx _ z];exact step _ (by unfold valAt;rw [if_pos l,if_neg (by omega),l])
  ·rw [if_neg l, if_pos (by omega)]
   exact step _ (by unfold valAt;rw [if_neg l,Bool.eq_false_iff.mpr l])
theorem MemObjs_eq {cs : Cs} (hf : fewF cs) {ws : List Int} {y t o : Int} {cards : List Bool} (hn : ws.length ≤ 1048576) (hc : cards.length ≤ 1048576) :
    ∃s:List Os,s.length≤200∧(∀x∈s,x.f1.length≤100)∧(∀k,4000000≤k→impl_MemObjs.f k cs ws y t o cards=some s)∧∀k,4000000≤k→spec_MemObjs.f k cs ws y t o cards=some s:=by
  obtain ⟨r,h1,h2,h3⟩:=open_eq2 (cs:=cs) hf (ws:=ws) (y:=y) (t:=t) (o:=o) (cards:=cards) hn hc
  cases r with
  |none=>exact ⟨[],by simp,by simp,fun k hk=>by unfold impl_MemObjs.f;rw [h1 k hk];rfl,fun k hk=>by unfold spec_MemObjs.f;rw [h2 k hk];rfl⟩
  | some m =>
    obtain ⟨W,hb,hw,hm,hk,hp,_,hok⟩:=h3 m rfl;have n0:=hb.n0;have n1:=hb.n1;have y0:=hb.y0;have y1:=hb.y1;have wl:=hw.len;obtain ⟨S,hS1,hS2,hS3⟩:=numL (W:=W) (n:=ws.length) (fun x hx=>wlk_range hw hx) hw.srt (by omega) (by omega)
    have key: ∀(d i:Nat),i+d=W.length→∃s:List Os,s.length=d∧(∀x∈s,x.f1.length≤100)∧(∀(k:Nat) (acc:List Os),4000000≤k→acc.length≤1000 - d→objsL k m ((W.drop i).map (· +1)) acc=some (acc++s))∧
        ∀(k:Nat) (acc:List Os),1000+d<k→acc.length≤1000 - d→spec_l21Objs.l0 k cs W S acc i ws y t o cards=some (acc++s):=by
      intro d
      induction d with
      | zero =>
        intro i hi;refine ⟨[],rfl,by simp,fun k acc hk2 ha=>by rw [List.drop_eq_nil_of_le (by omega)];simp [objsL],fun k acc hk2 ha=>?_⟩;obtain ⟨k,rfl⟩: ∃m,k=m+1:=⟨k - 1,by omega⟩;rw [spec_l21Objs.l0,if_neg (by omega),List.append_nil]
      | succ d ih =>
        intro i hi;have hlt:i<W.length:=by omega
        have hx:=List.getElem_mem hlt;obtain ⟨s,s1,s2,s3,s4⟩:=ih (i+1) (by omega);obtain ⟨c,hd,cnt,hcc,h0,hhd,hcn,hcn8,hsz,hco,hfi,hhe,hl21,hle,hcl⟩:=thing_facts hb hw m hm hx
        have hcls:thing_class.f m (W[i]+1)=some c:=by
          unfold thing_class.f;have e:m.words=ws:=by rw [hm]
          rw [e,if_pos (by omega),show W[i]+1 - 1=W[i] by omega,hcc]
        have hlen:=valsL_length cs ws W c (W[i]+hd) cnt.toNat 0;refine ⟨⟨c,valsL cs ws W c (W[i]+hd) cnt.toNat 0⟩::s,by simp [s1],fun z hz=>?_,fun k acc hk2 ha=>?_,fun k acc hk2 ha=>?_⟩
        · rcases List.mem_cons.mp hz with e | e
          · rw [e];show (valsL cs ws W c (W[i]+hd) cnt.toNat 0).length≤100;omega
          · exact s2 z e
        · have hv := objVals_eq hb hw m hm hok hx hhd hcn8 hsz hco hfi hle k (by omega) cnt.toNat k 0 [] (by omega) (by omega) (by omega) (by simp <;> omega)
          rw [List.drop_eq_getElem_cons hlt,List.map_cons,objsL,hcls,Option.bind_some,hco,Option.bind_some,hv,Option.bind_some,if_pos (by omega),s3 k _ hk2 (by simp<;>omega)];simp
        · obtain ⟨k, rfl⟩ : ∃ m, k = m + 1 := ⟨k - 1, by omega⟩
          have hv:=specVals_eq hb hw m hm hok hx hhd hcn hcn8 hsz hco hfi hle hS2 hS3 cnt.toNat k 0 [] (by omega) (by omega) (by omega) (by simp<;>omega)
          have ho:spec_l21Obj.f k cs ws y t o cards S W[i]=some (c,valsL cs ws W c (W[i]+hd) cnt.toNat 0):=by
            unfold spec_l21Obj.f;rw [refs_eq hb hcc h0 hhd hcn hcn8 hsz hhe hl21 hcl k (by omega),Option.bind_some,if_pos h0,if_pos (by omega),←hcc,hhe,Option.bind_some];rw [show hd+0=hd by omega] at hv;exact hv
          rw [spec_l21Objs.l0,if_pos (by omega),if_pos (by omega),rd_mem hlt,ho,Option.bind_some,if_pos (by omega),wrap_inc (n:=100000) (by omega) (by omega) (by omega)];have:=s4 k (acc++[⟨c,valsL cs ws W c (W[i]+hd) cnt.toNat 0⟩]) (by omega) (by simp<;>omega)
          rw [show ((i+1:Nat):Int)=(i:Int)+1 by omega] at this;rw [this];simp
    obtain ⟨s,s1,s2,s3,s4⟩:=key W.length 0 (by omega);refine ⟨s,by omega,s2,fun k hk2=>?_,fun k hk2=>?_⟩
    · unfold impl_MemObjs.f
      rw [h1 k hk2,Option.bind_some];show memory_objs.f k m=_
      unfold memory_objs.f;have e:m.begins=W.map (· +1):=by rw [hm]
      rw [e,if_pos (by rw [List.length_map];omega)];have:=s3 k [] hk2 (by simp<;>omega)
      simpa using this
    · unfold spec_MemObjs.f
      rw [h2 k hk2,Option.bind_some];simp only [Option.isSome_some,if_true]
      unfold spec_l21Objs.f;rw [hk k hk2,Option.bind_some,hS1 k (by omega),Option.bind_some];have:=s4 k [] (by omega) (by simp<;>omega)
      rw [show ((0:Nat):Int)=0 from rfl,List.nil_append] at this;rw [this];rfl
end Go.Proofs.Ytnlieahdakafbaa.Pure
namespace Go.Proofs.Ytnlieahdakafbaa.K
open Go.RowKit Go.Proofs.YtnlieahdakafbaaW.PrintWords Go.Proofs.YtnlieahdakafbaaW.PrintLast Go.Proofs.YtnlieahdakafbaaW.PrintMore
attribute [local go_sem] max2_int min2_int max_two min_two max_three min_three max_four min_four
set_option linter.unusedVariables false
set_option linter.unusedSimpArgs false
def sizeOf (k:Nat) (a2:Int):Option Mm→Option Int
  |none=>some 0
  |some m=>(memory_has.f k m a2).bind fun b=>if b=true then thing_size.f m a2 else some 0
def impl_MemSize.f (k:Nat) (l0:List (S112)) (l1_0:List Int) (a1_1:Int) (a1_2:Int) (a1_3:Int) (l1_4:List Bool) (a2:Int):Option (Int):=(mopen k k l0 l1_0 a1_1 a1_2 a1_3 l1_4).bind fun r=>sizeOf k a2 r
end Go.Proofs.Ytnlieahdakafbaa.K
namespace Go.Proofs.Ytnlieahdakafbaa.Pure
open Go.RowKit Go.Proofs.Ytnlieahdakafbaa.K Go.Proofs.YtnlieahdakafbaaW.PrintWords Go.Proofs.YtnlieahdakafbaaW.PrintLast Go.Proofs.YtnlieahdakafbaaW.PrintMore
set_option linter.unusedVariables false
set_option linter.unusedSimpArgs false
theorem walk_parts {cs:Cs} {ws:List Int} {y t o:Int} {cards:List Bool} (hb:Bnd cs ws y t o cards) {W:List Int} (hk: ∀k,4000000≤k→spec_l21Walk.f k cs ws y t o cards=some (W,true)):
  W=(pw ws (allF cs) t t.toNat 0).1++(pw ws (allF cs) o (o - y).toNat y).1∧(pw ws (allF cs) t t.toNat 0).2=true∧(pw ws (allF cs) o (o - y).toNat y).2=true:=by
 have n0:=hb.n0;have n1:=hb.n1;have y0:=hb.y0;have y1:=hb.y1;have t0:=hb.t0;have t1:=hb.t1;have o0:=hb.o0;have o1:=hb.o1;have l1:=pw_len ws (allF cs) t t.toNat 0;have l2:=pw_len ws (allF cs) o (o - y).toNat y;have h:=hk 4000000 (Nat.le_refl _);unfold spec_l21Walk.f spec_l21Part.f at h;rw [pw_part hb.ok (by omega) (by omega) t.toNat 0 [] 4000000 (by omega) (by omega) (by omega) (by simp;omega),Option.bind_some,pw_part hb.ok (by omega) (by omega) (o - y).toNat y [] 4000000 (by omega) (by omega) (by omega) (by simp;omega),Option.bind_some] at h;simp only [List.nil_append] at h;rw [if_pos (by omega),Option.bind_some] at h
 cases c:(pw ws (allF cs) t t.toNat 0).2 with
 |true=>
  rw [c,if_pos rfl] at h;have h2:=Option.some.inj h;exact ⟨(Prod.mk.inj h2).1.symm,rfl,(Prod.mk.inj h2).2⟩
 |false=>
  rw [c,if_neg (by simp)] at h;have h2:=Option.some.inj h;exact absurd (Prod.mk.inj h2).2 (by simp)
def hdN (c:Int):Int:=if c<0 then 2 else 1
def szN (cs:Cs) (ws:List Int) (x:Int):Int:=mstep ws (allF cs) ws.length x
def VOk (cs:Cs) (W:List Int) (c k v:Int):Prop:=if ldB cs c k=true then v=0∨v - 1∈W else -128≤v∧v≤127
def Wd (cs:Cs) (ws:List Int) (y:Int) (cards:List Bool) (W:List Int) (x i k:Int):Prop:=
  VOk cs W (rd ws x) k (rd ws i)∧(ldB cs (rd ws x) k=true→x≥y→1≤rd ws i→rd ws i≤y→rdOf false cards ((i - y)/4)=true)
structure Opn (cs:Cs) (ws:List Int) (y t o:Int) (cards:List Bool) (W:List Int):Prop where
 b:Bnd cs ws y t o cards
 z: ∀j:Nat,j<ws.length→Zr ws y t o j
 w1:(pw ws (allF cs) t t.toNat 0).2=true
 w2:(pw ws (allF cs) o (o - y).toNat y).2=true
 w:W=(pw ws (allF cs) t t.toNat 0).1++(pw ws (allF cs) o (o - y).toNat y).1
 d: ∀x∈W,∀k,0≤k→k<szN cs ws x - hdN (rd ws x)→Wd cs ws y cards W x (x+hdN (rd ws x)+k) k
def mmOf (cs:Cs) (ws:List Int) (y t o:Int) (cards:List Bool) (W:List Int):Mm:=⟨ws,y,t,o,cards,allF cs,W.map (· +1)⟩
theorem parts_zero {cs:Cs} {ws:List Int} {y t o:Int} {cards:List Bool} (hb:Bnd cs ws y t o cards):impl_partsOk.f ws y t o cards=some true↔∀j:Nat,j<ws.length→Zr ws y t o j:=by
 have n0:=hb.n0;have n1:=hb.n1;have y0:=hb.y0;have y1:=hb.y1;have t0:=hb.t0;have t1:=hb.t1;have o0:=hb.o0;have o1:=hb.o1;have cd:=hb.cd;have w:wrap64 ((ws.length:Int) - y)=(ws.length:Int) - y:=wrap64_of (by omega) (by omega)
 have w4:cardsN (wrap64 ((ws.length:Int) - y))=((ws.length:Int) - y+3)/4:=by
  rw [w];unfold cardsN;rw [wrap64_of (n:=(ws.length:Int) - y+4) (by omega) (by omega),wrap64_of (n:=(ws.length:Int) - y+4 - 1) (by omega) (by omega),Int.tdiv_eq_ediv_of_nonneg (by omega),show (ws.length:Int) - y+4 - 1=(ws.length:Int) - y+3 by omega,wrap64_of (by omega) (by omega)]
 have e0:pOk ws y t o cards 0=true:=decide_eq_true ⟨y0,y1⟩
 have e1:pOk ws y t o cards 1=true:=decide_eq_true (by rw [w];exact ⟨n0,n1⟩)
 have e2:pOk ws y t o cards 2=true:=decide_eq_true ⟨t0,t1⟩
 have e3:pOk ws y t o cards 3=true:=decide_eq_true ⟨o0,o1⟩
 have e4:pOk ws y t o cards 4=true:=beq_iff_eq.mpr (by rw [w4];exact cd)
 have h5:pOk ws y t o cards 5=true↔∀j:Nat,t≤j→(j:Int)≤y - 1→ws.getD j 0=0:=by
  show ((ws.take y.toNat).drop t.toNat).all (· ==0)=true↔_
  rw [all_drop_iff]
  constructor
  ·intro h j h1 h2
   have:=h j (by omega) (by rw [List.length_take];omega)
   rw [List.getD_eq_getElem?_getD,List.getElem?_take,if_pos (by omega)] at this;rw [List.getD_eq_getElem?_getD];exact this
  ·intro h j h1 h2
   rw [List.length_take] at h2;rw [List.getD_eq_getElem?_getD,List.getElem?_take,if_pos (by omega)];have:=h j (by omega) (by omega)
   rw [List.getD_eq_getElem?_getD] at this;exact this
 have h6:pOk ws y t o cards 6=true↔∀j:Nat,o≤j→j<ws.length→ws.getD j 0=0:=by
  show ((ws.drop y.toNat).drop (o - y).toNat).all (· ==0)=true↔_
  rw [List.drop_drop,all_drop_iff]
  constructor
  ·intro h j h1 h2;exact h j (by omega) h2
  ·intro h j h1 h2;exact h j (by omega) h2
 unfold impl_partsOk.f;rw [if_pos (by omega),e0,e1,e2,e3,e4];simp only [Bool.true_and,Option.some.injEq,Bool.and_eq_true]
 rw [h5,h6]
 constructor
 ·rintro ⟨q1, q2⟩ j hj z
  rcases z with z|z
  ·exact q1 j z.1 z.2
  ·exact q2 j z hj
 ·intro q
  exact ⟨fun j h1 h2=>q j (by omega) (Or.inl ⟨h1,h2⟩),fun j h1 h2=>q j h2 (Or.inr h1)⟩
theorem thing_know {cs:Cs} {ws:List Int} {y t o:Int} {cards:List Bool} (hb:Bnd cs ws y t o cards) {W:List Int} (hw:Wlk cs ws W) {x:Int} (hx:x∈W):
  0≤x∧x<ws.length∧0≤szN cs ws x - hdN (rd ws x)∧szN cs ws x - hdN (rd ws x)≤8∧x+szN cs ws x≤ws.length∧(hdN (rd ws x)=1∨hdN (rd ws x)=2)∧(rd ws x<0→hdN (rd ws x)=2)∧
   thing_count.f (mmOf cs ws y t o cards W) (x+1)=some (szN cs ws x - hdN (rd ws x))∧thing_first.f (mmOf cs ws y t o cards W) (x+1)=some (x+hdN (rd ws x))∧
   (∀k,0≤k→k<szN cs ws x - hdN (rd ws x)→thing_leads.f (mmOf cs ws y t o cards W) (x+1) k=some (ldB cs (rd ws x) k))∧∀k,20≤k→spec_l21Size.f k cs ws x ws.length=some (szN cs ws x):=by
 have n0:=hb.n0;have n1:=hb.n1;have y0:=hb.y0;have y1:=hb.y1;obtain ⟨cc,hd,cnt,hcc,h0,hhd,hcn,hcn8,hsz,hco,hfi,hhe,hl21,hle,hcl⟩:=thing_facts (t:=t) (o:=o) (cards:=cards) hb hw _ rfl hx;have hxr:=wlk_range hw hx;have h20:=hl21 20 (Nat.le_refl _);rw [l21Size_eq hb.ok (by omega) h0 (Int.le_refl _) 20 (by omega),if_pos hxr.2] at h20;have h20:=Option.some.inj h20
 have hh:hdN (rd ws x)=hd:=by
  unfold spec_l21Head.f at hhe;unfold hdN;rw [←hcc];by_cases c:cc<0
  ·rw [if_pos c] at hhe ⊢;exact Option.some.inj hhe
  ·rw [if_neg c] at hhe ⊢;exact Option.some.inj hhe
 have hs:szN cs ws x - hdN (rd ws x)=cnt:=by unfold szN;rw [hh,h20];omega
 have hs2:szN cs ws x=hd+cnt:=by unfold szN;exact h20
 rw [hs,hh];refine ⟨h0,hxr.2,hcn,hcn8,by omega,hhd,fun hn=>?_,hco,hfi,fun k k0 k1=>by rw [←hcc];exact hle k k0 k1,fun k hk=>by rw [hs2];exact hl21 k hk⟩;rw [←hh];unfold hdN;rw [if_pos hn]
theorem word_iff {cs:Cs} {ws:List Int} {y t o:Int} {cards:List Bool} (hb:Bnd cs ws y t o cards) {W:List Int} (hw:Wlk cs ws W) {x:Int} (hx:x∈W) {k:Int} (k0:0≤k) (k1:k<szN cs ws x - hdN (rd ws x)) (q:Nat) (hq:300≤q):
  wordAt q (mmOf cs ws y t o cards W) (x+1) k=some true↔Wd cs ws y cards W x (x+hdN (rd ws x)+k) k:=by
 have n0:=hb.n0;have n1:=hb.n1;have y0:=hb.y0;have y1:=hb.y1;have cd:=hb.cd;obtain ⟨h0,h1,h2,h3,h4,h5,_,hco,hfi,hle,_⟩:=thing_know (t:=t) (o:=o) (cards:=cards) hb hw hx;obtain ⟨i,hi⟩: ∃i,i=x+hdN (rd ws x)+k:=⟨_,rfl⟩;obtain ⟨v,hv⟩: ∃v,v=rd ws i:=⟨_,rfl⟩;rw [←hi];have hi0:x<i∧i<ws.length:=by omega
 have hA:wordAt q (mmOf cs ws y t o cards W) (x+1) k=if ldB cs (rd ws x) k=true then (if v=0 then some true else (memory_has.f q (mmOf cs ws y t o cards W) v).bind fun h=>if h=true then cardOk (mmOf cs ws y t o cards W) (x+1) v i else some false) else impl_isWord.f v:=by
  unfold wordAt;rw [hfi,Option.bind_some,show (mmOf cs ws y t o cards W).words=ws from rfl,←hi,if_pos (by omega),hle k k0 k1,Option.bind_some,←hv]
 rw [hA];unfold Wd VOk;rw [←hv];by_cases l:ldB cs (rd ws x) k=true
 case neg=>
  rw [if_neg l,if_neg l]
  have hw8:impl_isWord.f v=some (decide (-128≤v∧v≤127)):=by
   unfold impl_isWord.f;by_cases q:v≥ -128
   ·rw [if_pos q];simp [show -128≤v from q]
   ·rw [if_neg q];simp [show¬ -128≤v from q]
  rw [hw8,Option.some.injEq,decide_eq_true_iff];exact ⟨fun h=>⟨h,fun e=>absurd e l⟩,fun h=>h.1⟩
 case pos=>
 rw [if_pos l,if_pos l];by_cases v0:v=0
 ·rw [if_pos v0]
  exact ⟨fun _=>⟨.inl v0,fun _ _ e=>by omega⟩,fun _=>rfl⟩
 rw [if_neg v0,has_eq hw _ rfl v q hq,Option.bind_some];by_cases vw:v - 1∈W
 case neg=>
  rw [decide_eq_false vw];exact ⟨fun h=>by simp at h,fun h=>absurd (h.1.resolve_left v0) vw⟩
 case pos=>
 have hvr:=wlk_range hw vw;rw [decide_eq_true vw,if_pos rfl]
 have hC:cardOk (mmOf cs ws y t o cards W) (x+1) v i=if x≥y then (if 1≤v∧v≤y then some (rdOf false cards ((i - y)/4)) else some true) else some true:=by
  unfold cardOk;show (if x+1>y then (if v>y then some true else (if 0≤wrap64 (Int.tdiv (wrap64 (i - y)) 4)∧wrap64 (Int.tdiv (wrap64 (i - y)) 4)<(cards.length:Int) then some (rdOf false cards (wrap64 (Int.tdiv (wrap64 (i - y)) 4))) else none)) else some true)=_
  by_cases z1:x≥y
  ·rw [if_pos (show x + 1 > y by omega), if_pos z1]
   by_cases z2:v>y
   ·rw [if_pos z2,if_neg (by omega)]
   ·rw [if_neg z2,if_pos (show 1≤v∧v≤y by omega),wrap64_of (n:=i - y) (by omega) (by omega),Int.tdiv_eq_ediv_of_nonneg (by omega),wrap64_of (n:=(i - y)/4) (by omega) (by omega),if_pos (by omega)]
  ·rw [if_neg (show¬x+1>y by omega),if_neg z1]
 rw [hC];by_cases z1:x≥y
 ·rw [if_pos z1]
  by_cases z2:1≤v∧v≤y
  ·rw [if_pos z2, Option.some.injEq]
   exact ⟨fun h=>⟨.inr vw,fun _ _ _ _=>h⟩,fun h=>h.2 l z1 z2.1 z2.2⟩
  ·rw [if_neg z2]
   exact ⟨fun _=>⟨.inr vw,fun _ _ a b=>absurd ⟨a,b⟩ z2⟩,fun _=>rfl⟩
 ·rw [if_neg z1]
  exact ⟨fun _=>⟨.inr vw,fun _ a=>absurd a z1⟩,fun _=>rfl⟩
theorem wordsl_iff (q:Nat) (m:Mm) (a n:Int): ∀(d:Nat) (k:Int) (j:Nat),0≤k→k+d=n→d+1≤j→(wordsOk.l q m a n j k=some true↔∀i,k≤i→i<n→wordAt q m a i=some true):=by
 intro d
 induction d with
 |zero=>
  intro k j h0 hd hj;obtain ⟨j,rfl⟩: ∃i,j=i+1:=⟨j - 1,by omega⟩;rw [wordsOk.l,if_neg (by omega)];exact ⟨fun _ i h1 h2=>by omega,fun _=>rfl⟩
 | succ d ih =>
  intro k j h0 hd hj;obtain ⟨j,rfl⟩: ∃i,j=i+1:=⟨j - 1,by omega⟩;rw [wordsOk.l,if_pos (by omega)];have ih:=ih (k+1) j (by omega) (by omega) (by omega)
  constructor
  ·intro h i h1 h2
   obtain ⟨b,hb,h⟩:=Option.bind_eq_some_iff.mp h
   cases b with
   |false=>simp at h
   |true=>
    rw [if_pos rfl] at h;rcases Int.lt_or_eq_of_le h1 with z|z
    ·exact ih.mp h i (by omega) h2
    ·rw [←z];exact hb
  ·intro h
   rw [h k (by omega) (by omega),Option.bind_some,if_pos rfl];exact ih.mpr (fun i h1 h2=>h i (by omega) h2)
theorem things_iff (q:Nat) (m:Mm): ∀L:List Int,thingsOk q m L=some true↔∀a∈L,wordsOk.f q m a=some true
 |[]=>by simp [thingsOk]
 | a :: r => by
  have ih:=things_iff q m r;rw [thingsOk]
  constructor
  ·intro h z hz
   obtain ⟨b,hb,h⟩:=Option.bind_eq_some_iff.mp h
   cases b with
   |false=>simp at h
   |true=>
    rw [if_pos rfl] at h;rcases List.mem_cons.mp hz with rfl|hz
    ·exact hb
    ·exact ih.mp h z hz
  ·intro h
   rw [h a (List.mem_cons_self ..),Option.bind_some,if_pos rfl];exact ih.mpr (fun z hz=>h z (List.mem_cons_of_mem _ hz))
theorem allw_iff {cs:Cs} {ws:List Int} {y t o:Int} {cards:List Bool} (hb:Bnd cs ws y t o cards) {W:List Int} (hw:Wlk cs ws W) (q:Nat) (hq:300≤q):
  thingsOk q (mmOf cs ws y t o cards W) (W.map (· +1))=some true↔∀x∈W,∀k,0≤k→k<szN cs ws x - hdN (rd ws x)→Wd cs ws y cards W x (x+hdN (rd ws x)+k) k:=by
 rw [things_iff]
 have one: ∀x∈W,wordsOk.f q (mmOf cs ws y t o cards W) (x+1)=some true↔∀k,0≤k→k<szN cs ws x - hdN (rd ws x)→Wd cs ws y cards W x (x+hdN (rd ws x)+k) k:=fun x hx=>by
  obtain ⟨h0,h1,h2,h3,h4,h5,_,hco,hfi,hle,_⟩:=thing_know (t:=t) (o:=o) (cards:=cards) hb hw hx;unfold wordsOk.f;rw [hco,Option.bind_some,if_pos (by omega),wordsl_iff q _ (x+1) _ (szN cs ws x - hdN (rd ws x)).toNat 0 _ (by omega) (by omega) (by omega)];exact ⟨fun h k k0 k1=>(word_iff hb hw hx k0 k1 q hq).mp (h k k0 k1),fun h k k0 k1=>(word_iff hb hw hx k0 k1 q hq).mpr (h k k0 k1)⟩
 constructor
 ·intro h x hx
  exact (one x hx).mp (h (x+1) (List.mem_map.mpr ⟨x,hx,rfl⟩))
 ·intro h a ha
  obtain ⟨x,hx,rfl⟩:=List.mem_map.mp ha;exact (one x hx).mpr (h x hx)
theorem Opn.wlk {cs:Cs} {ws:List Int} {y t o:Int} {cards:List Bool} {W:List Int} (h:Opn cs ws y t o cards W):Wlk cs ws W:=by
 have n0:=h.b.n0;have n1:=h.b.n1;have y0:=h.b.y0;have y1:=h.b.y1;have t0:=h.b.t0;have t1:=h.b.t1;have o0:=h.b.o0;have o1:=h.b.o1;have l1:=pw_len ws (allF cs) t t.toNat 0;have l2:=pw_len ws (allF cs) o (o - y).toNat y;have m1:=pw_mem ws (allF cs) t t.toNat 0;have m2:=pw_mem ws (allF cs) o (o - y).toNat y;have s1:=pw_sorted ws (allF cs) t t.toNat 0;have s2:=pw_sorted ws (allF cs) o (o - y).toNat y;rw [h.w];refine ⟨fun x hx=>?_,?_,by rw [List.length_append];omega⟩
 ·rcases List.mem_append.mp hx with z | z
  ·have:=m1 x z;exact ⟨t,by omega,by omega,by omega,by omega,by omega⟩
  ·have:=m2 x z;exact ⟨o,by omega,by omega,by omega,by omega,by omega⟩
 ·rw [List.pairwise_append]
  exact ⟨s1,s2,fun a ha b hb'=>by have:=m1 a ha;have:=m2 b hb';omega⟩
theorem Opn.to {cs:Cs} {ws:List Int} {y t o:Int} {cards:List Bool} {W:List Int} (h:Opn cs ws y t o cards W): ∀k,4000000≤k→mopen k k cs ws y t o cards=some (some (mmOf cs ws y t o cards W)):=by
 intro k hk;have n0:=h.b.n0;have n1:=h.b.n1;have y0:=h.b.y0;have y1:=h.b.y1;have t0:=h.b.t0;have t1:=h.b.t1;have o0:=h.b.o0;have o1:=h.b.o1;have cd:=h.b.cd;have l1:=pw_len ws (allF cs) t t.toNat 0;have l2:=pw_len ws (allF cs) o (o - y).toNat y;have hp:impl_partsOk.f ws y t o cards=some true:=(parts_zero h.b).mpr h.z
 have ht:=(allw_iff h.b h.wlk k (by omega)).mpr h.d;unfold mopen
 rw [impl_ClassesOk_eq cs k (by omega),h.b.ok,Option.bind_some,if_pos rfl,hp,Option.bind_some,if_pos rfl,allFields_eq h.b.ok k (by omega),Option.bind_some,if_pos ⟨allF_all h.b.ok,by omega,by omega⟩,
  pw_mwalk ws (allF cs) t t.toNat 0 [] k (by omega) (by omega),Option.bind_some,if_pos h.w1,if_pos (by simp;omega),pw_mwalk ws (allF cs) o (o - y).toNat y _ k (by omega) (by omega),Option.bind_some,if_pos h.w2,if_pos (by simp;omega)]
 simp only [List.nil_append,←List.map_append]
 rw [←h.w];unfold mmOf at ht ⊢;rw [ht];rfl
theorem opn_of {cs:Cs} (hf:fewF cs) {ws:List Int} {y t o:Int} {cards:List Bool} (hn:ws.length≤1048576) (hc:cards.length≤1048576):
  ∃r:Option Mm,(∀k,4000000≤k→mopen k k cs ws y t o cards=some r)∧(∀k,4000000≤k→spec_MemOk.f k cs ws y t o cards=some r.isSome)∧∀m,r=some m→∃W,Opn cs ws y t o cards W∧m=mmOf cs ws y t o cards W∧(∀k,4000000≤k→spec_l21Walk.f k cs ws y t o cards=some (W,true)):=by
 obtain ⟨r,h1,h2,h3⟩:=open_eq2 (cs:=cs) hf (ws:=ws) (y:=y) (t:=t) (o:=o) (cards:=cards) hn hc;refine ⟨r,h1,h2,fun m hm=>?_⟩;obtain ⟨W,hb,hw,hm2,hk,hp,hW,ht⟩:=h3 m hm;obtain ⟨e,p1,p2⟩:=walk_parts hb hk;refine ⟨W,⟨hb,?_,p1,p2,e,?_⟩,hm2,hk⟩
 ·refine (parts_zero hb).mp ?_
  obtain ⟨p,hp1,_,_⟩:=bounds_eq (cs:=cs) (y:=y) (t:=t) (o:=o) hf hb.ok hn hc
  cases p with
  |true=>exact hp1
  |false=>
   have q:=h1 4000000 (Nat.le_refl _);unfold mopen at q;rw [impl_ClassesOk_eq cs 4000000 (by omega),hb.ok,Option.bind_some,if_pos rfl,hp1,Option.bind_some,if_neg (by simp)] at q;rw [hm] at q;simp at q
 ·have := ht 300 (Nat.le_refl _)
  rw [hm2] at this;exact (allw_iff hb hw 300 (Nat.le_refl _)).mp this
end Go.Proofs.Ytnlieahdakafbaa.Pure
namespace Go.Proofs.Ytnlieahdakafbaa.K
open Go.RowKit Go.Proofs.YtnlieahdakafbaaW.PrintWords Go.Proofs.YtnlieahdakafbaaW.PrintLast Go.Proofs.YtnlieahdakafbaaW.PrintMore
attribute [local go_sem] max2_int min2_int max_two min_two max_three min_three max_four min_four
set_option linter.unusedVariables false
set_option linter.unusedSimpArgs false
def Mm.setW (m:Mm) (x v:Int):Mm:={m with words:=m.words.set x.toNat v}
def Mm.setC (m:Mm) (c:Int):Mm:={m with cards:=m.cards.set c.toNat true}
def memory_put.f (q : Nat) (m : Mm) (at_ k v : Int) : Option (Bool × Mm) := (thing_first.f m at_).bind fun a => (thing_leads.f m at_ k).bind fun d =>
  if 0 ≤ a + k ∧ a + k < m.words.length ∧ m.words.length ≤ 1048576 ∧ m.cards.length ≤ 1048576 ∧ 0 ≤ m.young ∧ m.young ≤ 1048576 then
    (if d = true then
      (if v = 0 then some (true, m.setW (a + k) v)
       else (memory_has.f q m v).bind fun h => if h = true then
         (if at_ > m.young then (if v > m.young then some (true, m.setW (a + k) v)
           else (if 0≤Int.tdiv (a+k - m.young) 4∧Int.tdiv (a+k - m.young) 4<m.cards.length then
             some (true,(m.setC (Int.tdiv (a+k - m.young) 4)).setW (a+k) v) else none))
          else some (true,m.setW (a+k) v))
        else some (false,m))
     else (impl_isWord.f v).bind fun z=>if z=true then some (true,m.setW (a+k) v) else some (false,m)) else none
def putOf (k:Nat) (a2 a3 a4:Int):Option Mm→Option (List Int×Int×Int×Int×List Bool×Bool)
  |none=>some ([],0,0,0,[],false)
  |some m=>(memory_hasIn.f k m a2 a3).bind fun b=>if b=true then (memory_put.f k m a2 a3 a4).bind fun p=>if p.1=true then some (p.2.words,p.2.young,p.2.top,p.2.old,p.2.cards,true) else some ([],0,0,0,[],false) else some ([],0,0,0,[],false)
def impl_MemPut.f (k:Nat) (l0:List (S112)) (l1_0:List Int) (a1_1:Int) (a1_2:Int) (a1_3:Int) (l1_4:List Bool) (a2 a3 a4:Int):Option (List Int×Int×Int×Int×List Bool×Bool):=(mopen k k l0 l1_0 a1_1 a1_2 a1_3 l1_4).bind fun r=>putOf k a2 a3 a4 r
def impl_MemOk.f (k:Nat) (l0:List (S112)) (l1_0:List Int) (a1_1:Int) (a1_2:Int) (a1_3:Int) (l1_4:List Bool):Option (Bool):=(mopen k k l0 l1_0 a1_1 a1_2 a1_3 l1_4).bind fun r=>some r.isSome
def spec_MemWalk.l0:Nat→List Int→List Int→Int→Option (List Int)
  |0,_,_,_=>none
  |k+1,x5,x6,x8=>if x8<(x6.length:Int) then (if 0≤x8 then (if x5.length<17592186044416 then (spec_MemWalk.l0 k (x5++[wrap64 ((rd x6 x8)+1)]) x6 (wrap64 (x8+1))) else (none)) else (none)) else (some x5)
def spec_MemWalk.f (k:Nat) (l0:List (S112)) (l1_0:List Int) (a1_1:Int) (a1_2:Int) (a1_3:Int) (l1_4:List Bool):Option (List Int):=(some (([]:List Int):List Int)).bind fun y304=>((spec_MemOk.f k l0 l1_0 a1_1 a1_2 a1_3 l1_4).bind fun t307=>(if t307=true then ((spec_l21Walk.f k l0 l1_0 a1_1 a1_2 a1_3 l1_4).bind fun bt308=>(spec_MemWalk.l0 k y304 bt308.1 0)) else (some y304)))
end Go.Proofs.Ytnlieahdakafbaa.K
namespace Go.Proofs.Ytnlieahdakafbaa.Pure
open Go.RowKit Go.Proofs.Ytnlieahdakafbaa.K Go.Proofs.YtnlieahdakafbaaW.PrintWords Go.Proofs.YtnlieahdakafbaaW.PrintLast Go.Proofs.YtnlieahdakafbaaW.PrintMore
set_option linter.unusedVariables false
set_option linter.unusedSimpArgs false
section
variable {cs:Cs} {ws:List Int} {y t o:Int} {cards:List Bool} {W:List Int}
theorem Opn.know (h:Opn cs ws y t o cards W) {x:Int} (hx:x∈W):0≤x∧x<ws.length∧0≤szN cs ws x - hdN (rd ws x)∧szN cs ws x - hdN (rd ws x)≤8∧x+szN cs ws x≤ws.length∧(hdN (rd ws x)=1∨hdN (rd ws x)=2)∧(rd ws x<0→hdN (rd ws x)=2):=by
  obtain ⟨a,b,c,d,e,f,g,_⟩:=thing_know h.b h.wlk hx;exact ⟨a,b,c,d,e,f,g⟩
def InT (cs:Cs) (ws:List Int) (W:List Int) (a k:Int):Prop:=a - 1∈W∧0≤k∧k<szN cs ws (a - 1) - hdN (rd ws (a - 1))
theorem hasin_eq (h:Opn cs ws y t o cards W) (a k:Int) (f:Nat) (hf:300≤f):(InT cs ws W a k→memory_hasIn.f f (mmOf cs ws y t o cards W) a k=some true)∧(¬InT cs ws W a k→memory_hasIn.f f (mmOf cs ws y t o cards W) a k=some false):=by
 have hh:=has_eq h.wlk (mmOf cs ws y t o cards W) rfl a f hf;unfold memory_hasIn.f;rw [hh,Option.bind_some];by_cases c:a - 1∈W
 case neg=>rw [decide_eq_false c];exact ⟨fun q=>absurd q.1 c,fun _=>rfl⟩
 obtain ⟨_,_,_,_,_,_,_,hco,_⟩:=thing_know (t:=t) (o:=o) (cards:=cards) h.b h.wlk c;rw [show a - 1+1=a by omega] at hco;rw [decide_eq_true c,if_pos rfl];by_cases z0:0≤k
 ·rw [if_pos z0, hco, Option.bind_some]
  exact ⟨fun q=>by rw [decide_eq_true q.2.2],fun q=>by rw [decide_eq_false (fun e=>q ⟨c,z0,e⟩)]⟩
 ·rw [if_neg z0]
  exact ⟨fun q=>absurd q.2.1 z0,fun _=>rfl⟩
theorem get_in (h:Opn cs ws y t o cards W) {a k:Int} (hi:InT cs ws W a k) (f:Nat) (hf:4000000≤f):impl_MemGet.f f cs ws y t o cards a k=some (rd ws (a - 1+hdN (rd ws (a - 1))+k),true):=by
 obtain ⟨x0,x1,c0,c8,xe,hh,hn2,hco,hfi,_⟩:=thing_know (t:=t) (o:=o) (cards:=cards) h.b h.wlk hi.1;rw [show a - 1+1=a by omega] at hfi;have:=hi.2
 unfold impl_MemGet.f;rw [h.to f hf,Option.bind_some];unfold getOf memory_get.f
 dsimp only
 rw [(hasin_eq h a k f (by omega)).1 hi,Option.bind_some,if_pos rfl,hfi,Option.bind_some,show (mmOf cs ws y t o cards W).words=ws from rfl,if_pos (by omega)];rfl
theorem get_out (h:Opn cs ws y t o cards W) {a k:Int} (hi: ¬InT cs ws W a k) (f:Nat) (hf:4000000≤f):impl_MemGet.f f cs ws y t o cards a k=some (0,false):=by
 unfold impl_MemGet.f;rw [h.to f hf,Option.bind_some];unfold getOf
 dsimp only
 rw [(hasin_eq h a k f (by omega)).2 hi];rfl
theorem walk_imp (h:Opn cs ws y t o cards W) (f:Nat) (hf:4000000≤f):impl_MemWalk.f f cs ws y t o cards=some (W.map (· +1)):=by
  unfold impl_MemWalk.f;rw [h.to f hf,Option.bind_some];rfl
end
end Go.Proofs.Ytnlieahdakafbaa.Pure
