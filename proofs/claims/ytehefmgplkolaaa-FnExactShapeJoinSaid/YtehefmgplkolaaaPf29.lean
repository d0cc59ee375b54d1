import Derived.Test.YtehefmgplkolaaaPf24
import Derived.Test.YtehefmgplkolaaaPf28
namespace Go.Proofs.Ytehefmgplkolaaa.K
open Go.RowKit Go.Proofs.YtehefmgplkolaaaW.PrintWords Go.Proofs.YtehefmgplkolaaaW.PrintLast Go.Proofs.YtehefmgplkolaaaW.PrintMore
attribute [local go_sem] max2_int min2_int max_two min_two max_three min_three max_four min_four
set_option linter.unusedVariables false
set_option linter.unusedSimpArgs false
def spec_TypeOk.f (k:Nat) (l0:List (S48)) (a1:Int):Option (Bool):=(spec_ClassesOk.f k l0).bind fun t117=>(if t117=true then (if a1=0 then (some true) else (if a1=2 then (some true) else ((spec_l2Field.f l0 a1).bind fun t118=>(some t118)))) else (some false))
set_option maxHeartbeats 8000000 in
set_option maxRecDepth 100000 in
theorem spec_TypeOk.calls (k:Nat) (A0:Option Addr) (c0:Nat) (l0:List (S48)) (a1:Int) (r:Bool) (w:World) (hr0:Kd.C k48 w A0 l0.length l0) (hc0:l0.length≤c0) (h:spec_TypeOk.f k l0 a1=some r):
  Calls Try.prog 47 #[.slice A0 l0.length c0,.int .i64 a1] w fun e w'=>e= .returned (.bool r)∧Below w.heap.size w w':=by
 have HR0:=aK hr0;have HC0:=aK hc0;clear hr0 hc0;have HB:=aK (Below.refl w.heap.size w);have H:((spec_ClassesOk.f k l0).bind fun t117=>(if t117=true then (if a1=0 then (some true) else (if a1=2 then (some true) else ((spec_l2Field.f l0 a1).bind fun t118=>(some t118)))) else (some false)))=some r:=h
 clear h;replace H:=Option.bind_eq_some_iff.mp H;obtain ⟨t117,A30,H⟩:=H;(try dsimp only at H);have A3:=aK A30;clear A30;by_cases c4:t117=true
 ·subst c4
  rw [if_pos rfl] at H;by_cases c5:a1=0
  ·rw [if_pos c5] at H
   have c5b0:(a1==0)=true:=beq_iff_eq.mpr c5
   have c5b1:(a1 !=0)=false:=bne_eq_false_iff_eq.mpr c5
   clear c5;obtain rfl:=Option.some.inj H;go_enter Try.func47,Try.ntmps47
   go_wp2_with (first|((with_reducible refine gate_callee (f:=46) rfl ?_);refine goesL_ (some 6) rfl rfl Try.func46 (by kernel_rfl) rfl #[.slice A0 l0.length c0] rfl zz2 ?_;(with_reducible refine (spec_ClassesOk.calls k _ _ l0 true _ ?side1 ?side2 A3.out).mono ?_);(case side1=>exact zz22);(case side2=>exact HC0.out);rintro e w6 ⟨rfl,hb⟩;refine ⟨_,rfl,?_⟩;replace HB:=aK (below_step zz1 hb);(try clear hb);(try clear hb2);(try clear hk);(try clear hi)))
   go_ret;exact ⟨zz4,zz1⟩
  ·rw [if_neg c5] at H
   have c5b0:(a1==0)=false:=beq_eq_false_iff_ne.mpr c5
   have c5b1:(a1 !=0)=true:=bne_iff_ne.mpr c5
   by_cases c7:a1=2
   ·rw [if_pos c7] at H
    have c7b0:(a1==2)=true:=beq_iff_eq.mpr c7
    have c7b1:(a1 !=2)=false:=bne_eq_false_iff_eq.mpr c7
    clear c7;obtain rfl:=Option.some.inj H;go_enter Try.func47,Try.ntmps47
    go_wp2_with (first|((with_reducible refine gate_callee (f:=46) rfl ?_);refine goesL_ (some 6) rfl rfl Try.func46 (by kernel_rfl) rfl #[.slice A0 l0.length c0] rfl zz2 ?_;(with_reducible refine (spec_ClassesOk.calls k _ _ l0 true _ ?side1 ?side2 A3.out).mono ?_);(case side1=>exact zz22);(case side2=>exact HC0.out);rintro e w8 ⟨rfl,hb⟩;refine ⟨_,rfl,?_⟩;replace HB:=aK (below_step zz1 hb);(try clear hb);(try clear hb2);(try clear hk);(try clear hi)))
    go_ret;exact ⟨zz4,zz1⟩
   ·rw [if_neg c7] at H
    have c7b0:(a1==2)=false:=beq_eq_false_iff_ne.mpr c7
    have c7b1:(a1 !=2)=true:=bne_iff_ne.mpr c7
    replace H:=Option.bind_eq_some_iff.mp H;obtain ⟨t118,A90,H⟩:=H;(try dsimp only at H);have A9:=aK A90;clear A90;obtain rfl:=Option.some.inj H;go_enter Try.func47,Try.ntmps47
    go_wp2_with (first|((with_reducible refine gate_callee (f:=46) rfl ?_);refine goesL_ (some 6) rfl rfl Try.func46 (by kernel_rfl) rfl #[.slice A0 l0.length c0] rfl zz2 ?_;(with_reducible refine (spec_ClassesOk.calls k _ _ l0 true _ ?side1 ?side2 A3.out).mono ?_);(case side1=>exact zz22);(case side2=>exact HC0.out);rintro e w10 ⟨rfl,hb⟩;refine ⟨_,rfl,?_⟩;replace HB:=aK (below_step zz1 hb);(try clear hb);(try clear hb2);(try clear hk);(try clear hi))|(go_at_call 61;(with_reducible refine (spec_l2Field.calls _ _ l0 a1 t118 _ ?side1 ?side2 A9.out).mono ?_);(case side1=>exact zz5);(case side2=>exact HC0.out);rintro e w' ⟨rfl,⟨nd,rfl⟩⟩))
    go_ret;exact ⟨zz4,zz1⟩
 ·replace c4 := Bool.eq_false_iff.mpr c4
  subst c4;rw [if_neg (show¬(false=true) by decide)] at H;obtain rfl:=Option.some.inj H;go_enter Try.func47,Try.ntmps47
  go_wp2_with (first|((with_reducible refine gate_callee (f:=46) rfl ?_);refine goesL_ (some 6) rfl rfl Try.func46 (by kernel_rfl) rfl #[.slice A0 l0.length c0] rfl zz2 ?_;(with_reducible refine (spec_ClassesOk.calls k _ _ l0 false _ ?side1 ?side2 A3.out).mono ?_);(case side1=>exact zz22);(case side2=>exact HC0.out);rintro e w11 ⟨rfl,hb⟩;refine ⟨_,rfl,?_⟩;replace HB:=aK (below_step zz1 hb);(try clear hb);(try clear hb2);(try clear hk);(try clear hi)))
  go_ret;exact ⟨zz4,zz1⟩
mutual
def spec_ShapeOk.j0:Nat→List (S48)→Bool→Bool→List Int→List Int→Option (Bool)
 |0,_,_,_,_,_=>none
 |k+1,x0,x35,x120000,x120001,x120002=>if x35=true then (some false) else (spec_ShapeOk.l0 k x0 0 x120000 x120001 x120002)
def spec_ShapeOk.l0:Nat→List (S48)→Int→Bool→List Int→List Int→Option (Bool)
 |0,_,_,_,_,_=>none
 |k+1,x0,x7,x120000,x120001,x120002=>if x7<(x120001.length:Int) then (if 0≤x7 then ((spec_TypeOk.f k x0 (rd x120001 x7)).bind fun t122=>(if t122=true then (spec_ShapeOk.l0 k x0 (wrap64 (x7+1)) x120000 x120001 x120002) else (some false))) else (none)) else (spec_ShapeOk.l1 k x0 0 x120000 x120001 x120002)
def spec_ShapeOk.l1:Nat→List (S48)→Int→Bool→List Int→List Int→Option (Bool)
 |0,_,_,_,_,_=>none
 |k+1,x0,x8,x120000,x120001,x120002=>if x8<(x120002.length:Int) then (if 0≤x8 then ((spec_TypeOk.f k x0 (rd x120002 x8)).bind fun t124=>(if t124=true then (if (rd x120002 x8)=0 then (some false) else (spec_ShapeOk.l1 k x0 (wrap64 (x8+1)) x120000 x120001 x120002)) else (some false))) else (none)) else (some true)
end
def spec_ShapeOk.f (k:Nat) (l0:List (S48)) (a1:Int) (a2_0:Bool) (l2_1:List Int) (l2_2:List Int):Option (Bool):=(spec_ClassesOk.f k l0).bind fun t120=>(if t120=true then (if a2_0=true then (if (l2_1.length:Int)=a1 then (spec_ShapeOk.j0 k l0 (decide ((l2_2.length:Int)>4)) a2_0 l2_1 l2_2) else (spec_ShapeOk.j0 k l0 true a2_0 l2_1 l2_2)) else (if (l2_1.length:Int)=0 then (some ((l2_2.length:Int)==0)) else (some false))) else (some false))
set_option maxHeartbeats 8000000 in
set_option maxRecDepth 100000 in
theorem spec_ShapeOk.calls (k : Nat) (A0 : Option Addr) (c0 : Nat) (l0 : List (S48)) (a1 : Int) (a2_0 : Bool) (A2_1 : Option Addr) (c2_1 : Nat) (l2_1 : List Int) (A2_2 : Option Addr) (c2_2 : Nat) (l2_2 : List Int) (r : Bool) (w : World) (hr0 : Kd.C k48 w A0 l0.length l0) (hc0 : l0.length ≤ c0) (hr2_1 : Kd.C (Kd.int .i64) w A2_1 l2_1.length l2_1) (hc2_1 : l2_1.length ≤ c2_1) (hr2_2 : Kd.C (Kd.int .i64) w A2_2 l2_2.length l2_2) (hc2_2 : l2_2.length ≤ c2_2) (h : spec_ShapeOk.f k l0 a1 a2_0 l2_1 l2_2 = some r) :
  Calls Try.prog 36 #[.slice A0 l0.length c0,.int .i64 a1,.agg #[.bool a2_0,.slice A2_1 l2_1.length c2_1,.slice A2_2 l2_2.length c2_2]] w fun e w'=>e= .returned (.bool r)∧Below w.heap.size w w':=by
 have hu28:=Try.underlying28;have HR0:=aK hr0;have HC0:=aK hc0;clear hr0 hc0;have HR2_1:=aK hr2_1;have HC2_1:=aK hc2_1;clear hr2_1 hc2_1;have HR2_2:=aK hr2_2;have HC2_2:=aK hc2_2;clear hr2_2 hc2_2;have HB:=aK (Below.refl w.heap.size w);have H:((spec_ClassesOk.f k l0).bind fun t120=>(if t120=true then (if a2_0=true then (if (l2_1.length:Int)=a1 then (spec_ShapeOk.j0 k l0 (decide ((l2_2.length:Int)>4)) a2_0 l2_1 l2_2) else (spec_ShapeOk.j0 k l0 true a2_0 l2_1 l2_2)) else (if (l2_1.length:Int)=0 then (some ((l2_2.length:Int)==0)) else (some false))) else (some false)))=some r:=h
 clear h;replace H:=Option.bind_eq_some_iff.mp H;obtain ⟨t120,A40,H⟩:=H;(try dsimp only at H);have A4:=aK A40;clear A40;by_cases c5:t120=true
 ·subst c5
  rw [if_pos rfl] at H;by_cases c6:a2_0=true
  ·subst c6
   rw [if_pos rfl] at H;have HC7:=aK H;clear H;go_enter Try.func36,Try.ntmps36
   go_upto_region 5 with (first|((with_reducible refine gate_dst (N:=5) rfl ?_);(try (refine gate_guard (by rfl) ?_;dsimp only));refine box_event ?hg (N:=5) ?hd (cs:= #[.bool true,.slice A2_1 l2_1.length c2_1,.slice A2_2 l2_2.length c2_2]) (t:=28) ?hr ?_;(case hd=>rfl);(case hg=>rfl);(case hr=>first|(go_simp;done)|(go_simp;rfl));intro gb119 hg w8 hbox hb;have BK119:=aK (hbox);have GW119:=aK ((by rw [hg];exact (below_size zz1):w.heap.size≤gb119));have GE119:=aK ((by rw [hg];exact (below_size zz1):w.heap.size≤gb119));replace HB:=aK (below_step zz1 hb);clear hb hbox hg)|((with_reducible refine gate_callee (f:=46) rfl ?_);refine goesL_ (some 10) rfl rfl Try.func46 (by kernel_rfl) rfl #[.slice A0 l0.length c0] rfl zz2 ?_;(with_reducible refine (spec_ClassesOk.calls k _ _ l0 true _ ?side1 ?side2 A4.out).mono ?_);(case side1=>exact zz5);(case side2=>exact HC0.out);rintro e w9 ⟨rfl,hb⟩;refine ⟨_,rfl,?_⟩;replace BK119:=aK (blk_below (g:=gb119) (o:= .cells #[.bool true,.slice A2_1 l2_1.length c2_1,.slice A2_2 l2_2.length c2_2] 28 (0,0)) zz54 hb);replace HB:=aK (below_step zz13 hb);(try clear hb);(try clear hb2);(try clear hk);(try clear hi);obtain ⟨hcz10_0,hcz10_1,hcz10_2,hfz10_0,hfz10_1,hfz10_2⟩:=cbf3 BK119))
   (try simp only [Act.put,List.setIfInBounds_toArray,List.set_cons_zero,List.set_cons_succ])
   go_cut [35] (fun v35 wc=> ∃(kq:Nat) (x35_6:Bool),v35= .bool x35_6∧Aside0 (spec_ShapeOk.j0 kq l0 x35_6 true l2_1 l2_2=some r)∧Aside0 (kq≤k)∧Aside0 (wc.heap[gb119]? =some (.cells #[.bool true,(.slice A2_1 l2_1.length c2_1),(.slice A2_2 l2_2.length c2_2)] 28 (0,0)))∧Aside0 (Below w.heap.size w wc))
   case first=>
    have H:=HC7.out;clear HC7;by_cases c11:(l2_1.length:Int)=a1
    ·rw [if_pos c11] at H
     have c11b0:((l2_1.length:Int)==a1)=true:=beq_iff_eq.mpr c11
     have c11b1:((l2_1.length:Int) !=a1)=false:=bne_eq_false_iff_eq.mpr c11
     clear c11
     (first|rw [c11b0]|(simp only [i64_w,i32_w];rw [c11b0])|skip)
     have H':=aK H;clear H;obtain ⟨hcz12_0,hcz12_1,hcz12_2,hfz12_0,hfz12_1,hfz12_2⟩:=cbf3 BK119;go_wp2;go_meet
     case rel=>exact ⟨_,(decide ((l2_2.length:Int)>4)),zz9,H',⟨by first|omega|exact Nat.le_refl _⟩,⟨by (with_reducible repeat (first|refine blk_drewN ?_ _|refine blk_drew ?_|refine blk_alloc ?_ _));exact BK119.out⟩,⟨by repeat (first|(with_reducible first|exact HB.out|apply below_alloc|apply pw_below_drewN|apply below_drew1|refine below_set ?_ GE119.out)|exact HB.out)⟩⟩
    ·rw [if_neg c11] at H
     have c11b0:((l2_1.length:Int)==a1)=false:=beq_eq_false_iff_ne.mpr c11
     have c11b1:((l2_1.length:Int) !=a1)=true:=bne_iff_ne.mpr c11
     (first|rw [c11b0]|(simp only [i64_w,i32_w];rw [c11b0])|skip)
     have H':=aK H;clear H;obtain ⟨hcz13_0,hcz13_1,hcz13_2,hfz13_0,hfz13_1,hfz13_2⟩:=cbf3 BK119;go_wp2;go_meet
     case rel=>exact ⟨_,(true),zz9,H',⟨by first|omega|exact Nat.le_refl _⟩,⟨by (with_reducible repeat (first|refine blk_drewN ?_ _|refine blk_drew ?_|refine blk_alloc ?_ _));exact BK119.out⟩,⟨by repeat (first|(with_reducible first|exact HB.out|apply below_alloc|apply pw_below_drewN|apply below_drew1|refine below_set ?_ GE119.out)|exact HB.out)⟩⟩
   case rest =>
    clear HC7;(try clear c1);(try clear c2);(try clear p2);(try clear c3);(try clear c4);(try clear c5);(try clear c6);(try clear c11);(try clear c11b0);(try clear c11b1);(try clear hcz10_0);(try clear hcz10_1);(try clear hcz10_2);(try clear hcz12_0);(try clear hcz12_1);(try clear hcz12_2);(try clear hcz13_0);(try clear hcz13_1);(try clear hcz13_2);(try clear hfz10_0);(try clear hfz10_1);(try clear hfz10_2);(try clear hfz12_0);(try clear hfz12_1);(try clear hfz12_2);(try clear hfz13_0);(try clear hfz13_1);(try clear hfz13_2);obtain ⟨kq,x35_6,rfl,HA,HJ6,BK119,HB⟩:=hcut
    cases kq with
    |zero=>exact absurd HA.out (by simp [spec_ShapeOk.j0])
    | succ kj6 =>
     have H:=HA.out;clear HA;simp only [spec_ShapeOk.j0] at H;by_cases c14:x35_6=true
     ·subst c14
      rw [if_pos rfl] at H;obtain rfl:=Option.some.inj H;go_wp2;go_ret;exact ⟨zz4,zz13⟩
     ·replace c14 := Bool.eq_false_iff.mpr c14
      subst c14;rw [if_neg (show¬(false=true) by decide)] at H;have H':=aK H;clear H;go_wp2
      go_loopg [7] kj6 (fun kq v7 w'=> ∃(x7_2:Int),v7= .int .i64 x7_2∧Aside0 (spec_ShapeOk.l0 kq l0 x7_2 true l2_1 l2_2=some r)∧Aside0 (kq≤kj6)∧Aside0 (w'.heap[gb119]? =some (.cells #[.bool true,(.slice A2_1 l2_1.length c2_1),(.slice A2_2 l2_2.length c2_2)] 28 (0,0)))∧Aside0 (Below w.heap.size w w'))
      case atStart=>exact ⟨(0),zz9,H',⟨Nat.le_refl _⟩,⟨by (with_reducible repeat (first|refine blk_drewN ?_ _|refine blk_drew ?_|refine blk_alloc ?_ _));exact BK119.out⟩,⟨by repeat (first|(with_reducible first|exact HB.out|apply below_alloc|apply pw_below_drewN|apply below_drew1|refine below_set ?_ GE119.out)|exact HB.out)⟩⟩
      case round =>
       clear H';(try clear c1);(try clear c2);(try clear p2);(try clear c3);(try clear c4);(try clear c5);(try clear c6);(try clear c11);(try clear c11b0);(try clear c11b1);(try clear c14);(try clear hcz10_0);(try clear hcz10_1);(try clear hcz10_2);(try clear hcz12_0);(try clear hcz12_1);(try clear hcz12_2);(try clear hcz13_0);(try clear hcz13_1);(try clear hcz13_2);(try clear hfz10_0);(try clear hfz10_1);(try clear hfz10_2);(try clear hfz12_0);(try clear hfz12_1);(try clear hfz12_2);(try clear hfz13_0);(try clear hfz13_1);(try clear hfz13_2);(try clear p2);obtain ⟨x7_2,rfl,HA,HK2,BK119,HB⟩:=hrel
       cases gk with
       |zero=>exact absurd HA.out (by simp [spec_ShapeOk.l0])
       | succ k2 =>
        have H:=HA.out;clear HA;simp only [spec_ShapeOk.l0] at H;by_cases c15:x7_2<(l2_1.length:Int)
        ·rw [if_pos c15] at H
         have c15b0:decide (x7_2<(l2_1.length:Int))=true:=decide_eq_true c15
         clear c15;by_cases c16:0≤x7_2
         ·rw [if_pos c16] at H
          have c16b0:decide (0≤x7_2)=true:=decide_eq_true c16
          clear c16;replace H:=Option.bind_eq_some_iff.mp H;obtain ⟨t122,A170,H⟩:=H;(try dsimp only at H);have A17:=aK A170;clear A170;by_cases c18:t122=true
          ·subst c18
           rw [if_pos rfl] at H;have H':=aK H;clear H;obtain ⟨hcz19_0,hcz19_1,hcz19_2,hfz19_0,hfz19_1,hfz19_2⟩:=cbf3 BK119;have p121:0≤(x7_2:Int):=of_decide_eq_true zz6
           have q121:x7_2<(l2_1.length:Int):=of_decide_eq_true zz6
           obtain ⟨ad121,e121,hx121_0⟩:=Kd.at_int HR2_1.out x7_2 p121 q121
           cases e121
           replace hx121_0:=(HB.out.cell (World.block_lt_of_cell? w _ hx121_0)).trans hx121_0;replace p121:=eq_true p121;replace q121:=eq_true q121
           go_wp2_with (first|((with_reducible refine gate_callee (f:=47) rfl ?_);refine goesL_ (some 49) rfl rfl Try.func47 (by kernel_rfl) rfl #[.slice A0 l0.length c0,.int .i64 (rd l2_1 x7_2)] rfl zz2 ?_;(with_reducible refine (spec_TypeOk.calls k2 _ _ l0 (rd l2_1 x7_2) true _ ?side1 ?side2 A17.out).mono ?_);(case side1=>exact zz5);(case side2=>exact HC0.out);rintro e w20 ⟨rfl,hb⟩;refine ⟨_,rfl,?_⟩;replace BK119:=aK (blk_below (g:=gb119) (o:= .cells #[.bool true,.slice (some ad121) l2_1.length c2_1,.slice A2_2 l2_2.length c2_2] 28 (0,0)) zz54 hb);replace HB:=aK (below_step zz13 hb);(try clear hb);(try clear hb2);(try clear hk);(try clear hi)))
           go_roundg k2
           case measure=>have:=HJ6.out;have:=HK2.out;omega
           case rel=>exact ⟨(wrap64 (x7_2+1)),zz9,H',⟨by have:=HJ6.out;have:=HK2.out;omega⟩,⟨by (with_reducible repeat (first|refine blk_drewN ?_ _|refine blk_drew ?_|refine blk_alloc ?_ _));exact BK119.out⟩,⟨by repeat (first|(with_reducible first|exact HB.out|apply below_alloc|apply pw_below_drewN|apply below_drew1|refine below_set ?_ GE119.out)|exact HB.out)⟩⟩
          ·replace c18 := Bool.eq_false_iff.mpr c18
           subst c18;rw [if_neg (show¬(false=true) by decide)] at H;obtain rfl:=Option.some.inj H;obtain ⟨hcz21_0,hcz21_1,hcz21_2,hfz21_0,hfz21_1,hfz21_2⟩:=cbf3 BK119;have p121:0≤(x7_2:Int):=of_decide_eq_true zz6
           have q121:x7_2<(l2_1.length:Int):=of_decide_eq_true zz6
           obtain ⟨ad121,e121,hx121_0⟩:=Kd.at_int HR2_1.out x7_2 p121 q121
           cases e121
           replace hx121_0:=(HB.out.cell (World.block_lt_of_cell? w _ hx121_0)).trans hx121_0;replace p121:=eq_true p121;replace q121:=eq_true q121
           go_wp2_with (first|((with_reducible refine gate_callee (f:=47) rfl ?_);refine goesL_ (some 49) rfl rfl Try.func47 (by kernel_rfl) rfl #[.slice A0 l0.length c0,.int .i64 (rd l2_1 x7_2)] rfl zz2 ?_;(with_reducible refine (spec_TypeOk.calls k2 _ _ l0 (rd l2_1 x7_2) false _ ?side1 ?side2 A17.out).mono ?_);(case side1=>exact zz5);(case side2=>exact HC0.out);rintro e w22 ⟨rfl,hb⟩;refine ⟨_,rfl,?_⟩;replace BK119:=aK (blk_below (g:=gb119) (o:= .cells #[.bool true,.slice (some ad121) l2_1.length c2_1,.slice A2_2 l2_2.length c2_2] 28 (0,0)) zz54 hb);replace HB:=aK (below_step zz13 hb);(try clear hb);(try clear hb2);(try clear hk);(try clear hi)))
           go_ret;exact ⟨zz4,zz13⟩
         ·rw [if_neg c16] at H
          exact absurd H (by simp)
        ·rw [if_neg c15] at H
         have c15b0:decide (x7_2<(l2_1.length:Int))=false:=decide_eq_false c15
         clear c15;have H':=aK H;clear H;obtain ⟨hcz23_0,hcz23_1,hcz23_2,hfz23_0,hfz23_1,hfz23_2⟩:=cbf3 BK119;go_wp2
         go_loopg [8] k2 (fun kq v8 w'=> ∃(x8_3:Int),v8= .int .i64 x8_3∧Aside0 (spec_ShapeOk.l1 kq l0 x8_3 true l2_1 l2_2=some r)∧Aside0 (kq≤k2)∧Aside0 (w'.heap[gb119]? =some (.cells #[.bool true,(.slice A2_1 l2_1.length c2_1),(.slice A2_2 l2_2.length c2_2)] 28 (0,0)))∧Aside0 (Below w.heap.size w w'))
         case atStart=>exact ⟨(0),zz9,H',⟨Nat.le_refl _⟩,⟨by (with_reducible repeat (first|refine blk_drewN ?_ _|refine blk_drew ?_|refine blk_alloc ?_ _));exact BK119.out⟩,⟨by repeat (first|(with_reducible first|exact HB.out|apply below_alloc|apply pw_below_drewN|apply below_drew1|refine below_set ?_ GE119.out)|exact HB.out)⟩⟩
         case round =>
          clear H';(try clear c1);(try clear p1);(try clear q1);(try clear hx1);(try clear c2);(try clear p2);(try clear c3);(try clear c4);(try clear c5);(try clear c6);(try clear p6);(try clear c11);(try clear c11b0);(try clear c11b1);(try clear p12);(try clear q12);(try clear hx12);(try clear c14);(try clear c15);(try clear c15b0);(try clear c16);(try clear c16b0);(try clear c18);(try clear hcz10_0);(try clear hcz10_1);(try clear hcz10_2);(try clear hcz12_0);(try clear hcz12_1);(try clear hcz12_2);(try clear hcz13_0);(try clear hcz13_1);(try clear hcz13_2);(try clear hcz19_0);(try clear hcz19_1);(try clear hcz19_2);(try clear hcz21_0);(try clear hcz21_1);(try clear hcz21_2);(try clear hcz23_0);(try clear hcz23_1);(try clear hcz23_2);(try clear hfz10_0);(try clear hfz10_1);(try clear hfz10_2);(try clear hfz12_0);(try clear hfz12_1);(try clear hfz12_2);(try clear hfz13_0);(try clear hfz13_1);(try clear hfz13_2);(try clear hfz19_0);(try clear hfz19_1);(try clear hfz19_2);(try clear hfz21_0);(try clear hfz21_1);(try clear hfz21_2);(try clear hfz23_0);(try clear hfz23_1);(try clear hfz23_2);(try clear hx121_0);(try clear p121);(try clear p2);(try clear q121);obtain ⟨x8_3,rfl,HA,HK3,BK119,HB⟩:=hrel
          cases gk with
          |zero=>exact absurd HA.out (by simp [spec_ShapeOk.l1])
          | succ k3 =>
           have H:=HA.out;clear HA;simp only [spec_ShapeOk.l1] at H;by_cases c24:x8_3<(l2_2.length:Int)
           ·rw [if_pos c24] at H
            have c24b0:decide (x8_3<(l2_2.length:Int))=true:=decide_eq_true c24
            clear c24;by_cases c25:0≤x8_3
            ·rw [if_pos c25] at H
             have c25b0:decide (0≤x8_3)=true:=decide_eq_true c25
             clear c25;replace H:=Option.bind_eq_some_iff.mp H;obtain ⟨t124,A260,H⟩:=H;(try dsimp only at H);have A26:=aK A260;clear A260;by_cases c27:t124=true
             ·subst c27
              rw [if_pos rfl] at H;by_cases c28:(rd l2_2 x8_3)=0
              ·rw [if_pos c28] at H
               have c28b0:((rd l2_2 x8_3)==0)=true:=beq_iff_eq.mpr c28
               have c28b1:((rd l2_2 x8_3) !=0)=false:=bne_eq_false_iff_eq.mpr c28
               clear c28;obtain rfl:=Option.some.inj H;obtain ⟨hcz29_0,hcz29_1,hcz29_2,hfz29_0,hfz29_1,hfz29_2⟩:=cbf3 BK119;have p123:0≤(x8_3:Int):=of_decide_eq_true zz6
               have q123:x8_3<(l2_2.length:Int):=of_decide_eq_true zz6
               obtain ⟨ad123,e123,hx123_0⟩:=Kd.at_int HR2_2.out x8_3 p123 q123
               cases e123
               replace hx123_0:=(HB.out.cell (World.block_lt_of_cell? w _ hx123_0)).trans hx123_0;replace p123:=eq_true p123;replace q123:=eq_true q123
               go_wp2_with (first|((with_reducible refine gate_callee (f:=47) rfl ?_);refine goesL_ (some 64) rfl rfl Try.func47 (by kernel_rfl) rfl #[.slice A0 l0.length c0,.int .i64 (rd l2_2 x8_3)] rfl zz2 ?_;(with_reducible refine (spec_TypeOk.calls k3 _ _ l0 (rd l2_2 x8_3) true _ ?side1 ?side2 A26.out).mono ?_);(case side1=>exact zz5);(case side2=>exact HC0.out);rintro e w30 ⟨rfl,hb⟩;refine ⟨_,rfl,?_⟩;replace BK119:=aK (blk_below (g:=gb119) (o:= .cells #[.bool true,.slice A2_1 l2_1.length c2_1,.slice (some ad123) l2_2.length c2_2] 28 (0,0)) zz54 hb);replace HB:=aK (below_step zz13 hb);(try clear hb);(try clear hb2);(try clear hk);(try clear hi);obtain ⟨hcz31_0,hcz31_1,hcz31_2,hfz31_0,hfz31_1,hfz31_2⟩:=cbf3 BK119;have p125:0≤(x8_3:Int):=of_decide_eq_true zz6;have q125:x8_3<(l2_2.length:Int):=of_decide_eq_true zz6;obtain ⟨ad125,e125,hx125_0⟩:=Kd.at_int HR2_2.out x8_3 p125 q125;obtain rfl:ad123=ad125:=(by injection e125);replace hx125_0:=(HB.out.cell (World.block_lt_of_cell? w _ hx125_0)).trans hx125_0;replace p125:=eq_true p125;replace q125:=eq_true q125))
               go_ret;exact ⟨zz4,zz13⟩
              ·rw [if_neg c28] at H
               have c28b0:((rd l2_2 x8_3)==0)=false:=beq_eq_false_iff_ne.mpr c28
               have c28b1:((rd l2_2 x8_3) !=0)=true:=bne_iff_ne.mpr c28
               have H':=aK H;clear H;obtain ⟨hcz32_0,hcz32_1,hcz32_2,hfz32_0,hfz32_1,hfz32_2⟩:=cbf3 BK119;have p123:0≤(x8_3:Int):=of_decide_eq_true zz6
               have q123:x8_3<(l2_2.length:Int):=of_decide_eq_true zz6
               obtain ⟨ad123,e123,hx123_0⟩:=Kd.at_int HR2_2.out x8_3 p123 q123
               cases e123
               replace hx123_0:=(HB.out.cell (World.block_lt_of_cell? w _ hx123_0)).trans hx123_0;replace p123:=eq_true p123;replace q123:=eq_true q123
               go_wp2_with (first|((with_reducible refine gate_callee (f:=47) rfl ?_);refine goesL_ (some 64) rfl rfl Try.func47 (by kernel_rfl) rfl #[.slice A0 l0.length c0,.int .i64 (rd l2_2 x8_3)] rfl zz2 ?_;(with_reducible refine (spec_TypeOk.calls k3 _ _ l0 (rd l2_2 x8_3) true _ ?side1 ?side2 A26.out).mono ?_);(case side1=>exact zz5);(case side2=>exact HC0.out);rintro e w33 ⟨rfl,hb⟩;refine ⟨_,rfl,?_⟩;replace BK119:=aK (blk_below (g:=gb119) (o:= .cells #[.bool true,.slice A2_1 l2_1.length c2_1,.slice (some ad123) l2_2.length c2_2] 28 (0,0)) zz54 hb);replace HB:=aK (below_step zz13 hb);(try clear hb);(try clear hb2);(try clear hk);(try clear hi);obtain ⟨hcz34_0,hcz34_1,hcz34_2,hfz34_0,hfz34_1,hfz34_2⟩:=cbf3 BK119;have p125:0≤(x8_3:Int):=of_decide_eq_true zz6;have q125:x8_3<(l2_2.length:Int):=of_decide_eq_true zz6;obtain ⟨ad125,e125,hx125_0⟩:=Kd.at_int HR2_2.out x8_3 p125 q125;obtain rfl:ad123=ad125:=(by injection e125);replace hx125_0:=(HB.out.cell (World.block_lt_of_cell? w _ hx125_0)).trans hx125_0;replace p125:=eq_true p125;replace q125:=eq_true q125))
               go_roundg k3
               case measure=>have:=HJ6.out;have:=HK2.out;have:=HK3.out;omega
               case rel=>exact ⟨(wrap64 (x8_3+1)),zz9,H',⟨by have:=HJ6.out;have:=HK2.out;have:=HK3.out;omega⟩,⟨by (with_reducible repeat (first|refine blk_drewN ?_ _|refine blk_drew ?_|refine blk_alloc ?_ _));exact BK119.out⟩,⟨by repeat (first|(with_reducible first|exact HB.out|apply below_alloc|apply pw_below_drewN|apply below_drew1|refine below_set ?_ GE119.out)|exact HB.out)⟩⟩
             ·replace c27 := Bool.eq_false_iff.mpr c27
              subst c27;rw [if_neg (show¬(false=true) by decide)] at H;obtain rfl:=Option.some.inj H;obtain ⟨hcz35_0,hcz35_1,hcz35_2,hfz35_0,hfz35_1,hfz35_2⟩:=cbf3 BK119;have p123:0≤(x8_3:Int):=of_decide_eq_true zz6
              have q123:x8_3<(l2_2.length:Int):=of_decide_eq_true zz6
              obtain ⟨ad123,e123,hx123_0⟩:=Kd.at_int HR2_2.out x8_3 p123 q123
              cases e123
              replace hx123_0:=(HB.out.cell (World.block_lt_of_cell? w _ hx123_0)).trans hx123_0;replace p123:=eq_true p123;replace q123:=eq_true q123
              go_wp2_with (first|((with_reducible refine gate_callee (f:=47) rfl ?_);refine goesL_ (some 64) rfl rfl Try.func47 (by kernel_rfl) rfl #[.slice A0 l0.length c0,.int .i64 (rd l2_2 x8_3)] rfl zz2 ?_;(with_reducible refine (spec_TypeOk.calls k3 _ _ l0 (rd l2_2 x8_3) false _ ?side1 ?side2 A26.out).mono ?_);(case side1=>exact zz5);(case side2=>exact HC0.out);rintro e w36 ⟨rfl,hb⟩;refine ⟨_,rfl,?_⟩;replace BK119:=aK (blk_below (g:=gb119) (o:= .cells #[.bool true,.slice A2_1 l2_1.length c2_1,.slice (some ad123) l2_2.length c2_2] 28 (0,0)) zz54 hb);replace HB:=aK (below_step zz13 hb);(try clear hb);(try clear hb2);(try clear hk);(try clear hi)))
              go_ret;exact ⟨zz4,zz13⟩
            ·rw [if_neg c25] at H
             exact absurd H (by simp)
           ·rw [if_neg c24] at H
            have c24b0:decide (x8_3<(l2_2.length:Int))=false:=decide_eq_false c24
            clear c24;obtain rfl:=Option.some.inj H;obtain ⟨hcz37_0,hcz37_1,hcz37_2,hfz37_0,hfz37_1,hfz37_2⟩:=cbf3 BK119;go_wp2;go_ret;exact ⟨zz4,zz13⟩
  ·replace c6 := Bool.eq_false_iff.mpr c6
   subst c6;rw [if_neg (show¬(false=true) by decide)] at H;by_cases c38:(l2_1.length:Int)=0
   ·rw [if_pos c38] at H
    have c38b0:((l2_1.length:Int)==0)=true:=beq_iff_eq.mpr c38
    have c38b1:((l2_1.length:Int) !=0)=false:=bne_eq_false_iff_eq.mpr c38
    clear c38;obtain rfl:=Option.some.inj H;go_enter Try.func36,Try.ntmps36
    go_wp2_with (first|((with_reducible refine gate_dst (N:=5) rfl ?_);(try (refine gate_guard (by rfl) ?_;dsimp only));refine box_event ?hg (N:=5) ?hd (cs:= #[.bool false,.slice A2_1 l2_1.length c2_1,.slice A2_2 l2_2.length c2_2]) (t:=28) ?hr ?_;(case hd=>rfl);(case hg=>rfl);(case hr=>first|(go_simp;done)|(go_simp;rfl));intro gb119 hg w39 hbox hb;have BK119:=aK (hbox);have GW119:=aK ((by rw [hg];exact (below_size zz1):w.heap.size≤gb119));have GE119:=aK ((by rw [hg];exact (below_size zz1):w.heap.size≤gb119));replace HB:=aK (below_step zz1 hb);clear hb hbox hg)|((with_reducible refine gate_callee (f:=46) rfl ?_);refine goesL_ (some 10) rfl rfl Try.func46 (by kernel_rfl) rfl #[.slice A0 l0.length c0] rfl zz2 ?_;(with_reducible refine (spec_ClassesOk.calls k _ _ l0 true _ ?side1 ?side2 A4.out).mono ?_);(case side1=>exact zz5);(case side2=>exact HC0.out);rintro e w40 ⟨rfl,hb⟩;refine ⟨_,rfl,?_⟩;replace BK119:=aK (blk_below (g:=gb119) (o:= .cells #[.bool false,.slice A2_1 l2_1.length c2_1,.slice A2_2 l2_2.length c2_2] 28 (0,0)) zz54 hb);replace HB:=aK (below_step zz13 hb);(try clear hb);(try clear hb2);(try clear hk);(try clear hi);obtain ⟨hcz41_0,hcz41_1,hcz41_2,hfz41_0,hfz41_1,hfz41_2⟩:=cbf3 BK119))
    go_ret;exact ⟨zz4,zz13⟩
   ·rw [if_neg c38] at H
    have c38b0:((l2_1.length:Int)==0)=false:=beq_eq_false_iff_ne.mpr c38
    have c38b1:((l2_1.length:Int) !=0)=true:=bne_iff_ne.mpr c38
    have c38b2: ¬(l2_1=[]):=fun h_=>c38 (by rw [h_];rfl)
    obtain rfl:=Option.some.inj H;go_enter Try.func36,Try.ntmps36
    go_wp2_with (first|((with_reducible refine gate_dst (N:=5) rfl ?_);(try (refine gate_guard (by rfl) ?_;dsimp only));refine box_event ?hg (N:=5) ?hd (cs:= #[.bool false,.slice A2_1 l2_1.length c2_1,.slice A2_2 l2_2.length c2_2]) (t:=28) ?hr ?_;(case hd=>rfl);(case hg=>rfl);(case hr=>first|(go_simp;done)|(go_simp;rfl));intro gb119 hg w42 hbox hb;have BK119:=aK (hbox);have GW119:=aK ((by rw [hg];exact (below_size zz1):w.heap.size≤gb119));have GE119:=aK ((by rw [hg];exact (below_size zz1):w.heap.size≤gb119));replace HB:=aK (below_step zz1 hb);clear hb hbox hg)|((with_reducible refine gate_callee (f:=46) rfl ?_);refine goesL_ (some 10) rfl rfl Try.func46 (by kernel_rfl) rfl #[.slice A0 l0.length c0] rfl zz2 ?_;(with_reducible refine (spec_ClassesOk.calls k _ _ l0 true _ ?side1 ?side2 A4.out).mono ?_);(case side1=>exact zz5);(case side2=>exact HC0.out);rintro e w43 ⟨rfl,hb⟩;refine ⟨_,rfl,?_⟩;replace BK119:=aK (blk_below (g:=gb119) (o:= .cells #[.bool false,.slice A2_1 l2_1.length c2_1,.slice A2_2 l2_2.length c2_2] 28 (0,0)) zz54 hb);replace HB:=aK (below_step zz13 hb);(try clear hb);(try clear hb2);(try clear hk);(try clear hi);obtain ⟨hcz44_0,hcz44_1,hcz44_2,hfz44_0,hfz44_1,hfz44_2⟩:=cbf3 BK119))
    go_ret;exact ⟨zz4,zz13⟩
 ·replace c5 := Bool.eq_false_iff.mpr c5
  subst c5;rw [if_neg (show¬(false=true) by decide)] at H;obtain rfl:=Option.some.inj H;go_enter Try.func36,Try.ntmps36
  go_wp2_with (first|((with_reducible refine gate_dst (N:=5) rfl ?_);(try (refine gate_guard (by rfl) ?_;dsimp only));refine box_event ?hg (N:=5) ?hd (cs:= #[.bool a2_0,.slice A2_1 l2_1.length c2_1,.slice A2_2 l2_2.length c2_2]) (t:=28) ?hr ?_;(case hd=>rfl);(case hg=>rfl);(case hr=>first|(go_simp;done)|(go_simp;rfl));intro gb119 hg w45 hbox hb;have BK119:=aK (hbox);have GW119:=aK ((by rw [hg];exact (below_size zz1):w.heap.size≤gb119));have GE119:=aK ((by rw [hg];exact (below_size zz1):w.heap.size≤gb119));replace HB:=aK (below_step zz1 hb);clear hb hbox hg)|((with_reducible refine gate_callee (f:=46) rfl ?_);refine goesL_ (some 10) rfl rfl Try.func46 (by kernel_rfl) rfl #[.slice A0 l0.length c0] rfl zz2 ?_;(with_reducible refine (spec_ClassesOk.calls k _ _ l0 false _ ?side1 ?side2 A4.out).mono ?_);(case side1=>exact zz5);(case side2=>exact HC0.out);rintro e w46 ⟨rfl,hb⟩;refine ⟨_,rfl,?_⟩;replace BK119:=aK (blk_below (g:=gb119) (o:= .cells #[.bool a2_0,.slice A2_1 l2_1.length c2_1,.slice A2_2 l2_2.length c2_2] 28 (0,0)) zz54 hb);replace HB:=aK (below_step zz13 hb);(try clear hb);(try clear hb2);(try clear hk);(try clear hi)))
  go_ret;exact ⟨zz4,zz13⟩
end Go.Proofs.Ytehefmgplkolaaa.K
namespace Go.Proofs.Ytehefmgplkolaaa.K
open Go.RowKit Go.Proofs.YtehefmgplkolaaaW.PrintWords Go.Proofs.YtehefmgplkolaaaW.PrintLast Go.Proofs.YtehefmgplkolaaaW.PrintMore
attribute [local go_sem] max2_int min2_int max_two min_two max_three min_three max_four min_four
set_option linter.unusedVariables false
set_option linter.unusedSimpArgs false
def spec_l11Fits.f (k:Nat) (l0:List (S48)) (a1_0:Bool) (l1_1:List Int) (l1_2:List Int) (a2_0:Bool) (l2_1:List Int) (l2_2:List Int):Option (Bool):=if a1_0=true then (if a2_0=true then ((spec_ShapeOk.f k l0 (l1_1.length:Int) a1_0 l1_1 l1_2).bind fun t128=>(if t128=true then ((spec_ShapeOk.f k l0 (l1_1.length:Int) a2_0 l2_1 l2_2).bind fun t129=>(if t129=true then (some ((l1_2.length:Int)==(l2_2.length:Int))) else (some false))) else (some false))) else (some false)) else (some false)
set_option maxHeartbeats 8000000 in
set_option maxRecDepth 100000 in
theorem spec_l11Fits.calls (k:Nat) (A0:Option Addr) (c0:Nat) (l0:List (S48)) (a1_0:Bool) (A1_1:Option Addr) (c1_1:Nat) (l1_1:List Int) (A1_2:Option Addr) (c1_2:Nat) (l1_2:List Int) (a2_0:Bool) (A2_1:Option Addr) (c2_1:Nat) (l2_1:List Int) (A2_2:Option Addr) (c2_2:Nat) (l2_2:List Int) (r:Bool) (w:World) (hr0:Kd.C k48 w A0 l0.length l0) (hc0:l0.length≤c0) (hr1_1:Kd.C (Kd.int .i64) w A1_1 l1_1.length l1_1) (hc1_1:l1_1.length≤c1_1) (hr1_2:Kd.C (Kd.int .i64) w A1_2 l1_2.length l1_2) (hc1_2:l1_2.length≤c1_2) (hr2_1:Kd.C (Kd.int .i64) w A2_1 l2_1.length l2_1) (hc2_1:l2_1.length≤c2_1) (hr2_2:Kd.C (Kd.int .i64) w A2_2 l2_2.length l2_2) (hc2_2:l2_2.length≤c2_2) (h:spec_l11Fits.f k l0 a1_0 l1_1 l1_2 a2_0 l2_1 l2_2=some r):
  Calls Try.prog 21 #[.slice A0 l0.length c0,.agg #[.bool a1_0,.slice A1_1 l1_1.length c1_1,.slice A1_2 l1_2.length c1_2],.agg #[.bool a2_0,.slice A2_1 l2_1.length c2_1,.slice A2_2 l2_2.length c2_2]] w fun e w'=>e= .returned (.bool r)∧Below w.heap.size w w':=by
 have hu28:=Try.underlying28;have HR0:=aK hr0;have HC0:=aK hc0;clear hr0 hc0;have HR1_1:=aK hr1_1;have HC1_1:=aK hc1_1;clear hr1_1 hc1_1;have HR1_2:=aK hr1_2;have HC1_2:=aK hc1_2;clear hr1_2 hc1_2;have HR2_1:=aK hr2_1;have HC2_1:=aK hc2_1;clear hr2_1 hc2_1;have HR2_2:=aK hr2_2;have HC2_2:=aK hc2_2;clear hr2_2 hc2_2;have HB:=aK (Below.refl w.heap.size w);have H:(if a1_0=true then (if a2_0=true then ((spec_ShapeOk.f k l0 (l1_1.length:Int) a1_0 l1_1 l1_2).bind fun t128=>(if t128=true then ((spec_ShapeOk.f k l0 (l1_1.length:Int) a2_0 l2_1 l2_2).bind fun t129=>(if t129=true then (some ((l1_2.length:Int)==(l2_2.length:Int))) else (some false))) else (some false))) else (some false)) else (some false))=some r:=h
 clear h;by_cases c4:a1_0=true
 ·subst c4
  rw [if_pos rfl] at H;by_cases c5:a2_0=true
  ·subst c5
   rw [if_pos rfl] at H;replace H:=Option.bind_eq_some_iff.mp H;obtain ⟨t128,A60,H⟩:=H;(try dsimp only at H);have A6:=aK A60;clear A60;by_cases c7:t128=true
   ·subst c7
    rw [if_pos rfl] at H;replace H:=Option.bind_eq_some_iff.mp H;obtain ⟨t129,A80,H⟩:=H;(try dsimp only at H);have A8:=aK A80;clear A80;by_cases c9:t129=true
    ·subst c9
     rw [if_pos rfl] at H;obtain rfl:=Option.some.inj H;go_enter Try.func21,Try.ntmps21
     go_wp2_with (first|((with_reducible refine gate_dst (N:=4) rfl ?_);(try (refine gate_guard (by rfl) ?_;dsimp only));refine box_event ?hg (N:=4) ?hd (cs:= #[.bool true,.slice A1_1 l1_1.length c1_1,.slice A1_2 l1_2.length c1_2]) (t:=28) ?hr ?_;(case hd=>rfl);(case hg=>rfl);(case hr=>first|(go_simp;done)|(go_simp;rfl));intro gb126 hg w10 hbox hb;have BK126:=aK (hbox);have GW126:=aK ((by rw [hg];exact (below_size zz1):w.heap.size≤gb126));have GE126:=aK ((by rw [hg];exact (below_size zz1):w.heap.size≤gb126));replace HB:=aK (below_step zz1 hb);clear hb hbox hg)|((with_reducible refine gate_dst (N:=5) rfl ?_);(try (refine gate_guard (by rfl) ?_;dsimp only));refine box_event ?hg (N:=5) ?hd (cs:= #[.bool true,.slice A2_1 l2_1.length c2_1,.slice A2_2 l2_2.length c2_2]) (t:=28) ?hr ?_;(case hd=>rfl);(case hg=>rfl);(case hr=>first|(go_simp;done)|(go_simp;rfl));intro gb127 hg w11 hbox hb;have BK127:=aK (hbox);have GW127:=aK ((by rw [hg];exact (below_size zz18):w.heap.size≤gb127));have GE127:=aK ((by rw [hg];exact (below_size zz18):w.heap.size≤gb127));have NB126_127:=aK ((by rw [hg];exact Nat.ne_of_lt (blk_lt (g:=gb126) (o:= .cells #[.bool true,.slice A1_1 l1_1.length c1_1,.slice A1_2 l1_2.length c1_2] 28 (0,0)) zz19):gb126≠gb127));have NB127_126:=aK ((by rw [hg];exact Nat.ne_of_gt (blk_lt (g:=gb126) (o:= .cells #[.bool true,.slice A1_1 l1_1.length c1_1,.slice A1_2 l1_2.length c1_2] 28 (0,0)) zz19):gb127≠gb126));replace BK126:=aK (blk_below (g:=gb126) (o:= .cells #[.bool true,.slice A1_1 l1_1.length c1_1,.slice A1_2 l1_2.length c1_2] 28 (0,0)) zz19 hb);replace HB:=aK (below_step zz18 hb);clear hb hbox hg;have hnb12:=NB126_127.out;have hnc12:=NB127_126.out;obtain ⟨hcz13_0,hcz13_1,hcz13_2,hfz13_0,hfz13_1,hfz13_2⟩:=cbf3 BK126;obtain ⟨hcz14_0,hcz14_1,hcz14_2,hfz14_0,hfz14_1,hfz14_2⟩:=cbf3 BK127)|(go_at_call 36;(with_reducible refine (spec_ShapeOk.calls k _ _ l0 (l1_1.length:Int) true _ _ l1_1 _ _ l1_2 true _ ?side1 ?side2 ?side3 ?side4 ?side5 ?side6 A6.out).mono ?_);(case side1=>exact zz5);(case side2=>exact HC0.out);(case side3=>exact zz11);(case side4=>exact HC1_1.out);(case side5=>exact zz20);(case side6=>exact HC1_2.out);rintro e w15 ⟨rfl,hb⟩;replace BK126:=aK (blk_below (g:=gb126) (o:= .cells #[.bool true,.slice A1_1 l1_1.length c1_1,.slice A1_2 l1_2.length c1_2] 28 (0,0)) zz19 hb);replace BK127:=aK (blk_below (g:=gb127) (o:= .cells #[.bool true,.slice A2_1 l2_1.length c2_1,.slice A2_2 l2_2.length c2_2] 28 (0,0)) (by (with_reducible repeat (first|refine blk_drewN ?_ _|refine blk_drew ?_|refine blk_alloc ?_ _));exact BK127.out) hb);replace HB:=aK (below_step zz24 hb);(try clear hb);(try clear hb2);(try clear hk);(try clear hi);obtain ⟨hcz16_0,hcz16_1,hcz16_2,hfz16_0,hfz16_1,hfz16_2⟩:=cbf3 BK126;obtain ⟨hcz17_0,hcz17_1,hcz17_2,hfz17_0,hfz17_1,hfz17_2⟩:=cbf3 BK127)|(go_at_call 36;(with_reducible refine (spec_ShapeOk.calls k _ _ l0 (l1_1.length:Int) true _ _ l2_1 _ _ l2_2 true _ ?side1 ?side2 ?side3 ?side4 ?side5 ?side6 A8.out).mono ?_);(case side1=>exact zz5);(case side2=>exact HC0.out);(case side3=>exact zz35);(case side4=>exact HC2_1.out);(case side5=>exact zz34);(case side6=>exact HC2_2.out);rintro e w18 ⟨rfl,hb⟩;replace BK126:=aK (blk_below (g:=gb126) (o:= .cells #[.bool true,.slice A1_1 l1_1.length c1_1,.slice A1_2 l1_2.length c1_2] 28 (0,0)) zz19 hb);replace BK127:=aK (blk_below (g:=gb127) (o:= .cells #[.bool true,.slice A2_1 l2_1.length c2_1,.slice A2_2 l2_2.length c2_2] 28 (0,0)) (by (with_reducible repeat (first|refine blk_drewN ?_ _|refine blk_drew ?_|refine blk_alloc ?_ _));exact BK127.out) hb);replace HB:=aK (below_step zz24 hb);(try clear hb);(try clear hb2);(try clear hk);(try clear hi);obtain ⟨hcz19_0,hcz19_1,hcz19_2,hfz19_0,hfz19_1,hfz19_2⟩:=cbf3 BK126;obtain ⟨hcz20_0,hcz20_1,hcz20_2,hfz20_0,hfz20_1,hfz20_2⟩:=cbf3 BK127))
     go_ret;exact ⟨zz4,zz24⟩
    ·replace c9 := Bool.eq_false_iff.mpr c9
     subst c9;rw [if_neg (show¬(false=true) by decide)] at H;obtain rfl:=Option.some.inj H;go_enter Try.func21,Try.ntmps21
     go_wp2_with (first|((with_reducible refine gate_dst (N:=4) rfl ?_);(try (refine gate_guard (by rfl) ?_;dsimp only));refine box_event ?hg (N:=4) ?hd (cs:= #[.bool true,.slice A1_1 l1_1.length c1_1,.slice A1_2 l1_2.length c1_2]) (t:=28) ?hr ?_;(case hd=>rfl);(case hg=>rfl);(case hr=>first|(go_simp;done)|(go_simp;rfl));intro gb126 hg w21 hbox hb;have BK126:=aK (hbox);have GW126:=aK ((by rw [hg];exact (below_size zz1):w.heap.size≤gb126));have GE126:=aK ((by rw [hg];exact (below_size zz1):w.heap.size≤gb126));replace HB:=aK (below_step zz1 hb);clear hb hbox hg)|((with_reducible refine gate_dst (N:=5) rfl ?_);(try (refine gate_guard (by rfl) ?_;dsimp only));refine box_event ?hg (N:=5) ?hd (cs:= #[.bool true,.slice A2_1 l2_1.length c2_1,.slice A2_2 l2_2.length c2_2]) (t:=28) ?hr ?_;(case hd=>rfl);(case hg=>rfl);(case hr=>first|(go_simp;done)|(go_simp;rfl));intro gb127 hg w22 hbox hb;have BK127:=aK (hbox);have GW127:=aK ((by rw [hg];exact (below_size zz18):w.heap.size≤gb127));have GE127:=aK ((by rw [hg];exact (below_size zz18):w.heap.size≤gb127));have NB126_127:=aK ((by rw [hg];exact Nat.ne_of_lt (blk_lt (g:=gb126) (o:= .cells #[.bool true,.slice A1_1 l1_1.length c1_1,.slice A1_2 l1_2.length c1_2] 28 (0,0)) zz19):gb126≠gb127));have NB127_126:=aK ((by rw [hg];exact Nat.ne_of_gt (blk_lt (g:=gb126) (o:= .cells #[.bool true,.slice A1_1 l1_1.length c1_1,.slice A1_2 l1_2.length c1_2] 28 (0,0)) zz19):gb127≠gb126));replace BK126:=aK (blk_below (g:=gb126) (o:= .cells #[.bool true,.slice A1_1 l1_1.length c1_1,.slice A1_2 l1_2.length c1_2] 28 (0,0)) zz19 hb);replace HB:=aK (below_step zz18 hb);clear hb hbox hg;have hnb23:=NB126_127.out;have hnc23:=NB127_126.out;obtain ⟨hcz24_0,hcz24_1,hcz24_2,hfz24_0,hfz24_1,hfz24_2⟩:=cbf3 BK126;obtain ⟨hcz25_0,hcz25_1,hcz25_2,hfz25_0,hfz25_1,hfz25_2⟩:=cbf3 BK127)|(go_at_call 36;(with_reducible refine (spec_ShapeOk.calls k _ _ l0 (l1_1.length:Int) true _ _ l1_1 _ _ l1_2 true _ ?side1 ?side2 ?side3 ?side4 ?side5 ?side6 A6.out).mono ?_);(case side1=>exact zz5);(case side2=>exact HC0.out);(case side3=>exact zz11);(case side4=>exact HC1_1.out);(case side5=>exact zz20);(case side6=>exact HC1_2.out);rintro e w26 ⟨rfl,hb⟩;replace BK126:=aK (blk_below (g:=gb126) (o:= .cells #[.bool true,.slice A1_1 l1_1.length c1_1,.slice A1_2 l1_2.length c1_2] 28 (0,0)) zz19 hb);replace BK127:=aK (blk_below (g:=gb127) (o:= .cells #[.bool true,.slice A2_1 l2_1.length c2_1,.slice A2_2 l2_2.length c2_2] 28 (0,0)) (by (with_reducible repeat (first|refine blk_drewN ?_ _|refine blk_drew ?_|refine blk_alloc ?_ _));exact BK127.out) hb);replace HB:=aK (below_step zz24 hb);(try clear hb);(try clear hb2);(try clear hk);(try clear hi);obtain ⟨hcz27_0,hcz27_1,hcz27_2,hfz27_0,hfz27_1,hfz27_2⟩:=cbf3 BK126;obtain ⟨hcz28_0,hcz28_1,hcz28_2,hfz28_0,hfz28_1,hfz28_2⟩:=cbf3 BK127)|(go_at_call 36;(with_reducible refine (spec_ShapeOk.calls k _ _ l0 (l1_1.length:Int) true _ _ l2_1 _ _ l2_2 false _ ?side1 ?side2 ?side3 ?side4 ?side5 ?side6 A8.out).mono ?_);(case side1=>exact zz5);(case side2=>exact HC0.out);(case side3=>exact zz35);(case side4=>exact HC2_1.out);(case side5=>exact zz34);(case side6=>exact HC2_2.out);rintro e w29 ⟨rfl,hb⟩;replace BK126:=aK (blk_below (g:=gb126) (o:= .cells #[.bool true,.slice A1_1 l1_1.length c1_1,.slice A1_2 l1_2.length c1_2] 28 (0,0)) zz19 hb);replace BK127:=aK (blk_below (g:=gb127) (o:= .cells #[.bool true,.slice A2_1 l2_1.length c2_1,.slice A2_2 l2_2.length c2_2] 28 (0,0)) (by (with_reducible repeat (first|refine blk_drewN ?_ _|refine blk_drew ?_|refine blk_alloc ?_ _));exact BK127.out) hb);replace HB:=aK (below_step zz24 hb);(try clear hb);(try clear hb2);(try clear hk);(try clear hi)))
     go_ret;exact ⟨zz4,zz24⟩
   ·replace c7 := Bool.eq_false_iff.mpr c7
    subst c7;rw [if_neg (show¬(false=true) by decide)] at H;obtain rfl:=Option.some.inj H;go_enter Try.func21,Try.ntmps21
    go_wp2_with (first|((with_reducible refine gate_dst (N:=4) rfl ?_);(try (refine gate_guard (by rfl) ?_;dsimp only));refine box_event ?hg (N:=4) ?hd (cs:= #[.bool true,.slice A1_1 l1_1.length c1_1,.slice A1_2 l1_2.length c1_2]) (t:=28) ?hr ?_;(case hd=>rfl);(case hg=>rfl);(case hr=>first|(go_simp;done)|(go_simp;rfl));intro gb126 hg w30 hbox hb;have BK126:=aK (hbox);have GW126:=aK ((by rw [hg];exact (below_size zz1):w.heap.size≤gb126));have GE126:=aK ((by rw [hg];exact (below_size zz1):w.heap.size≤gb126));replace HB:=aK (below_step zz1 hb);clear hb hbox hg)|((with_reducible refine gate_dst (N:=5) rfl ?_);(try (refine gate_guard (by rfl) ?_;dsimp only));refine box_event ?hg (N:=5) ?hd (cs:= #[.bool true,.slice A2_1 l2_1.length c2_1,.slice A2_2 l2_2.length c2_2]) (t:=28) ?hr ?_;(case hd=>rfl);(case hg=>rfl);(case hr=>first|(go_simp;done)|(go_simp;rfl));intro gb127 hg w31 hbox hb;have BK127:=aK (hbox);have GW127:=aK ((by rw [hg];exact (below_size zz18):w.heap.size≤gb127));have GE127:=aK ((by rw [hg];exact (below_size zz18):w.heap.size≤gb127));have NB126_127:=aK ((by rw [hg];exact Nat.ne_of_lt (blk_lt (g:=gb126) (o:= .cells #[.bool true,.slice A1_1 l1_1.length c1_1,.slice A1_2 l1_2.length c1_2] 28 (0,0)) zz19):gb126≠gb127));have NB127_126:=aK ((by rw [hg];exact Nat.ne_of_gt (blk_lt (g:=gb126) (o:= .cells #[.bool true,.slice A1_1 l1_1.length c1_1,.slice A1_2 l1_2.length c1_2] 28 (0,0)) zz19):gb127≠gb126));replace BK126:=aK (blk_below (g:=gb126) (o:= .cells #[.bool true,.slice A1_1 l1_1.length c1_1,.slice A1_2 l1_2.length c1_2] 28 (0,0)) zz19 hb);replace HB:=aK (below_step zz18 hb);clear hb hbox hg;have hnb32:=NB126_127.out;have hnc32:=NB127_126.out;obtain ⟨hcz33_0,hcz33_1,hcz33_2,hfz33_0,hfz33_1,hfz33_2⟩:=cbf3 BK126;obtain ⟨hcz34_0,hcz34_1,hcz34_2,hfz34_0,hfz34_1,hfz34_2⟩:=cbf3 BK127)|(go_at_call 36;(with_reducible refine (spec_ShapeOk.calls k _ _ l0 (l1_1.length:Int) true _ _ l1_1 _ _ l1_2 false _ ?side1 ?side2 ?side3 ?side4 ?side5 ?side6 A6.out).mono ?_);(case side1=>exact zz5);(case side2=>exact HC0.out);(case side3=>exact zz11);(case side4=>exact HC1_1.out);(case side5=>exact zz20);(case side6=>exact HC1_2.out);rintro e w35 ⟨rfl,hb⟩;replace BK126:=aK (blk_below (g:=gb126) (o:= .cells #[.bool true,.slice A1_1 l1_1.length c1_1,.slice A1_2 l1_2.length c1_2] 28 (0,0)) zz19 hb);replace BK127:=aK (blk_below (g:=gb127) (o:= .cells #[.bool true,.slice A2_1 l2_1.length c2_1,.slice A2_2 l2_2.length c2_2] 28 (0,0)) (by (with_reducible repeat (first|refine blk_drewN ?_ _|refine blk_drew ?_|refine blk_alloc ?_ _));exact BK127.out) hb);replace HB:=aK (below_step zz24 hb);(try clear hb);(try clear hb2);(try clear hk);(try clear hi)))
    go_ret;exact ⟨zz4,zz24⟩
  ·replace c5 := Bool.eq_false_iff.mpr c5
   subst c5;rw [if_neg (show¬(false=true) by decide)] at H;obtain rfl:=Option.some.inj H;go_enter Try.func21,Try.ntmps21
   go_wp2_with (first|((with_reducible refine gate_dst (N:=4) rfl ?_);(try (refine gate_guard (by rfl) ?_;dsimp only));refine box_event ?hg (N:=4) ?hd (cs:= #[.bool true,.slice A1_1 l1_1.length c1_1,.slice A1_2 l1_2.length c1_2]) (t:=28) ?hr ?_;(case hd=>rfl);(case hg=>rfl);(case hr=>first|(go_simp;done)|(go_simp;rfl));intro gb126 hg w36 hbox hb;have BK126:=aK (hbox);have GW126:=aK ((by rw [hg];exact (below_size zz1):w.heap.size≤gb126));have GE126:=aK ((by rw [hg];exact (below_size zz1):w.heap.size≤gb126));replace HB:=aK (below_step zz1 hb);clear hb hbox hg)|((with_reducible refine gate_dst (N:=5) rfl ?_);(try (refine gate_guard (by rfl) ?_;dsimp only));refine box_event ?hg (N:=5) ?hd (cs:= #[.bool false,.slice A2_1 l2_1.length c2_1,.slice A2_2 l2_2.length c2_2]) (t:=28) ?hr ?_;(case hd=>rfl);(case hg=>rfl);(case hr=>first|(go_simp;done)|(go_simp;rfl));intro gb127 hg w37 hbox hb;have BK127:=aK (hbox);have GW127:=aK ((by rw [hg];exact (below_size zz18):w.heap.size≤gb127));have GE127:=aK ((by rw [hg];exact (below_size zz18):w.heap.size≤gb127));have NB126_127:=aK ((by rw [hg];exact Nat.ne_of_lt (blk_lt (g:=gb126) (o:= .cells #[.bool true,.slice A1_1 l1_1.length c1_1,.slice A1_2 l1_2.length c1_2] 28 (0,0)) zz19):gb126≠gb127));have NB127_126:=aK ((by rw [hg];exact Nat.ne_of_gt (blk_lt (g:=gb126) (o:= .cells #[.bool true,.slice A1_1 l1_1.length c1_1,.slice A1_2 l1_2.length c1_2] 28 (0,0)) zz19):gb127≠gb126));replace BK126:=aK (blk_below (g:=gb126) (o:= .cells #[.bool true,.slice A1_1 l1_1.length c1_1,.slice A1_2 l1_2.length c1_2] 28 (0,0)) zz19 hb);replace HB:=aK (below_step zz18 hb);clear hb hbox hg;have hnb38:=NB126_127.out;have hnc38:=NB127_126.out;obtain ⟨hcz39_0,hcz39_1,hcz39_2,hfz39_0,hfz39_1,hfz39_2⟩:=cbf3 BK126;obtain ⟨hcz40_0,hcz40_1,hcz40_2,hfz40_0,hfz40_1,hfz40_2⟩:=cbf3 BK127))
   go_ret;exact ⟨zz4,zz24⟩
 ·replace c4 := Bool.eq_false_iff.mpr c4
  subst c4;rw [if_neg (show¬(false=true) by decide)] at H;obtain rfl:=Option.some.inj H;go_enter Try.func21,Try.ntmps21
  go_wp2_with (first|((with_reducible refine gate_dst (N:=4) rfl ?_);(try (refine gate_guard (by rfl) ?_;dsimp only));refine box_event ?hg (N:=4) ?hd (cs:= #[.bool false,.slice A1_1 l1_1.length c1_1,.slice A1_2 l1_2.length c1_2]) (t:=28) ?hr ?_;(case hd=>rfl);(case hg=>rfl);(case hr=>first|(go_simp;done)|(go_simp;rfl));intro gb126 hg w41 hbox hb;have BK126:=aK (hbox);have GW126:=aK ((by rw [hg];exact (below_size zz1):w.heap.size≤gb126));have GE126:=aK ((by rw [hg];exact (below_size zz1):w.heap.size≤gb126));replace HB:=aK (below_step zz1 hb);clear hb hbox hg)|((with_reducible refine gate_dst (N:=5) rfl ?_);(try (refine gate_guard (by rfl) ?_;dsimp only));refine box_event ?hg (N:=5) ?hd (cs:= #[.bool a2_0,.slice A2_1 l2_1.length c2_1,.slice A2_2 l2_2.length c2_2]) (t:=28) ?hr ?_;(case hd=>rfl);(case hg=>rfl);(case hr=>first|(go_simp;done)|(go_simp;rfl));intro gb127 hg w42 hbox hb;have BK127:=aK (hbox);have GW127:=aK ((by rw [hg];exact (below_size zz18):w.heap.size≤gb127));have GE127:=aK ((by rw [hg];exact (below_size zz18):w.heap.size≤gb127));have NB126_127:=aK ((by rw [hg];exact Nat.ne_of_lt (blk_lt (g:=gb126) (o:= .cells #[.bool false,.slice A1_1 l1_1.length c1_1,.slice A1_2 l1_2.length c1_2] 28 (0,0)) zz19):gb126≠gb127));have NB127_126:=aK ((by rw [hg];exact Nat.ne_of_gt (blk_lt (g:=gb126) (o:= .cells #[.bool false,.slice A1_1 l1_1.length c1_1,.slice A1_2 l1_2.length c1_2] 28 (0,0)) zz19):gb127≠gb126));replace BK126:=aK (blk_below (g:=gb126) (o:= .cells #[.bool false,.slice A1_1 l1_1.length c1_1,.slice A1_2 l1_2.length c1_2] 28 (0,0)) zz19 hb);replace HB:=aK (below_step zz18 hb);clear hb hbox hg;have hnb43:=NB126_127.out;have hnc43:=NB127_126.out;obtain ⟨hcz44_0,hcz44_1,hcz44_2,hfz44_0,hfz44_1,hfz44_2⟩:=cbf3 BK126))
  go_ret;exact ⟨zz4,zz24⟩
end Go.Proofs.Ytehefmgplkolaaa.K
namespace Go.Proofs.Ytehefmgplkolaaa.K
open Go.RowKit Go.Proofs.YtehefmgplkolaaaW.PrintWords Go.Proofs.YtehefmgplkolaaaW.PrintLast Go.Proofs.YtehefmgplkolaaaW.PrintMore
attribute [local go_sem] max2_int min2_int max_two min_two max_three min_three max_four min_four
set_option linter.unusedVariables false
set_option linter.unusedSimpArgs false
def spec_l11None.f:Option (Bool×List Int×List Int):=some (false,(([]:List Int)),(([]:List Int)))
set_option maxHeartbeats 8000000 in
set_option maxRecDepth 100000 in
theorem spec_l11None.calls (r1:Bool) (r2:List Int) (r3:List Int) (w:World) (h:spec_l11None.f=some (r1,r2,r3)):
  Calls Try.prog 22 #[] w fun e w'=> ∃v1_ v2_:Value,e= .returned (.agg #[.bool r1,v1_,v2_])∧Kd.R (Kd.int .i64) 3 w' w.heap.size (fun k_=>some k_≠(v2_:Value).ownBlock) v1_ r2∧Kd.R (Kd.int .i64) 3 w' w.heap.size (fun k_=>some k_≠(v1_:Value).ownBlock) v2_ r3∧Below w.heap.size w w':=by
 have hu28:=Try.underlying28;have HB:=aK (Below.refl w.heap.size w);have H:(some (false,(([]:List Int)),(([]:List Int))))=some (r1,r2,r3):=h
 clear h;obtain ⟨y131,hy131⟩: ∃y_:List Int,y_=(([]:List Int)):=⟨_,rfl⟩;replace H:(some (false,y131,(([]:List Int))))=some (r1,r2,r3):=by first|(rw [hy131];with_reducible exact H)|(have H2_:=(Option.bind_some _ _).symm.trans H;rw [hy131];with_reducible exact H2_)|(have H2_:=(Option.bind_some _ _).symm.trans H;with_reducible exact H2_)|with_reducible exact H|(rw [hy131];exact H)|exact H
 have Ny131:=aK hy131;clear hy131;obtain ⟨y134,hy134⟩: ∃y_:List Int,y_=(([]:List Int)):=⟨_,rfl⟩;replace H:(some (false,y131,y134))=some (r1,r2,r3):=by first|(rw [hy134];with_reducible exact H)|(have H2_:=(Option.bind_some _ _).symm.trans H;rw [hy134];with_reducible exact H2_)|(have H2_:=(Option.bind_some _ _).symm.trans H;with_reducible exact H2_)|with_reducible exact H|(rw [hy134];exact H)|exact H
 have Ny134:=aK hy134;clear hy134;simp only [Option.some.injEq,Prod.mk.injEq] at H;obtain ⟨rfl,rfl,rfl⟩:=H;go_enter Try.func22,Try.ntmps22
 go_wp2_with (first|((with_reducible refine gate_dst (N:=0) rfl ?_);refine box_event ?hg (N:=0) ?hd (cs:= #[.bool false,.slice none 0 0,.slice none 0 0]) (t:=28) ?hr ?_;(case hd=>rfl);(case hg=>rfl);(case hr=>first|(go_simp;done)|(go_simp;rfl));intro gb130 hg w1 hbox hb;have BK130:=aK (hbox);have GW130:=aK ((by rw [hg];exact (below_size zz1):w.heap.size≤gb130));have GE130:=aK ((by rw [hg];exact (below_size zz1):w.heap.size≤gb130));replace HB:=aK (below_step zz1 hb);clear hb hbox hg)|((with_reducible refine gate_dst (N:=1) rfl ?_);refine Kd.R_lit (Kd.int .i64) _ 3 ?hg (N:=1) ?hd (xs:=([]:List Int)) (inner:=[]) (ok:=fun _=>True) (okp:=fun _=>True) ?hr ?hp (fun _ hk=>hk) trivial (Below.refl _ _) (Nat.le_refl _) (by simp) ?_;(case hd=>rfl);(case hg=>rfl);(case hr=>first|(go_simp;done)|(go_simp;rfl));(case hp=>exact (Reps.none _ _));intro v132 w2 ho3 hb hg_ hnew_;clear hg_ hnew_;(first|rw [←Ny131.out] at ho3|(simp only [Int.reduceToNat] at ho3;rw [←Ny131.out] at ho3));have HO133:=aK (Kd.R_lower ho3 (below_size (by repeat (first|(with_reducible first|exact HB.out|apply below_alloc|apply pw_below_drewN|apply below_drew1|refine below_set ?_ GE130.out)|exact HB.out))));replace BK130:=aK (blk_below (g:=gb130) (o:= .cells #[.bool false,.slice none 0 0,.slice none 0 0] 28 (0,0)) (by (with_reducible repeat (first|refine blk_drewN ?_ _|refine blk_drew ?_|refine blk_alloc ?_ _));exact BK130.out) hb);replace HB:=aK (below_step (by repeat (first|(with_reducible first|exact HB.out|apply below_alloc|apply pw_below_drewN|apply below_drew1|refine below_set ?_ GE130.out)|exact HB.out)) hb);clear hb ho3)|((with_reducible refine gate_dst (N:=2) rfl ?_);refine Kd.R_lit (Kd.int .i64) _ 3 ?hg (N:=2) ?hd (xs:=([]:List Int)) (inner:=[]) (ok:=fun _=>True) (okp:=fun _=>True) ?hr ?hp (fun _ hk=>hk) trivial (Below.refl _ _) (Nat.le_refl _) (by simp) ?_;(case hd=>rfl);(case hg=>rfl);(case hr=>first|(go_simp;done)|(go_simp;rfl));(case hp=>exact (Reps.none _ _));intro v135 w4 ho5 hb hg_ hnew_;clear hg_ hnew_;(first|rw [←Ny134.out] at ho5|(simp only [Int.reduceToNat] at ho5;rw [←Ny134.out] at ho5));have HO136:=aK (Kd.R_lower (Kd.R_new' ho5 (Kd.R_lt (by (with_reducible repeat (first|apply Kd.R_alloc|apply Kd.R_drewN|apply Kd.R_drew));exact HO133.out))) (below_size (by repeat (first|(with_reducible first|exact HB.out|apply below_alloc|apply pw_below_drewN|apply below_drew1|refine below_set ?_ GE130.out)|exact HB.out))));replace HO133:=aK (Kd.R_elder' (by (with_reducible repeat (first|apply Kd.R_alloc|apply Kd.R_drewN|apply Kd.R_drew));exact HO133.out) (Kd.R_base ho5) hb);replace BK130:=aK (blk_below (g:=gb130) (o:= .cells #[.bool false,.slice none 0 0,.slice none 0 0] 28 (0,0)) (by (with_reducible repeat (first|refine blk_drewN ?_ _|refine blk_drew ?_|refine blk_alloc ?_ _));exact BK130.out) hb);replace HB:=aK (below_step (by repeat (first|(with_reducible first|exact HB.out|apply below_alloc|apply pw_below_drewN|apply below_drew1|refine below_set ?_ GE130.out)|exact HB.out)) hb);clear hb ho5;obtain ⟨Ao6,co6,eo6⟩:=Kd.R_slice HO136.out;subst eo6;obtain ⟨Ao7,co7,eo7⟩:=Kd.R_slice HO133.out;subst eo7;obtain ⟨hcz8_0,hcz8_1,hcz8_2,hfz8_0,hfz8_1,hfz8_2⟩:=cbf3 BK130))
 refine bodyPost_ret (results_cell_row rfl _ _ gb130 28 #[.bool false,.slice Ao7 y131.length co7,.slice Ao6 y134.length co6] (0,0) _ rfl (by (with_reducible repeat (first|refine blk_drewN ?_ _|refine blk_drew ?_|refine blk_alloc ?_ _));refine blk_put (cs:= #[.bool false,.slice Ao7 y131.length co7,.slice none 0 0]) ?_ 2 _ rfl;(with_reducible repeat (first|refine blk_drewN ?_ _|refine blk_drew ?_|refine blk_alloc ?_ _));refine blk_put (cs:= #[.bool false,.slice none 0 0,.slice none 0 0]) ?_ 1 _ rfl;(with_reducible repeat (first|refine blk_drewN ?_ _|refine blk_drew ?_|refine blk_alloc ?_ _));refine blk_put (cs:= #[.bool false,.slice none 0 0,.slice none 0 0]) ?_ 0 _ rfl;(with_reducible repeat (first|refine blk_drewN ?_ _|refine blk_drew ?_|refine blk_alloc ?_ _));exact BK130.out) Try.underlying28 rfl (by kernel_rfl)) rfl ?_;exact ⟨_,_,by first|rfl|(simp [errW_none,errW_some]<;>rfl)|(simp [*,errW_none,errW_some]<;>rfl),by (with_reducible repeat (first|apply Kd.R_alloc|apply Kd.R_drewN|apply Kd.R_drew));exact Kd.R_mono (Kd.R_far (p:=⟨gb130,2,none⟩) (Kd.R_far (p:=⟨gb130,1,none⟩) (Kd.R_far (p:=⟨gb130,0,none⟩) (Kd.R_types HO133.out BK130.out (by decide)) (fun _ hk=>hk.2) (.bool false)) (fun _ hk=>hk.2) (.slice Ao7 y131.length co7)) (fun _ hk=>hk.2) (.slice Ao6 y134.length co6)) (fun _ hk=>hk.1.2),by (with_reducible repeat (first|apply Kd.R_alloc|apply Kd.R_drewN|apply Kd.R_drew));exact Kd.R_mono (Kd.R_far (p:=⟨gb130,2,none⟩) (Kd.R_far (p:=⟨gb130,1,none⟩) (Kd.R_far (p:=⟨gb130,0,none⟩) (Kd.R_types HO136.out BK130.out (by decide)) (fun _ hk=>hk.2) (.bool false)) (fun _ hk=>hk.2) (.slice Ao7 y131.length co7)) (fun _ hk=>hk.2) (.slice Ao6 y134.length co6)) (fun _ hk=>hk.1.2),by repeat (first|(with_reducible first|exact HB.out|apply below_alloc|apply pw_below_drewN|apply below_drew1|refine below_set ?_ GE130.out)|exact HB.out)⟩
end Go.Proofs.Ytehefmgplkolaaa.K
namespace Go.Proofs.Ytehefmgplkolaaa.K
open Go.RowKit Go.Proofs.YtehefmgplkolaaaW.PrintWords Go.Proofs.YtehefmgplkolaaaW.PrintLast Go.Proofs.YtehefmgplkolaaaW.PrintMore
attribute [local go_sem] max2_int min2_int max_two min_two max_three min_three max_four min_four
set_option linter.unusedVariables false
set_option linter.unusedSimpArgs false
def spec_l11Copy.f (a0_0:Bool) (l0_1:List Int) (l0_2:List Int):Option (Bool×List Int×List Int):=(some (([]:List Int):List Int)).bind fun y139=>(if y139.length+l0_1.length<17592186044416 then ((some (([]:List Int):List Int)).bind fun y145=>(if y145.length+l0_2.length<17592186044416 then (some (a0_0,(y139++l0_1),(y145++l0_2))) else (none))) else (none))
def spec_l11Copy.T1:Bool×List (List Nat×List Nat):=(true,[([],[]),([0],[0]),([],[]),([],[]),([3],[3]),([2,4],[2,4]),([],[]),([],[]),([7],[7]),([6,8,5],[6,8]),([1,5,9],[1,5,9]),([10,9,0,1,2,3,4,5,6,7,8,9,10],[10])])
def spec_l11Copy.B1:List Nat:=[0,1,0,0,8,28,0,0,128,508,1023,2047]
theorem spec_l11Copy.tab1:rtab .any (opsOf Try.f37 1)=spec_l11Copy.T1:=by kernel_rfl
theorem spec_l11Copy.bits1:waitsOk spec_l11Copy.T1.2 spec_l11Copy.B1=true:=by kernel_rfl
set_option maxHeartbeats 8000000 in
set_option maxRecDepth 100000 in
theorem spec_l11Copy.calls (a0_0:Bool) (A0_1:Option Addr) (c0_1:Nat) (l0_1:List Int) (A0_2:Option Addr) (c0_2:Nat) (l0_2:List Int) (r1:Bool) (r2:List Int) (r3:List Int) (w:World) (hr0_1:Kd.C (Kd.int .i64) w A0_1 l0_1.length l0_1) (hc0_1:l0_1.length≤c0_1) (hr0_2:Kd.C (Kd.int .i64) w A0_2 l0_2.length l0_2) (hc0_2:l0_2.length≤c0_2) (h:spec_l11Copy.f a0_0 l0_1 l0_2=some (r1,r2,r3)):
  Calls Try.prog 37 #[.agg #[.bool a0_0,.slice A0_1 l0_1.length c0_1,.slice A0_2 l0_2.length c0_2]] w fun e w'=> ∃v1_ v2_:Value,e= .returned (.agg #[.bool r1,v1_,v2_])∧Kd.R (Kd.int .i64) 3 w' w.heap.size (fun k_=>some k_≠(v2_:Value).ownBlock) v1_ r2∧Kd.R (Kd.int .i64) 3 w' w.heap.size (fun k_=>some k_≠(v1_:Value).ownBlock) v2_ r3∧Below w.heap.size w w':=by
 have hu28:=Try.underlying28;have HR0_1:=aK hr0_1;have HC0_1:=aK hc0_1;clear hr0_1 hc0_1;have HR0_2:=aK hr0_2;have HC0_2:=aK hc0_2;clear hr0_2 hc0_2;have HB:=aK (Below.refl w.heap.size w);have H:((some (([]:List Int):List Int)).bind fun y139=>(if y139.length+l0_1.length<17592186044416 then ((some (([]:List Int):List Int)).bind fun y145=>(if y145.length+l0_2.length<17592186044416 then (some (a0_0,(y139++l0_1),(y145++l0_2))) else (none))) else (none)))=some (r1,r2,r3):=h
 clear h;obtain ⟨y139,hy139⟩: ∃y_:List Int,y_=(([]:List Int)):=⟨_,rfl⟩;replace H:(if y139.length+l0_1.length<17592186044416 then ((some (([]:List Int):List Int)).bind fun y145=>(if y145.length+l0_2.length<17592186044416 then (some (a0_0,(y139++l0_1),(y145++l0_2))) else (none))) else (none))=some (r1,r2,r3):=by first|(rw [hy139];with_reducible exact H)|(have H2_:=(Option.bind_some _ _).symm.trans H;rw [hy139];with_reducible exact H2_)|(have H2_:=(Option.bind_some _ _).symm.trans H;with_reducible exact H2_)|with_reducible exact H|(rw [hy139];exact H)|exact H
 have Ny139:=aK hy139;clear hy139;by_cases c2:y139.length+l0_1.length<17592186044416
 ·rw [if_pos c2] at H
  have LMc2:=aK c2;clear c2;obtain ⟨y142,hy142⟩: ∃y_:List Int,y_=(y139++l0_1):=⟨_,rfl⟩;replace H:((some (([]:List Int):List Int)).bind fun y145=>(if y145.length+l0_2.length<17592186044416 then (some (a0_0,y142,(y145++l0_2))) else (none)))=some (r1,r2,r3):=by first|(rw [hy142];with_reducible exact H)|(have H2_:=(Option.bind_some _ _).symm.trans H;rw [hy142];with_reducible exact H2_)|(have H2_:=(Option.bind_some _ _).symm.trans H;with_reducible exact H2_)|with_reducible exact H|(rw [hy142];exact H)|exact H
  have Ny142:=aK hy142;clear hy142;obtain ⟨y145,hy145⟩: ∃y_:List Int,y_=(([]:List Int)):=⟨_,rfl⟩;replace H:(if y145.length+l0_2.length<17592186044416 then (some (a0_0,y142,(y145++l0_2))) else (none))=some (r1,r2,r3):=by first|(rw [hy145];with_reducible exact H)|(have H2_:=(Option.bind_some _ _).symm.trans H;rw [hy145];with_reducible exact H2_)|(have H2_:=(Option.bind_some _ _).symm.trans H;with_reducible exact H2_)|with_reducible exact H|(rw [hy145];exact H)|exact H
  have Ny145:=aK hy145;clear hy145;by_cases c3:y145.length+l0_2.length<17592186044416
  ·rw [if_pos c3] at H
   have LMc3:=aK c3;clear c3;obtain ⟨y148,hy148⟩: ∃y_:List Int,y_=(y145++l0_2):=⟨_,rfl⟩;replace H:(some (a0_0,y142,y148))=some (r1,r2,r3):=by first|(rw [hy148];with_reducible exact H)|(have H2_:=(Option.bind_some _ _).symm.trans H;rw [hy148];with_reducible exact H2_)|(have H2_:=(Option.bind_some _ _).symm.trans H;with_reducible exact H2_)|with_reducible exact H|(rw [hy148];exact H)|exact H
   have Ny148:=aK hy148;clear hy148;simp only [Option.some.injEq,Prod.mk.injEq] at H;obtain ⟨rfl,rfl,rfl⟩:=H;go_enter Try.func37,Try.ntmps37;try go_wp2_with (first|((with_reducible refine gate_dst (N:=1) rfl ?_);refine box_event ?hg (N:=1) ?hd (cs:= #[.bool a0_0,.slice A0_1 l0_1.length c0_1,.slice A0_2 l0_2.length c0_2]) (t:=28) ?hr ?_;(case hd=>rfl);(case hg=>rfl);(case hr=>first|(go_simp;done)|(go_simp;rfl));intro gb137 hg w4 hbox hb;have BK137:=aK (hbox);have GW137:=aK ((by rw [hg];exact (below_size zz1):w.heap.size≤gb137));have GE137:=aK ((by rw [hg];exact (below_size zz1):w.heap.size≤gb137));replace HB:=aK (below_step zz1 hb);clear hb hbox hg)|((with_reducible refine gate_dst (N:=2) rfl ?_);refine box_event ?hg (N:=2) ?hd (cs:= #[.bool false,.slice none 0 0,.slice none 0 0]) (t:=28) ?hr ?_;(case hd=>rfl);(case hg=>rfl);(case hr=>first|(go_simp;done)|(go_simp;rfl));intro gb138 hg w5 hbox hb;have BK138:=aK (hbox);have GW138:=aK ((by rw [hg];exact (below_size (by repeat (first|(with_reducible first|exact HB.out|apply below_alloc|apply pw_below_drewN|apply below_drew1|refine below_set ?_ GE137.out)|exact HB.out))):w.heap.size≤gb138));have GE138:=aK ((by rw [hg];exact (below_size (by repeat (first|(with_reducible first|exact HB.out|apply below_alloc|apply pw_below_drewN|apply below_drew1|refine below_set ?_ GE137.out)|exact HB.out))):w.heap.size≤gb138));have NB137_138:=aK ((by rw [hg];exact Nat.ne_of_lt (blk_lt (g:=gb137) (o:= .cells #[.bool a0_0,.slice A0_1 l0_1.length c0_1,.slice A0_2 l0_2.length c0_2] 28 (0,0)) zz29):gb137≠gb138));have NB138_137:=aK ((by rw [hg];exact Nat.ne_of_gt (blk_lt (g:=gb137) (o:= .cells #[.bool a0_0,.slice A0_1 l0_1.length c0_1,.slice A0_2 l0_2.length c0_2] 28 (0,0)) zz29):gb138≠gb137));replace BK137:=aK (blk_below (g:=gb137) (o:= .cells #[.bool a0_0,.slice A0_1 l0_1.length c0_1,.slice A0_2 l0_2.length c0_2] 28 (0,0)) zz29 hb);replace HB:=aK (below_step (by repeat (first|(with_reducible first|exact HB.out|apply below_alloc|apply pw_below_drewN|apply below_drew1|refine below_set ?_ GE137.out)|exact HB.out)) hb);clear hb hbox hg))
   have n0_:=aK (blk_drew BK137.out);have n1_:=aK (blk_drew BK138.out);have n2_:=aK (below_drew1 HB.out);clear BK137;clear BK138;clear HB;have BK137:=n0_;have BK138:=n1_;have HB:=n2_;clear n0_ n1_ n2_;refine sT 12 (S:=fun w'=>w'.cell? ⟨gb137,0,none⟩=some (.bool a0_0)∧w'.cell? ⟨gb137,1,none⟩=some (.slice A0_1 l0_1.length c0_1)∧w'.cell? ⟨gb137,2,none⟩=some (.slice A0_2 l0_2.length c0_2)) (ds:=[]) ⟨(blk_cell BK137.out 0).trans rfl,(blk_cell BK137.out 1).trans rfl,(blk_cell BK137.out 2).trans rfl⟩ (fun hHeld=>?_);refine with_tabW spec_l11Copy.tab1 spec_l11Copy.bits1 (fun HT_ HW_=>?_);generalize w5.drew=w6 at BK137 BK138 HB hHeld ⊢;refine pT 0 3 (lA 12 1) HT_ ?_;refine pT 3 6 (lA 12 9) HT_ ?_;refine pT 7 10 (lA 12 137) HT_ ?_;refine tS 1 4 (lA 12 139) rfl rfl (take_ofW HT_.out HW_.out (by kernel_rfl)) hHeld (by rintro w' ⟨s0,s1,s2⟩;go_simp;with_reducible rfl) ?_;refine tS 4 7 (lA 12 155) rfl rfl (take_ofW HT_.out HW_.out (by kernel_rfl)) hHeld (by rintro w' ⟨s0,s1,s2⟩;go_simp;with_reducible rfl) ?_;refine tS 8 11 (lA 12 411) rfl rfl (take_ofW HT_.out HW_.out (by kernel_rfl)) hHeld (by rintro w' ⟨s0,s1,s2⟩;go_simp;with_reducible rfl) ?_;refine join_ (σ:=Value×Value×Value) 3 (lA 12 511) (fun s_=>[(5,s_.1),(8,s_.2.1),(9,s_.2.2)]) (fun s_ w'=>(w'.cell? ⟨gb137,0,none⟩=some (.bool a0_0)∧w'.cell? ⟨gb137,1,none⟩=some (.slice A0_1 l0_1.length c0_1)∧w'.cell? ⟨gb137,2,none⟩=some (.slice A0_2 l0_2.length c0_2))∧(Kd.R (Kd.int .i64) 3 w' w.heap.size (fun k_=>some k_≠(s_.2.2:Value).ownBlock) s_.2.1 y142)∧(Kd.R (Kd.int .i64) 3 w' w.heap.size (fun k_=>some k_≠(s_.2.1:Value).ownBlock) s_.2.2 y145)∧(w'.heap[gb137]? =some (.cells #[.bool a0_0,.slice A0_1 l0_1.length c0_1,.slice A0_2 l0_2.length c0_2] 28 (0,0)))∧(w'.heap[gb138]? =some (.cells #[.bool false,.slice none 0 0,.slice none 0 0] 28 (0,0)))∧(Below w.heap.size w w')) ?_ ?_;rotate_left
   ·intro hCont
    refine two_ (i:=2) (j:=6) (Ni:=some 5) (Nj:=some 9) (lA 12 415) (lA 12 475) rfl rfl rfl rfl (two_of HT_.out (by kernel_rfl)) (by decide) (by decide) (fun K hK=>?_) (fun K hK=>?_)
    ·skip
     refine Kd.R_lit_step (Kd.int .i64) _ 3 ?hg (N:=5) ?hd (xs:=([]:List Int)) (inner:=[]) (ok:=fun _=>True) (okp:=fun _=>True) ?hr ?hp (fun _ hk=>hk) trivial (Below.refl _ _) (Nat.le_refl _) (by simp) ?_;(case hd=>rfl);(case hg=>rfl);(case hr=>first|(go_simp;done)|(go_simp;rfl));(case hp=>exact (Reps.none _ _))
     intro v140 w7 ho8 hb hg_ hnew_;clear hg_ hnew_
     (first|rw [←Ny139.out] at ho8|(simp only [Int.reduceToNat] at ho8;rw [←Ny139.out] at ho8))
     have n0_:=aK (Kd.R_lower ho8 (below_size zz10));have n1_:=aK (blk_below (g:=gb137) (o:= .cells #[.bool a0_0,.slice A0_1 l0_1.length c0_1,.slice A0_2 l0_2.length c0_2] 28 (0,0)) zz29 hb);have n2_:=aK (blk_below (g:=gb138) (o:= .cells #[.bool false,.slice none 0 0,.slice none 0 0] 28 (0,0)) zz40 hb);have n3_:=aK (below_step zz10 hb);clear BK137;clear BK138;clear HB;have HO141:=n0_;have BK137:=n1_;have BK138:=n2_;have HB:=n3_;clear n0_ n1_ n2_ n3_;clear hb ho8;refine hK.out _ _ ⟨(blk_cell BK137.out 0).trans rfl,(blk_cell BK137.out 1).trans rfl,(blk_cell BK137.out 2).trans rfl⟩ (fun hHeld=>?_);clear hK K;refine nS 5 ?_;refine two_ (i:=5) (j:=6) (Ni:=some 8) (Nj:=some 9) (lA 12 447) (lA 12 479) rfl rfl rfl rfl (two_of HT_.out (by kernel_rfl)) (by decide) (by decide) (fun K hK=>?_) (fun K hK=>?_)
     ·skip
      refine Kd.R_append_rows_step (Kd.int .i64) (w0:=w) w.heap.size (by rfl) (.tmp 5) (.tmp 7) 23 3 (.int .i64 0) 8 rfl Try.underlying23 info3 rfl (by decide) (by omega) v140 y139 l0_1 _ _ _ (fun _=>True) (fun _=>False) rfl rfl ?aO ?aR (fun _ _ h=>h) (fun _ h=>h.elim) ?aF ?aB ?aS ?aL ?_
      (case aR=>repeat (first|exact (Kd.C_below HR0_1.out HB.out)|(with_reducible refine Kd.C_alloc ?_ _)|(with_reducible refine Kd.C_drewN ?_ _)|(with_reducible refine Kd.C_drew ?_)))
      (case aB=>exact zz10)
      (case aF=>exact (fun _ _=>trivial))
      (case aO=>exact (by (with_reducible repeat (first|apply Kd.R_alloc|apply Kd.R_drewN|apply Kd.R_drew));exact HO141.out))
      (case aS=>exact (below_size zz10))
      (case aL=>have:=LMc2.out;omega)
      intro v143 w9 ho hb hg hat;rw [←Ny142.out] at ho;have n0_:=aK (blk_grown (g:=gb137) (o:= .cells #[.bool a0_0,.slice A0_1 l0_1.length c0_1,.slice A0_2 l0_2.length c0_2] 28 (0,0)) zz29 hg (Kd.R_ne HO141.out BK137.out (by decide)));have n1_:=aK (blk_grown (g:=gb138) (o:= .cells #[.bool false,.slice none 0 0,.slice none 0 0] 28 (0,0)) zz40 hg (Kd.R_ne HO141.out BK138.out (by decide)));have n2_:=aK (hb);have n3_:=aK (ho);clear BK137;clear BK138;clear HB;clear HO141;have BK137:=n0_;have BK138:=n1_;have HB:=n2_;have HO144:=n3_;clear n0_ n1_ n2_ n3_;clear ho hb hg hat;refine hK.out _ _ ⟨(blk_cell BK137.out 0).trans rfl,(blk_cell BK137.out 1).trans rfl,(blk_cell BK137.out 2).trans rfl⟩ (fun hHeld=>?_);clear hK K;refine nS 8 ?_;refine one_ (i:=6) (N:=some 9) (lA 12 511) rfl rfl (one_of HT_.out (by kernel_rfl)) (by decide) (fun K hK=>?_);refine Kd.R_lit_step (Kd.int .i64) _ 3 ?hg (N:=9) ?hd (xs:=([]:List Int)) (inner:=[]) (ok:=fun _=>True) (okp:=fun _=>True) ?hr ?hp (fun _ hk=>hk) trivial (Below.refl _ _) (Nat.le_refl _) (by simp) ?_;(case hd=>rfl);(case hg=>rfl);(case hr=>first|(go_simp;done)|(go_simp;rfl));(case hp=>exact (Reps.none _ _))
      intro v146 w10 ho11 hb hg_ hnew_;clear hg_ hnew_
      (first|rw [←Ny145.out] at ho11|(simp only [Int.reduceToNat] at ho11;rw [←Ny145.out] at ho11))
      have n0_:=aK (Kd.R_elder' (by (with_reducible repeat (first|apply Kd.R_alloc|apply Kd.R_drewN|apply Kd.R_drew));exact HO144.out) (Kd.R_base ho11) hb);have n1_:=aK (Kd.R_lower (Kd.R_new' ho11 (Kd.R_lt (by (with_reducible repeat (first|apply Kd.R_alloc|apply Kd.R_drewN|apply Kd.R_drew));exact HO144.out))) (below_size zz10));have n2_:=aK (blk_below (g:=gb137) (o:= .cells #[.bool a0_0,.slice A0_1 l0_1.length c0_1,.slice A0_2 l0_2.length c0_2] 28 (0,0)) zz29 hb);have n3_:=aK (blk_below (g:=gb138) (o:= .cells #[.bool false,.slice none 0 0,.slice none 0 0] 28 (0,0)) zz40 hb);have n4_:=aK (below_step zz10 hb);clear HO144;clear BK137;clear BK138;clear HB;have HO144:=n0_;have HO147:=n1_;have BK137:=n2_;have BK138:=n3_;have HB:=n4_;clear n0_ n1_ n2_ n3_ n4_;clear hb ho11;refine hK.out _ _ ⟨(blk_cell BK137.out 0).trans rfl,(blk_cell BK137.out 1).trans rfl,(blk_cell BK137.out 2).trans rfl⟩ (fun hHeld=>?_);clear hK K;refine nS 9 ?_;exact norm_ zz7 (hCont (v140,v143,v146) _ ⟨hHeld,(by (with_reducible repeat (first|apply Kd.R_alloc|apply Kd.R_drewN|apply Kd.R_drew));exact Kd.R_mono HO144.out (fun _ hk=>hk.2)),(by (with_reducible repeat (first|apply Kd.R_alloc|apply Kd.R_drewN|apply Kd.R_drew));exact Kd.R_mono HO147.out (fun _ hk=>hk.2)),zz29,zz40,zz10⟩)
     ·skip
      refine Kd.R_lit_step (Kd.int .i64) _ 3 ?hg (N:=9) ?hd (xs:=([]:List Int)) (inner:=[]) (ok:=fun _=>True) (okp:=fun _=>True) ?hr ?hp (fun _ hk=>hk) trivial (Below.refl _ _) (Nat.le_refl _) (by simp) ?_;(case hd=>rfl);(case hg=>rfl);(case hr=>first|(go_simp;done)|(go_simp;rfl));(case hp=>exact (Reps.none _ _))
      intro v146 w9 ho10 hb hg_ hnew_;clear hg_ hnew_
      (first|rw [←Ny145.out] at ho10|(simp only [Int.reduceToNat] at ho10;rw [←Ny145.out] at ho10))
      have n0_:=aK (Kd.R_elder' (by (with_reducible repeat (first|apply Kd.R_alloc|apply Kd.R_drewN|apply Kd.R_drew));exact HO141.out) (Kd.R_base ho10) hb);have n1_:=aK (Kd.R_lower (Kd.R_new' ho10 (Kd.R_lt (by (with_reducible repeat (first|apply Kd.R_alloc|apply Kd.R_drewN|apply Kd.R_drew));exact HO141.out))) (below_size zz10));have n2_:=aK (blk_below (g:=gb137) (o:= .cells #[.bool a0_0,.slice A0_1 l0_1.length c0_1,.slice A0_2 l0_2.length c0_2] 28 (0,0)) zz29 hb);have n3_:=aK (blk_below (g:=gb138) (o:= .cells #[.bool false,.slice none 0 0,.slice none 0 0] 28 (0,0)) zz40 hb);have n4_:=aK (below_step zz10 hb);clear HO141;clear BK137;clear BK138;clear HB;have HO141:=n0_;have HO147:=n1_;have BK137:=n2_;have BK138:=n3_;have HB:=n4_;clear n0_ n1_ n2_ n3_ n4_;clear hb ho10;refine hK.out _ _ ⟨(blk_cell BK137.out 0).trans rfl,(blk_cell BK137.out 1).trans rfl,(blk_cell BK137.out 2).trans rfl⟩ (fun hHeld=>?_);clear hK K;refine nS 9 ?_;refine one_ (i:=5) (N:=some 8) (lA 12 511) rfl rfl (one_of HT_.out (by kernel_rfl)) (by decide) (fun K hK=>?_);refine Kd.R_append_rows_step (Kd.int .i64) (w0:=w) w.heap.size (by rfl) (.tmp 5) (.tmp 7) 23 3 (.int .i64 0) 8 rfl Try.underlying23 info3 rfl (by decide) (by omega) v140 y139 l0_1 _ _ _ (fun k_=>some k_≠(v146:Value).ownBlock) (fun _=>False) rfl rfl ?aO ?aR (fun _ _ h=>h) (fun _ h=>h.elim) ?aF ?aB ?aS ?aL ?_
      (case aR=>repeat (first|exact (Kd.C_below HR0_1.out HB.out)|(with_reducible refine Kd.C_alloc ?_ _)|(with_reducible refine Kd.C_drewN ?_ _)|(with_reducible refine Kd.C_drew ?_)))
      (case aB=>exact zz10)
      (case aF=>exact (fun k_ hk=>Kd.fresh' (Kd.R_lt (by (with_reducible repeat (first|apply Kd.R_alloc|apply Kd.R_drewN|apply Kd.R_drew));exact HO147.out)) k_ hk))
      (case aO=>exact (by (with_reducible repeat (first|apply Kd.R_alloc|apply Kd.R_drewN|apply Kd.R_drew));exact Kd.R_mono HO141.out (fun _ hk=>hk.2)))
      (case aS=>exact (below_size zz10))
      (case aL=>have:=LMc2.out;omega)
      intro v143 w11 ho hb hg hat;rw [←Ny142.out] at ho;have n0_:=aK (blk_grown (g:=gb137) (o:= .cells #[.bool a0_0,.slice A0_1 l0_1.length c0_1,.slice A0_2 l0_2.length c0_2] 28 (0,0)) zz29 hg (Kd.R_ne HO141.out BK137.out (by decide)));have n1_:=aK (blk_grown (g:=gb138) (o:= .cells #[.bool false,.slice none 0 0,.slice none 0 0] 28 (0,0)) zz40 hg (Kd.R_ne HO141.out BK138.out (by decide)));have n2_:=aK (Kd.R_after (ok:=(fun _=>True)) (by (with_reducible repeat (first|apply Kd.R_alloc|apply Kd.R_drewN|apply Kd.R_drew));exact HO147.out) hg hat);have n3_:=aK (hb);have n4_:=aK (ho);clear BK137;clear BK138;clear HO147;clear HB;clear HO141;have BK137:=n0_;have BK138:=n1_;have HO147:=n2_;have HB:=n3_;have HO144:=n4_;clear n0_ n1_ n2_ n3_ n4_;clear ho hb hg hat;refine hK.out _ _ ⟨(blk_cell BK137.out 0).trans rfl,(blk_cell BK137.out 1).trans rfl,(blk_cell BK137.out 2).trans rfl⟩ (fun hHeld=>?_);clear hK K;refine nS 8 ?_;exact norm_ zz7 (hCont (v140,v143,v146) _ ⟨hHeld,(by (with_reducible repeat (first|apply Kd.R_alloc|apply Kd.R_drewN|apply Kd.R_drew));exact HO144.out),(by (with_reducible repeat (first|apply Kd.R_alloc|apply Kd.R_drewN|apply Kd.R_drew));exact Kd.R_mono HO147.out (fun _ hk=>hk.2)),zz29,zz40,zz10⟩)
    ·skip
     refine Kd.R_lit_step (Kd.int .i64) _ 3 ?hg (N:=9) ?hd (xs:=([]:List Int)) (inner:=[]) (ok:=fun _=>True) (okp:=fun _=>True) ?hr ?hp (fun _ hk=>hk) trivial (Below.refl _ _) (Nat.le_refl _) (by simp) ?_;(case hd=>rfl);(case hg=>rfl);(case hr=>first|(go_simp;done)|(go_simp;rfl));(case hp=>exact (Reps.none _ _))
     intro v146 w7 ho8 hb hg_ hnew_;clear hg_ hnew_
     (first|rw [←Ny145.out] at ho8|(simp only [Int.reduceToNat] at ho8;rw [←Ny145.out] at ho8))
     have n0_:=aK (Kd.R_lower ho8 (below_size zz10));have n1_:=aK (blk_below (g:=gb137) (o:= .cells #[.bool a0_0,.slice A0_1 l0_1.length c0_1,.slice A0_2 l0_2.length c0_2] 28 (0,0)) zz29 hb);have n2_:=aK (blk_below (g:=gb138) (o:= .cells #[.bool false,.slice none 0 0,.slice none 0 0] 28 (0,0)) zz40 hb);have n3_:=aK (below_step zz10 hb);clear BK137;clear BK138;clear HB;have HO147:=n0_;have BK137:=n1_;have BK138:=n2_;have HB:=n3_;clear n0_ n1_ n2_ n3_;clear hb ho8;refine hK.out _ _ ⟨(blk_cell BK137.out 0).trans rfl,(blk_cell BK137.out 1).trans rfl,(blk_cell BK137.out 2).trans rfl⟩ (fun hHeld=>?_);clear hK K;refine nS 9 ?_;refine one_ (i:=2) (N:=some 5) (lA 12 479) rfl rfl (one_of HT_.out (by kernel_rfl)) (by decide) (fun K hK=>?_);refine Kd.R_lit_step (Kd.int .i64) _ 3 ?hg (N:=5) ?hd (xs:=([]:List Int)) (inner:=[]) (ok:=fun _=>True) (okp:=fun _=>True) ?hr ?hp (fun _ hk=>hk) trivial (Below.refl _ _) (Nat.le_refl _) (by simp) ?_;(case hd=>rfl);(case hg=>rfl);(case hr=>first|(go_simp;done)|(go_simp;rfl));(case hp=>exact (Reps.none _ _))
     intro v140 w9 ho10 hb hg_ hnew_;clear hg_ hnew_
     (first|rw [←Ny139.out] at ho10|(simp only [Int.reduceToNat] at ho10;rw [←Ny139.out] at ho10))
     have n0_:=aK (Kd.R_elder' (by (with_reducible repeat (first|apply Kd.R_alloc|apply Kd.R_drewN|apply Kd.R_drew));exact HO147.out) (Kd.R_base ho10) hb);have n1_:=aK (Kd.R_lower (Kd.R_new' ho10 (Kd.R_lt (by (with_reducible repeat (first|apply Kd.R_alloc|apply Kd.R_drewN|apply Kd.R_drew));exact HO147.out))) (below_size zz10));have n2_:=aK (blk_below (g:=gb137) (o:= .cells #[.bool a0_0,.slice A0_1 l0_1.length c0_1,.slice A0_2 l0_2.length c0_2] 28 (0,0)) zz29 hb);have n3_:=aK (blk_below (g:=gb138) (o:= .cells #[.bool false,.slice none 0 0,.slice none 0 0] 28 (0,0)) zz40 hb);have n4_:=aK (below_step zz10 hb);clear HO147;clear BK137;clear BK138;clear HB;have HO147:=n0_;have HO141:=n1_;have BK137:=n2_;have BK138:=n3_;have HB:=n4_;clear n0_ n1_ n2_ n3_ n4_;clear hb ho10;refine hK.out _ _ ⟨(blk_cell BK137.out 0).trans rfl,(blk_cell BK137.out 1).trans rfl,(blk_cell BK137.out 2).trans rfl⟩ (fun hHeld=>?_);clear hK K;refine nS 5 ?_;refine one_ (i:=5) (N:=some 8) (lA 12 511) rfl rfl (one_of HT_.out (by kernel_rfl)) (by decide) (fun K hK=>?_);refine Kd.R_append_rows_step (Kd.int .i64) (w0:=w) w.heap.size (by rfl) (.tmp 5) (.tmp 7) 23 3 (.int .i64 0) 8 rfl Try.underlying23 info3 rfl (by decide) (by omega) v140 y139 l0_1 _ _ _ (fun k_=>some k_≠(v146:Value).ownBlock) (fun _=>False) rfl rfl ?aO ?aR (fun _ _ h=>h) (fun _ h=>h.elim) ?aF ?aB ?aS ?aL ?_
     (case aR=>repeat (first|exact (Kd.C_below HR0_1.out HB.out)|(with_reducible refine Kd.C_alloc ?_ _)|(with_reducible refine Kd.C_drewN ?_ _)|(with_reducible refine Kd.C_drew ?_)))
     (case aB=>exact zz10)
     (case aF=>exact (fun k_ hk=>Kd.fresh' (Kd.R_lt (by (with_reducible repeat (first|apply Kd.R_alloc|apply Kd.R_drewN|apply Kd.R_drew));exact HO147.out)) k_ hk))
     (case aO=>exact (by (with_reducible repeat (first|apply Kd.R_alloc|apply Kd.R_drewN|apply Kd.R_drew));exact Kd.R_mono HO141.out (fun _ hk=>hk.2)))
     (case aS=>exact (below_size zz10))
     (case aL=>have:=LMc2.out;omega)
     intro v143 w11 ho hb hg hat;rw [←Ny142.out] at ho;have n0_:=aK (blk_grown (g:=gb137) (o:= .cells #[.bool a0_0,.slice A0_1 l0_1.length c0_1,.slice A0_2 l0_2.length c0_2] 28 (0,0)) zz29 hg (Kd.R_ne HO141.out BK137.out (by decide)));have n1_:=aK (blk_grown (g:=gb138) (o:= .cells #[.bool false,.slice none 0 0,.slice none 0 0] 28 (0,0)) zz40 hg (Kd.R_ne HO141.out BK138.out (by decide)));have n2_:=aK (Kd.R_after (ok:=(fun _=>True)) (by (with_reducible repeat (first|apply Kd.R_alloc|apply Kd.R_drewN|apply Kd.R_drew));exact HO147.out) hg hat);have n3_:=aK (hb);have n4_:=aK (ho);clear BK137;clear BK138;clear HO147;clear HB;clear HO141;have BK137:=n0_;have BK138:=n1_;have HO147:=n2_;have HB:=n3_;have HO144:=n4_;clear n0_ n1_ n2_ n3_ n4_;clear ho hb hg hat;refine hK.out _ _ ⟨(blk_cell BK137.out 0).trans rfl,(blk_cell BK137.out 1).trans rfl,(blk_cell BK137.out 2).trans rfl⟩ (fun hHeld=>?_);clear hK K;refine nS 8 ?_;exact norm_ zz7 (hCont (v140,v143,v146) _ ⟨hHeld,(by (with_reducible repeat (first|apply Kd.R_alloc|apply Kd.R_drewN|apply Kd.R_drew));exact HO144.out),(by (with_reducible repeat (first|apply Kd.R_alloc|apply Kd.R_drewN|apply Kd.R_drew));exact Kd.R_mono HO147.out (fun _ hk=>hk.2)),zz29,zz40,zz10⟩)
   rintro ⟨v140,v143,v146⟩ w12 ⟨hS_,h0_,h1_,h2_,h3_,h4_⟩;have n0_:Aside0 (Kd.R (Kd.int .i64) 3 w12 w.heap.size (fun k_=>some k_≠(v146:Value).ownBlock) v143 y142):=⟨h0_⟩
   have n1_:Aside0 (Kd.R (Kd.int .i64) 3 w12 w.heap.size (fun k_=>some k_≠(v143:Value).ownBlock) v146 y145):=⟨h1_⟩
   have n2_:Aside0 (w12.heap[gb137]? =some (.cells #[.bool a0_0,.slice A0_1 l0_1.length c0_1,.slice A0_2 l0_2.length c0_2] 28 (0,0))):=⟨h2_⟩
   have n3_:Aside0 (w12.heap[gb138]? =some (.cells #[.bool false,.slice none 0 0,.slice none 0 0] 28 (0,0))):=⟨h3_⟩
   have n4_:Aside0 (Below w.heap.size w w12):=⟨h4_⟩
   clear BK137;clear BK138;clear HB;clear h0_ h1_ h2_ h3_ h4_;have HO144:=n0_;have HO147:=n1_;have BK137:=n2_;have BK138:=n3_;have HB:=n4_;clear n0_ n1_ n2_ n3_ n4_;have hHeld:w12.cell? ⟨gb137,0,none⟩=some (.bool a0_0)∧w12.cell? ⟨gb137,1,none⟩=some (.slice A0_1 l0_1.length c0_1)∧w12.cell? ⟨gb137,2,none⟩=some (.slice A0_2 l0_2.length c0_2):=hS_
   refine norm_ (a':=?_) ?_ ?_;rotate_left
   ·simp only [putAll, Act.put, List.setIfInBounds_toArray, List.set_cons_zero, List.set_cons_succ]
    rfl
   refine one_ (i:=9) (N:=some 12) (lA 12 1023) rfl rfl (one_of HT_.out (by kernel_rfl)) (by decide) (fun K hK=>?_);refine Kd.R_append_rows_step (Kd.int .i64) (w0:=w) w.heap.size (by rfl) (.tmp 9) (.tmp 11) 23 3 (.int .i64 0) 8 rfl Try.underlying23 info3 rfl (by decide) (by omega) v146 y145 l0_2 _ _ _ (fun k_=>some k_≠(v143:Value).ownBlock) (fun _=>False) rfl rfl ?aO ?aR (fun _ _ h=>h) (fun _ h=>h.elim) ?aF ?aB ?aS ?aL ?_
   (case aR=>repeat (first|exact (Kd.C_below HR0_2.out HB.out)|(with_reducible refine Kd.C_alloc ?_ _)|(with_reducible refine Kd.C_drewN ?_ _)|(with_reducible refine Kd.C_drew ?_)))
   (case aB=>exact zz10)
   (case aF=>exact (fun k_ hk=>Kd.fresh' (Kd.R_lt (by (with_reducible repeat (first|apply Kd.R_alloc|apply Kd.R_drewN|apply Kd.R_drew));exact HO144.out)) k_ hk))
   (case aO=>exact (by (with_reducible repeat (first|apply Kd.R_alloc|apply Kd.R_drewN|apply Kd.R_drew));exact HO147.out))
   (case aS=>exact (below_size zz10))
   (case aL=>have:=LMc3.out;omega)
   intro v149 w13 ho hb hg hat;rw [←Ny148.out] at ho;have n0_:=aK (blk_grown (g:=gb137) (o:= .cells #[.bool a0_0,.slice A0_1 l0_1.length c0_1,.slice A0_2 l0_2.length c0_2] 28 (0,0)) zz29 hg (Kd.R_ne HO147.out BK137.out (by decide)));have n1_:=aK (blk_grown (g:=gb138) (o:= .cells #[.bool false,.slice none 0 0,.slice none 0 0] 28 (0,0)) zz40 hg (Kd.R_ne HO147.out BK138.out (by decide)));have n2_:=aK (Kd.R_after (ok:=(fun _=>True)) (by (with_reducible repeat (first|apply Kd.R_alloc|apply Kd.R_drewN|apply Kd.R_drew));exact Kd.R_mono HO144.out (fun _ hk=>⟨trivial,hk⟩)) hg hat);have n3_:=aK (hb);have n4_:=aK (ho);clear BK137;clear BK138;clear HO144;clear HB;clear HO147;have BK137:=n0_;have BK138:=n1_;have HO144:=n2_;have HB:=n3_;have HO150:=n4_;clear n0_ n1_ n2_ n3_ n4_;clear ho hb hg hat;obtain ⟨Ao14,co14,eo14⟩:=Kd.R_slice HO150.out
   (first|subst eo14|(injection eo14 with f1_ f2_ f3_;have f4_:=f1_.symm;have f5_:=f3_.symm;clear f1_ f2_ f3_;subst f4_;subst f5_))
   obtain ⟨Ao15,co15,eo15⟩:=Kd.R_slice HO144.out
   (first|subst eo15|(injection eo15 with f1_ f2_ f3_;have f4_:=f1_.symm;have f5_:=f3_.symm;clear f1_ f2_ f3_;subst f4_;subst f5_))
   refine hK.out _ _ ⟨(blk_cell BK137.out 0).trans rfl,(blk_cell BK137.out 1).trans rfl,(blk_cell BK137.out 2).trans rfl⟩ (fun hHeld=>?_);clear hK K;refine nS 12 ?_;refine pT 10 13 (lA 12 2047) HT_ ?_;refine one_ (i:=11) (N:=none) (lA 12 4095) rfl rfl (one_of HT_.out (by kernel_rfl)) (by decide) (fun K hK=>?_);have hs16:w13.cell? ⟨gb138,0,none⟩=some (.bool false):=(blk_cell BK138.out 0).trans rfl
   have hfs16:=blk_frozen BK138.out 0;have hns16_0:=NB137_138.out;have hms16_0:=NB138_137.out;have hs17:w13.cell? ⟨gb138,1,none⟩=some (.slice none 0 0):=(blk_cell BK138.out 1).trans rfl
   have hfs17:=blk_frozen BK138.out 1;have hns17_0:=NB137_138.out;have hms17_0:=NB138_137.out;have hs18:w13.cell? ⟨gb138,2,none⟩=some (.slice none 0 0):=(blk_cell BK138.out 2).trans rfl
   have hfs18:=blk_frozen BK138.out 2;have hns18_0:=NB137_138.out;have hms18_0:=NB138_137.out;refine skip_ (w1:=?_) (by rfl) rfl ?_ ?_;rotate_left
   ·go_simp
    rfl
   refine hK.out _ _ ⟨((cell_far (p:=⟨gb138,_,none⟩) NB137_138.out _).trans (((cell_far (p:=⟨gb138,_,none⟩) NB137_138.out _).trans (((cell_far (p:=⟨gb138,_,none⟩) NB137_138.out _).trans (hHeld.1)))))),((cell_far (p:=⟨gb138,_,none⟩) NB137_138.out _).trans (((cell_far (p:=⟨gb138,_,none⟩) NB137_138.out _).trans (((cell_far (p:=⟨gb138,_,none⟩) NB137_138.out _).trans (hHeld.2.1)))))),((cell_far (p:=⟨gb138,_,none⟩) NB137_138.out _).trans (((cell_far (p:=⟨gb138,_,none⟩) NB137_138.out _).trans (((cell_far (p:=⟨gb138,_,none⟩) NB137_138.out _).trans (hHeld.2.2))))))⟩ (fun hHeld=>?_);clear hK K;refine done_ (done_of HT_.out (by kernel_rfl)) ?_;try go_wp2
   refine bodyPost_ret (results_cell_row rfl _ _ gb138 28 #[.bool a0_0,.slice Ao15 y142.length co15,.slice Ao14 y148.length co14] (0,0) _ rfl (by (with_reducible repeat (first|refine blk_drewN ?_ _|refine blk_drew ?_|refine blk_alloc ?_ _));refine blk_put (cs:= #[.bool a0_0,.slice Ao15 y142.length co15,.slice none 0 0]) ?_ 2 _ rfl;(with_reducible repeat (first|refine blk_drewN ?_ _|refine blk_drew ?_|refine blk_alloc ?_ _));refine blk_put (cs:= #[.bool a0_0,.slice none 0 0,.slice none 0 0]) ?_ 1 _ rfl;(with_reducible repeat (first|refine blk_drewN ?_ _|refine blk_drew ?_|refine blk_alloc ?_ _));refine blk_put (cs:= #[.bool false,.slice none 0 0,.slice none 0 0]) ?_ 0 _ rfl;(with_reducible repeat (first|refine blk_drewN ?_ _|refine blk_drew ?_|refine blk_alloc ?_ _));exact BK138.out) Try.underlying28 rfl (by kernel_rfl)) rfl ?_;exact ⟨_,_,by first|rfl|(simp [errW_none,errW_some]<;>rfl)|(simp [*,errW_none,errW_some]<;>rfl),by (with_reducible repeat (first|apply Kd.R_alloc|apply Kd.R_drewN|apply Kd.R_drew));exact Kd.R_mono (Kd.R_far (p:=⟨gb138,2,none⟩) (Kd.R_far (p:=⟨gb138,1,none⟩) (Kd.R_far (p:=⟨gb138,0,none⟩) (Kd.R_types HO144.out BK138.out (by decide)) (fun _ hk=>hk.2) (.bool a0_0)) (fun _ hk=>hk.2) (.slice Ao15 y142.length co15)) (fun _ hk=>hk.2) (.slice Ao14 y148.length co14)) (fun _ hk=>hk.1.2),by (with_reducible repeat (first|apply Kd.R_alloc|apply Kd.R_drewN|apply Kd.R_drew));exact Kd.R_mono (Kd.R_far (p:=⟨gb138,2,none⟩) (Kd.R_far (p:=⟨gb138,1,none⟩) (Kd.R_far (p:=⟨gb138,0,none⟩) (Kd.R_types HO150.out BK138.out (by decide)) (fun _ hk=>hk.2) (.bool a0_0)) (fun _ hk=>hk.2) (.slice Ao15 y142.length co15)) (fun _ hk=>hk.2) (.slice Ao14 y148.length co14)) (fun _ hk=>hk.1),by repeat (first|(with_reducible first|exact HB.out|apply below_alloc|apply pw_below_drewN|apply below_drew1|refine below_set ?_ GE137.out|refine below_set ?_ GE138.out)|exact HB.out)⟩
  ·rw [if_neg c3] at H
   exact absurd H (by simp)
 ·rw [if_neg c2] at H
  exact absurd H (by simp)
end Go.Proofs.Ytehefmgplkolaaa.K
namespace Go.Proofs.Ytehefmgplkolaaa.K
open Go.RowKit Go.Proofs.YtehefmgplkolaaaW.PrintWords Go.Proofs.YtehefmgplkolaaaW.PrintLast Go.Proofs.YtehefmgplkolaaaW.PrintMore
attribute [local go_sem] max2_int min2_int max_two min_two max_three min_three max_four min_four
set_option linter.unusedVariables false
set_option linter.unusedSimpArgs false
def spec_l2Ref.f (a0:Int):Option (Bool):=some (decide (a0≥2))
set_option maxHeartbeats 8000000 in
set_option maxRecDepth 100000 in
theorem spec_l2Ref.calls (a0:Int) (r:Bool) (w:World) (h:spec_l2Ref.f a0=some r):
  Calls Try.prog 49 #[.int .i64 a0] w fun e w'=>e= .returned (.bool r)∧Drawn0 w w':=by
 have H:(some (decide (a0≥2)))=some r:=h
 clear h;obtain rfl:=Option.some.inj H;go_enter Try.func49,Try.ntmps49;go_wp2;go_ret;exact ⟨zz9,zz31⟩
end Go.Proofs.Ytehefmgplkolaaa.K
namespace Go.Proofs.Ytehefmgplkolaaa.K
open Go.RowKit Go.Proofs.YtehefmgplkolaaaW.PrintWords Go.Proofs.YtehefmgplkolaaaW.PrintLast Go.Proofs.YtehefmgplkolaaaW.PrintMore
attribute [local go_sem] max2_int min2_int max_two min_two max_three min_three max_four min_four
set_option linter.unusedVariables false
set_option linter.unusedSimpArgs false
def spec_l2Up.l0:Nat→List (S48)→Int→Int→Option (Bool)
  |0,_,_,_=>none
  |k+1,x0,x1,x2=>if x1>x2 then (if 0≤x1 then (if x1<(x0.length:Int) then (spec_l2Up.l0 k x0 ((rd_T48 x0 x1).f0) x2) else (none)) else (none)) else (some (x1==x2))
def spec_l2Up.f (k:Nat) (l0:List (S48)) (a1:Int) (a2:Int):Option (Bool):=spec_l2Up.l0 k l0 a1 a2
set_option maxHeartbeats 8000000 in
set_option maxRecDepth 100000 in
theorem spec_l2Up.calls (k:Nat) (A0:Option Addr) (c0:Nat) (l0:List (S48)) (a1:Int) (a2:Int) (r:Bool) (w:World) (hr0:Kd.C k48 w A0 l0.length l0) (hc0:l0.length≤c0) (h:spec_l2Up.f k l0 a1 a2=some r):
  Calls Try.prog 62 #[.slice A0 l0.length c0,.int .i64 a1,.int .i64 a2] w fun e w'=>e= .returned (.bool r)∧Drawn0 w w':=by
 have HR0:=aK hr0;have HC0:=aK hc0;clear hr0 hc0;have H:(spec_l2Up.l0 k l0 a1 a2)=some r:=h
 clear h;have H':=aK H;clear H;go_enter Try.func62,Try.ntmps62;go_wp2
 go_loopg [1] k (fun kq v1 w'=> ∃(x1_1:Int),v1= .int .i64 x1_1∧Aside0 (spec_l2Up.l0 kq l0 x1_1 a2=some r)∧Aside0 (kq≤k)∧Drawn0 w w')
 case atStart=>exact ⟨(a1),zz9,H',⟨Nat.le_refl _⟩,by repeat (first|exact Drawn0.refl _|apply Drawn0.step)⟩
 case round =>
  clear H';(try clear p2);obtain ⟨x1_1,rfl,HA,HK1,⟨m1,rfl⟩⟩:=hrel
  cases gk with
  |zero=>exact absurd HA.out (by simp [spec_l2Up.l0])
  | succ k1 =>
   have H:=HA.out;clear HA;simp only [spec_l2Up.l0] at H;by_cases c4:x1_1>a2
   ·rw [if_pos c4] at H
    have c4b0:decide (a2<x1_1)=true:=decide_eq_true c4
    clear c4;by_cases c5:0≤x1_1
    ·rw [if_pos c5] at H
     have c5b0:decide (0≤x1_1)=true:=decide_eq_true c5
     clear c5;by_cases c6:x1_1<(l0.length:Int)
     ·rw [if_pos c6] at H
      have c6b0:decide (x1_1<(l0.length:Int))=true:=decide_eq_true c6
      clear c6;have H':=aK H;clear H;have p151:0≤(x1_1:Int):=of_decide_eq_true zz6
      have q151:x1_1<(l0.length:Int):=of_decide_eq_true zz6
      obtain ⟨ad151,A151_1,c151_1,e151,hx151_0,hx151_1,hl151_1,hi151_1⟩:=at_T48 HR0.out x1_1 p151 q151
      cases e151
      have HR151_1:=aK hi151_1;have HC151_1:=aK hl151_1;clear hi151_1 hl151_1;replace p151:=eq_true p151;replace q151:=eq_true q151;go_wp2
      go_roundg k1
      case measure=>have:=HK1.out;omega
      case rel=>exact ⟨((rd_T48 l0 x1_1).f0),zz9,H',⟨by have:=HK1.out;omega⟩,by repeat (first|exact Drawn0.refl _|apply Drawn0.step)⟩
     ·rw [if_neg c6] at H
      exact absurd H (by simp)
    ·rw [if_neg c5] at H
     exact absurd H (by simp)
   ·rw [if_neg c4] at H
    have c4b0:decide (a2<x1_1)=false:=decide_eq_false c4
    clear c4;obtain rfl:=Option.some.inj H;go_wp2;go_ret;exact ⟨zz9,zz31⟩
end Go.Proofs.Ytehefmgplkolaaa.K
namespace Go.Proofs.Ytehefmgplkolaaa.K
open Go.RowKit Go.Proofs.YtehefmgplkolaaaW.PrintWords Go.Proofs.YtehefmgplkolaaaW.PrintLast Go.Proofs.YtehefmgplkolaaaW.PrintMore
attribute [local go_sem] max2_int min2_int max_two min_two max_three min_three max_four min_four
set_option linter.unusedVariables false
set_option linter.unusedSimpArgs false
mutual
def spec_l2In.j0:Nat→List (S48)→Int→Int→Bool→Option (Bool)
 |0,_,_,_,_=>none
 |k+1,x0,x1,x2,x13=>if x13=true then (some true) else (if x1=2 then ((spec_l2Ref.f x2).bind fun t152=>(some t152)) else ((spec_l2Ref.f x1).bind fun t153=>(if t153=true then (spec_l2In.j1 k x0 x1 x2 (decide (x2<8))) else (spec_l2In.j1 k x0 x1 x2 true))))
def spec_l2In.j1:Nat→List (S48)→Int→Int→Bool→Option (Bool)
 |0,_,_,_,_=>none
 |k+1,x0,x1,x2,x24=>if x24=true then (some false) else (if x1<8 then (some (x2==8)) else ((spec_l2Up.f k x0 (wrap64 (x1 - 8)) (wrap64 (x2 - 8))).bind fun t154=>(some t154)))
end
def spec_l2In.f (k:Nat) (l0:List (S48)) (a1:Int) (a2:Int):Option (Bool):=if a1=a2 then (spec_l2In.j0 k l0 a1 a2 true) else (spec_l2In.j0 k l0 a1 a2 (a2==0))
set_option maxHeartbeats 8000000 in
set_option maxRecDepth 100000 in
theorem spec_l2In.calls (k : Nat) (A0 : Option Addr) (c0 : Nat) (l0 : List (S48)) (a1 : Int) (a2 : Int) (r : Bool) (w : World) (hr0 : Kd.C k48 w A0 l0.length l0) (hc0 : l0.length ≤ c0) (h : spec_l2In.f k l0 a1 a2 = some r) :
  Calls Try.prog 48 #[.slice A0 l0.length c0,.int .i64 a1,.int .i64 a2] w fun e w'=>e= .returned (.bool r)∧Drawn0 w w':=by
 have HR0:=aK hr0;have HC0:=aK hc0;clear hr0 hc0;have H:(if a1=a2 then (spec_l2In.j0 k l0 a1 a2 true) else (spec_l2In.j0 k l0 a1 a2 (a2==0)))=some r:=h
 clear h;have HC4:=aK H;clear H;go_enter Try.func48,Try.ntmps48
 go_upto_region 1 with (fail)
 go_cut [13] (fun v13 wc=> ∃(kq:Nat) (x13_3:Bool),v13= .bool x13_3∧Aside0 (spec_l2In.j0 kq l0 a1 a2 x13_3=some r)∧Aside0 (kq≤k)∧Drawn0 w wc)
 case first=>
  have H:=HC4.out;clear HC4;by_cases c5:a1=a2
  ·rw [if_pos c5] at H
   have c5b0:(a1==a2)=true:=beq_iff_eq.mpr c5
   have c5b1:(a1 !=a2)=false:=bne_eq_false_iff_eq.mpr c5
   clear c5
   (first|rw [c5b0]|(simp only [i64_w,i32_w];rw [c5b0])|skip)
   have H':=aK H;clear H;go_wp2;go_meet
   case rel=>exact ⟨_,(true),zz9,H',⟨by first|omega|exact Nat.le_refl _⟩,by repeat (first|exact Drawn0.refl _|apply Drawn0.step)⟩
  ·rw [if_neg c5] at H
   have c5b0:(a1==a2)=false:=beq_eq_false_iff_ne.mpr c5
   have c5b1:(a1 !=a2)=true:=bne_iff_ne.mpr c5
   (first|rw [c5b0]|(simp only [i64_w,i32_w];rw [c5b0])|skip)
   have H':=aK H;clear H;go_wp2;go_meet
   case rel=>exact ⟨_,((a2==0)),zz9,H',⟨by first|omega|exact Nat.le_refl _⟩,by repeat (first|exact Drawn0.refl _|apply Drawn0.step)⟩
 case rest =>
  clear HC4;(try clear p2);(try clear c4);(try clear c5);(try clear c5b0);(try clear c5b1);obtain ⟨kq,x13_3,rfl,HA,HJ3,⟨mc3,rfl⟩⟩:=hcut
  cases kq with
  |zero=>exact absurd HA.out (by simp [spec_l2In.j0])
  | succ kj3 =>
   have H:=HA.out;clear HA;simp only [spec_l2In.j0] at H;by_cases c6:x13_3=true
   ·subst c6
    rw [if_pos rfl] at H;obtain rfl:=Option.some.inj H;go_wp2;go_ret;exact ⟨zz9,zz31⟩
   ·replace c6 := Bool.eq_false_iff.mpr c6
    subst c6;rw [if_neg (show¬(false=true) by decide)] at H;by_cases c7:a1=2
    ·rw [if_pos c7] at H
     have c7b0:(a1==2)=true:=beq_iff_eq.mpr c7
     have c7b1:(a1 !=2)=false:=bne_eq_false_iff_eq.mpr c7
     clear c7;replace H:=Option.bind_eq_some_iff.mp H;obtain ⟨t152,A80,H⟩:=H;(try dsimp only at H);have A8:=aK A80;clear A80;obtain rfl:=Option.some.inj H
     go_wp2_with (first|((with_reducible refine gate_callee (f:=49) rfl ?_);refine goesL_ (some 17) rfl rfl Try.func49 (by kernel_rfl) rfl #[.int .i64 a2] rfl zz2 ?_;(with_reducible refine (spec_l2Ref.calls a2 t152 _ A8.out).mono ?_);rintro e w' ⟨rfl,⟨nd,rfl⟩⟩;refine ⟨_,rfl,?_⟩))
     go_ret;exact ⟨zz9,zz31⟩
    ·rw [if_neg c7] at H
     have c7b0:(a1==2)=false:=beq_eq_false_iff_ne.mpr c7
     have c7b1:(a1 !=2)=true:=bne_iff_ne.mpr c7
     have HC9:=aK H;clear H
     go_upto_region 5 with (fail)
     go_cut [24] (fun v24 wc=> ∃(kq:Nat) (x24_8:Bool),v24= .bool x24_8∧Aside0 (spec_l2In.j1 kq l0 a1 a2 x24_8=some r)∧Aside0 (kq≤kj3)∧Drawn0 w wc)
     case first=>
      have H:=HC9.out;clear HC9;replace H:=Option.bind_eq_some_iff.mp H;obtain ⟨t153,A100,H⟩:=H;(try dsimp only at H);have A10:=aK A100;clear A100;by_cases c11:t153=true
      ·subst c11
       rw [if_pos rfl] at H;have H':=aK H;clear H
       go_wp2_with (first|((with_reducible refine gate_callee (f:=49) rfl ?_);refine goesL_ (some 19) rfl rfl Try.func49 (by kernel_rfl) rfl #[.int .i64 a1] rfl zz2 ?_;(with_reducible refine (spec_l2Ref.calls a1 true _ A10.out).mono ?_);rintro e w' ⟨rfl,⟨nd,rfl⟩⟩;refine ⟨_,rfl,?_⟩))
       go_meet
       case rel=>exact ⟨_,(decide (a2<8)),zz9,H',⟨by have:=HJ3.out;first|omega|exact Nat.le_refl _⟩,by repeat (first|exact Drawn0.refl _|apply Drawn0.step)⟩
      ·replace c11 := Bool.eq_false_iff.mpr c11
       subst c11;rw [if_neg (show¬(false=true) by decide)] at H;have H':=aK H;clear H
       go_wp2_with (first|((with_reducible refine gate_callee (f:=49) rfl ?_);refine goesL_ (some 19) rfl rfl Try.func49 (by kernel_rfl) rfl #[.int .i64 a1] rfl zz2 ?_;(with_reducible refine (spec_l2Ref.calls a1 false _ A10.out).mono ?_);rintro e w' ⟨rfl,⟨nd,rfl⟩⟩;refine ⟨_,rfl,?_⟩))
       go_meet
       case rel=>exact ⟨_,(true),zz9,H',⟨by have:=HJ3.out;first|omega|exact Nat.le_refl _⟩,by repeat (first|exact Drawn0.refl _|apply Drawn0.step)⟩
     case rest=>
      clear HC9;(try clear c1);(try clear p2);(try clear c3);(try clear c4);(try clear c5);(try clear c5b0);(try clear c5b1);(try clear c6);(try clear c7);(try clear c7b0);(try clear c7b1);(try clear c11);(try clear p2);obtain ⟨kq,x24_8,rfl,HA,HJ8,⟨mc8,rfl⟩⟩:=hcut
      cases kq with
      |zero=>exact absurd HA.out (by simp [spec_l2In.j1])
      | succ kj8 =>
       have H:=HA.out;clear HA;simp only [spec_l2In.j1] at H;by_cases c12:x24_8=true
       ·subst c12
        rw [if_pos rfl] at H;obtain rfl:=Option.some.inj H;go_wp2;go_ret;exact ⟨zz9,zz31⟩
       ·replace c12 := Bool.eq_false_iff.mpr c12
        subst c12;rw [if_neg (show¬(false=true) by decide)] at H;by_cases c13:a1<8
        ·rw [if_pos c13] at H
         have c13b0:decide (a1<8)=true:=decide_eq_true c13
         clear c13;obtain rfl:=Option.some.inj H;go_wp2;go_ret;exact ⟨zz9,zz31⟩
        ·rw [if_neg c13] at H
         have c13b0:decide (a1<8)=false:=decide_eq_false c13
         clear c13;replace H:=Option.bind_eq_some_iff.mp H;obtain ⟨t154,A140,H⟩:=H;(try dsimp only at H);have A14:=aK A140;clear A140;obtain rfl:=Option.some.inj H
         go_wp2_with (first|((with_reducible refine gate_callee (f:=62) rfl ?_);refine goesL_ (some 34) rfl rfl Try.func62 (by kernel_rfl) rfl #[.slice A0 l0.length c0,.int .i64 (wrap64 (a1 - 8)),.int .i64 (wrap64 (a2 - 8))] rfl zz2 ?_;(with_reducible refine (spec_l2Up.calls kj8 _ _ l0 (wrap64 (a1 - 8)) (wrap64 (a2 - 8)) t154 _ ?side1 ?side2 A14.out).mono ?_);(case side1=>exact zz22);(case side2=>exact HC0.out);rintro e w' ⟨rfl,⟨nd,rfl⟩⟩;refine ⟨_,rfl,?_⟩))
         go_ret;exact ⟨zz9,zz31⟩
end Go.Proofs.Ytehefmgplkolaaa.K
