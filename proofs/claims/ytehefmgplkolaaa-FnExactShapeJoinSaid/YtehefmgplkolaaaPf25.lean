import Derived.Test.YtehefmgplkolaaaPf24
namespace Go.Proofs.Ytehefmgplkolaaa.K
open Go.RowKit Go.Proofs.YtehefmgplkolaaaW.PrintWords Go.Proofs.YtehefmgplkolaaaW.PrintLast Go.Proofs.YtehefmgplkolaaaW.PrintMore
attribute [local go_sem] max2_int min2_int max_two min_two max_three min_three max_four min_four
set_option linter.unusedVariables false
set_option linter.unusedSimpArgs false
mutual
def impl_shapeOk.j0:Nat→List (S48)→Bool→Bool→List Int→List Int→Option (Bool)
 |0,_,_,_,_,_=>none
 |k+1,x0,x34,x253000,x253001,x253002=>if x34=true then (some false) else (impl_shapeOk.l0 k x0 x253001 (x253001.length:Int) 0 x253000 x253001 x253002)
def impl_shapeOk.l0:Nat→List (S48)→List Int→Int→Int→Bool→List Int→List Int→Option (Bool)
 |0,_,_,_,_,_,_,_=>none
 |k+1,x0,x36,x37,x38,x253000,x253001,x253002=>if x38<x37 then (if 0≤x38 then (if x38<(x36.length:Int) then ((kOkF.f (x0.length:Int) (rd x36 x38)).bind fun t254=>(if t254=true then (impl_shapeOk.l0 k x0 x36 x37 (wrap64 (x38+1)) x253000 x253001 x253002) else (some false))) else (none)) else (none)) else (impl_shapeOk.l1 k x0 x253002 (x253002.length:Int) 0)
def impl_shapeOk.l1:Nat→List (S48)→List Int→Int→Int→Option (Bool)
 |0,_,_,_,_=>none
 |k+1,x0,x49,x50,x51=>if x51<x50 then (if 0≤x51 then (if x51<(x49.length:Int) then (if (rd x49 x51)=0 then (some false) else ((kOkF.f (x0.length:Int) (rd x49 x51)).bind fun t256=>(if t256=true then (impl_shapeOk.l1 k x0 x49 x50 (wrap64 (x51+1))) else (some false)))) else (none)) else (none)) else (some true)
end
def impl_shapeOk.f (k:Nat) (l0:List (S48)) (a1:Int) (a2_0:Bool) (l2_1:List Int) (l2_2:List Int):Option (Bool):=if a2_0=true then (if (l2_1.length:Int)=a1 then (impl_shapeOk.j0 k l0 (decide ((l2_2.length:Int)>4)) a2_0 l2_1 l2_2) else (impl_shapeOk.j0 k l0 true a2_0 l2_1 l2_2)) else (if (l2_1.length:Int)=0 then (some ((l2_2.length:Int)==0)) else (some false))
set_option maxHeartbeats 8000000 in
set_option maxRecDepth 100000 in
theorem impl_shapeOk.calls (k : Nat) (A0 : Option Addr) (c0 : Nat) (l0 : List (S48)) (a1 : Int) (a2_0 : Bool) (A2_1 : Option Addr) (c2_1 : Nat) (l2_1 : List Int) (A2_2 : Option Addr) (c2_2 : Nat) (l2_2 : List Int) (r : Bool) (w : World) (hr0 : Kd.C k48 w A0 l0.length l0) (hc0 : l0.length ≤ c0) (hr2_1 : Kd.C (Kd.int .i64) w A2_1 l2_1.length l2_1) (hc2_1 : l2_1.length ≤ c2_1) (hr2_2 : Kd.C (Kd.int .i64) w A2_2 l2_2.length l2_2) (hc2_2 : l2_2.length ≤ c2_2) (h : impl_shapeOk.f k l0 a1 a2_0 l2_1 l2_2 = some r) :
  Calls Try.prog 52 #[.slice A0 l0.length c0,.int .i64 a1,.agg #[.bool a2_0,.slice A2_1 l2_1.length c2_1,.slice A2_2 l2_2.length c2_2]] w fun e w'=>e= .returned (.bool r)∧Below w.heap.size w w':=by
 have hu28:=Try.underlying28;have HR0:=aK hr0;have HC0:=aK hc0;clear hr0 hc0;have HR2_1:=aK hr2_1;have HC2_1:=aK hc2_1;clear hr2_1 hc2_1;have HR2_2:=aK hr2_2;have HC2_2:=aK hc2_2;clear hr2_2 hc2_2;have HB:=aK (Below.refl w.heap.size w);have H:(if a2_0=true then (if (l2_1.length:Int)=a1 then (impl_shapeOk.j0 k l0 (decide ((l2_2.length:Int)>4)) a2_0 l2_1 l2_2) else (impl_shapeOk.j0 k l0 true a2_0 l2_1 l2_2)) else (if (l2_1.length:Int)=0 then (some ((l2_2.length:Int)==0)) else (some false)))=some r:=h
 clear h;by_cases c4:a2_0=true
 ·subst c4
  rw [if_pos rfl] at H;have HC5:=aK H;clear H;go_enter Try.func52,Try.ntmps52
  go_upto_region 3 with (first|((with_reducible refine gate_dst (N:=5) rfl ?_);(try (refine gate_guard (by rfl) ?_;dsimp only));refine box_event ?hg (N:=5) ?hd (cs:= #[.bool true,.slice A2_1 l2_1.length c2_1,.slice A2_2 l2_2.length c2_2]) (t:=28) ?hr ?_;(case hd=>rfl);(case hg=>rfl);(case hr=>first|(go_simp;done)|(go_simp;rfl));intro gb252 hg w6 hbox hb;have BK252:=aK (hbox);have GW252:=aK ((by rw [hg];exact (below_size zz1):w.heap.size≤gb252));have GE252:=aK ((by rw [hg];exact (below_size zz1):w.heap.size≤gb252));replace HB:=aK (below_step zz1 hb);clear hb hbox hg;obtain ⟨hcz7_0,hcz7_1,hcz7_2,hfz7_0,hfz7_1,hfz7_2⟩:=cbf3 BK252))
  (try simp only [Act.put,List.setIfInBounds_toArray,List.set_cons_zero,List.set_cons_succ])
  go_cut [34] (fun v34 wc=> ∃(kq:Nat) (x34_4:Bool),v34= .bool x34_4∧Aside0 (impl_shapeOk.j0 kq l0 x34_4 true l2_1 l2_2=some r)∧Aside0 (kq≤k)∧Aside0 (wc.heap[gb252]? =some (.cells #[.bool true,(.slice A2_1 l2_1.length c2_1),(.slice A2_2 l2_2.length c2_2)] 28 (0,0)))∧Aside0 (Below w.heap.size w wc))
  case first=>
   have H:=HC5.out;clear HC5;by_cases c8:(l2_1.length:Int)=a1
   ·rw [if_pos c8] at H
    have c8b0:((l2_1.length:Int)==a1)=true:=beq_iff_eq.mpr c8
    have c8b1:((l2_1.length:Int) !=a1)=false:=bne_eq_false_iff_eq.mpr c8
    clear c8
    (first|rw [c8b0]|(simp only [i64_w,i32_w];rw [c8b0])|skip)
    have H':=aK H;clear H;obtain ⟨hcz9_0,hcz9_1,hcz9_2,hfz9_0,hfz9_1,hfz9_2⟩:=cbf3 BK252;go_wp2;go_meet
    case rel=>exact ⟨_,(decide ((l2_2.length:Int)>4)),zz9,H',⟨by first|omega|exact Nat.le_refl _⟩,⟨by (with_reducible repeat (first|refine blk_drewN ?_ _|refine blk_drew ?_|refine blk_alloc ?_ _));exact BK252.out⟩,⟨by repeat (first|(with_reducible first|exact HB.out|apply below_alloc|apply pw_below_drewN|apply below_drew1|refine below_set ?_ GE252.out)|exact HB.out)⟩⟩
   ·rw [if_neg c8] at H
    have c8b0:((l2_1.length:Int)==a1)=false:=beq_eq_false_iff_ne.mpr c8
    have c8b1:((l2_1.length:Int) !=a1)=true:=bne_iff_ne.mpr c8
    (first|rw [c8b0]|(simp only [i64_w,i32_w];rw [c8b0])|skip)
    have H':=aK H;clear H;obtain ⟨hcz10_0,hcz10_1,hcz10_2,hfz10_0,hfz10_1,hfz10_2⟩:=cbf3 BK252;go_wp2;go_meet
    case rel=>exact ⟨_,(true),zz9,H',⟨by first|omega|exact Nat.le_refl _⟩,⟨by (with_reducible repeat (first|refine blk_drewN ?_ _|refine blk_drew ?_|refine blk_alloc ?_ _));exact BK252.out⟩,⟨by repeat (first|(with_reducible first|exact HB.out|apply below_alloc|apply pw_below_drewN|apply below_drew1|refine below_set ?_ GE252.out)|exact HB.out)⟩⟩
  case rest =>
   clear HC5;(try clear c2);(try clear p2);(try clear c4);(try clear c5);(try clear c8);(try clear c8b0);(try clear c8b1);(try clear hcz10_0);(try clear hcz10_1);(try clear hcz10_2);(try clear hcz7_0);(try clear hcz7_1);(try clear hcz7_2);(try clear hcz9_0);(try clear hcz9_1);(try clear hcz9_2);(try clear hfz10_0);(try clear hfz10_1);(try clear hfz10_2);(try clear hfz7_0);(try clear hfz7_1);(try clear hfz7_2);(try clear hfz9_0);(try clear hfz9_1);(try clear hfz9_2);obtain ⟨kq,x34_4,rfl,HA,HJ4,BK252,HB⟩:=hcut
   cases kq with
   |zero=>exact absurd HA.out (by simp [impl_shapeOk.j0])
   | succ kj4 =>
    have H:=HA.out;clear HA;simp only [impl_shapeOk.j0] at H;by_cases c11:x34_4=true
    ·subst c11
     rw [if_pos rfl] at H;obtain rfl:=Option.some.inj H;go_wp2;go_ret;exact ⟨zz4,zz46⟩
    ·replace c11 := Bool.eq_false_iff.mpr c11
     subst c11;rw [if_neg (show¬(false=true) by decide)] at H;have H':=aK H;clear H;obtain ⟨hcz12_0,hcz12_1,hcz12_2,hfz12_0,hfz12_1,hfz12_2⟩:=cbf3 BK252;go_wp2
     go_loopg [38] kj4 (fun kq v38 w'=> ∃(x38_2:Int),v38= .int .i64 x38_2∧Aside0 (impl_shapeOk.l0 kq l0 l2_1 (l2_1.length:Int) x38_2 true l2_1 l2_2=some r)∧Aside0 (kq≤kj4)∧Aside0 (w'.heap[gb252]? =some (.cells #[.bool true,(.slice A2_1 l2_1.length c2_1),(.slice A2_2 l2_2.length c2_2)] 28 (0,0)))∧Aside0 (Below w.heap.size w w'))
     case atStart=>exact ⟨(0),zz9,H',⟨Nat.le_refl _⟩,⟨by (with_reducible repeat (first|refine blk_drewN ?_ _|refine blk_drew ?_|refine blk_alloc ?_ _));exact BK252.out⟩,⟨by repeat (first|(with_reducible first|exact HB.out|apply below_alloc|apply pw_below_drewN|apply below_drew1|refine below_set ?_ GE252.out)|exact HB.out)⟩⟩
     case round =>
      clear H';(try clear c1);(try clear c2);(try clear p2);(try clear c4);(try clear c5);(try clear c8);(try clear c8b0);(try clear c8b1);(try clear c11);(try clear hcz10_0);(try clear hcz10_1);(try clear hcz10_2);(try clear hcz12_0);(try clear hcz12_1);(try clear hcz12_2);(try clear hcz7_0);(try clear hcz7_1);(try clear hcz7_2);(try clear hcz9_0);(try clear hcz9_1);(try clear hcz9_2);(try clear hfz10_0);(try clear hfz10_1);(try clear hfz10_2);(try clear hfz12_0);(try clear hfz12_1);(try clear hfz12_2);(try clear hfz7_0);(try clear hfz7_1);(try clear hfz7_2);(try clear hfz9_0);(try clear hfz9_1);(try clear hfz9_2);(try clear p2);obtain ⟨x38_2,rfl,HA,HK2,BK252,HB⟩:=hrel
      cases gk with
      |zero=>exact absurd HA.out (by simp [impl_shapeOk.l0])
      | succ k2 =>
       have H:=HA.out;clear HA;simp only [impl_shapeOk.l0] at H;by_cases c13:x38_2<(l2_1.length:Int)
       ·rw [if_pos c13] at H
        have c13b0:decide (x38_2<(l2_1.length:Int))=true:=decide_eq_true c13
        clear c13;by_cases c14:0≤x38_2
        ·rw [if_pos c14] at H
         have c14b0:decide (0≤x38_2)=true:=decide_eq_true c14
         clear c14;by_cases c15:x38_2<(l2_1.length:Int)
         ·rw [if_pos c15] at H
          have c15b0:decide (x38_2<(l2_1.length:Int))=true:=decide_eq_true c15
          clear c15;replace H:=Option.bind_eq_some_iff.mp H;obtain ⟨t254,A160,H⟩:=H;(try dsimp only at H);have A16:=aK A160;clear A160;by_cases c17:t254=true
          ·subst c17
           rw [if_pos rfl] at H;have H':=aK H;clear H;have p253:0≤(x38_2:Int):=of_decide_eq_true zz6
           have q253:x38_2<(l2_1.length:Int):=of_decide_eq_true zz6
           obtain ⟨ad253,e253,hx253_0⟩:=Kd.at_int HR2_1.out x38_2 p253 q253
           cases e253
           replace hx253_0:=(HB.out.cell (World.block_lt_of_cell? w _ hx253_0)).trans hx253_0;replace p253:=eq_true p253;replace q253:=eq_true q253
           go_wp2_with (first|((with_reducible refine gate_callee (f:=51) rfl ?_);refine goesL_ (some 45) rfl rfl Try.func51 (by kernel_rfl) rfl #[.int .i64 (l0.length:Int),.int .i64 (rd l2_1 x38_2)] rfl zz2 ?_;(with_reducible refine (kOkF.true_calls (l0.length:Int) (rd l2_1 x38_2) _ A16.out).mono ?_);rintro e w' ⟨⟨ku_,kz_,rfl⟩,⟨nd,rfl⟩⟩;have kg_:=guard_some ku_ kz_;have ke_:=some_eql ku_ kz_;refine ⟨_,rfl,?_⟩))
           go_roundg k2
           case measure=>have:=HJ4.out;have:=HK2.out;omega
           case rel=>exact ⟨(wrap64 (x38_2+1)),zz9,H',⟨by have:=HJ4.out;have:=HK2.out;omega⟩,⟨by (with_reducible repeat (first|refine blk_drewN ?_ _|refine blk_drew ?_|refine blk_alloc ?_ _));exact BK252.out⟩,⟨by repeat (first|(with_reducible first|exact HB.out|apply below_alloc|apply pw_below_drewN|apply below_drew1|refine below_set ?_ GE252.out)|exact HB.out)⟩⟩
          ·replace c17 := Bool.eq_false_iff.mpr c17
           subst c17;rw [if_neg (show¬(false=true) by decide)] at H;obtain rfl:=Option.some.inj H;have p253:0≤(x38_2:Int):=of_decide_eq_true zz6
           have q253:x38_2<(l2_1.length:Int):=of_decide_eq_true zz6
           obtain ⟨ad253,e253,hx253_0⟩:=Kd.at_int HR2_1.out x38_2 p253 q253
           cases e253
           replace hx253_0:=(HB.out.cell (World.block_lt_of_cell? w _ hx253_0)).trans hx253_0;replace p253:=eq_true p253;replace q253:=eq_true q253
           go_wp2_with (first|((with_reducible refine gate_callee (f:=51) rfl ?_);refine goesL_ (some 45) rfl rfl Try.func51 (by kernel_rfl) rfl #[.int .i64 (l0.length:Int),.int .i64 (rd l2_1 x38_2)] rfl zz2 ?_;(with_reducible refine (kOkF.false_calls (l0.length:Int) (rd l2_1 x38_2) _ A16.out).mono ?_);rintro e w' ⟨rfl,⟨nd,rfl⟩⟩;have kg_:=guard_nil;have ke_:=nil_eql;refine ⟨_,rfl,?_⟩))
           go_ret;exact ⟨zz4,zz46⟩
         ·rw [if_neg c15] at H
          exact absurd H (by simp)
        ·rw [if_neg c14] at H
         exact absurd H (by simp)
       ·rw [if_neg c13] at H
        have c13b0:decide (x38_2<(l2_1.length:Int))=false:=decide_eq_false c13
        clear c13;have H':=aK H;clear H;obtain ⟨hcz18_0,hcz18_1,hcz18_2,hfz18_0,hfz18_1,hfz18_2⟩:=cbf3 BK252;go_wp2
        go_loopg [51] k2 (fun kq v51 w'=> ∃(x51_3:Int),v51= .int .i64 x51_3∧Aside0 (impl_shapeOk.l1 kq l0 l2_2 (l2_2.length:Int) x51_3=some r)∧Aside0 (kq≤k2)∧Aside0 (w'.heap[gb252]? =some (.cells #[.bool true,(.slice A2_1 l2_1.length c2_1),(.slice A2_2 l2_2.length c2_2)] 28 (0,0)))∧Aside0 (Below w.heap.size w w'))
        case atStart=>exact ⟨(0),zz9,H',⟨Nat.le_refl _⟩,⟨by (with_reducible repeat (first|refine blk_drewN ?_ _|refine blk_drew ?_|refine blk_alloc ?_ _));exact BK252.out⟩,⟨by repeat (first|(with_reducible first|exact HB.out|apply below_alloc|apply pw_below_drewN|apply below_drew1|refine below_set ?_ GE252.out)|exact HB.out)⟩⟩
        case round =>
         clear H';(try clear c1);(try clear c2);(try clear p2);(try clear q2);(try clear hx2);(try clear c3);(try clear c4);(try clear c5);(try clear p6);(try clear c8);(try clear c8b0);(try clear c8b1);(try clear c11);(try clear c13);(try clear c13b0);(try clear c14);(try clear c14b0);(try clear c15);(try clear c15b0);(try clear c17);(try clear hcz10_0);(try clear hcz10_1);(try clear hcz10_2);(try clear hcz12_0);(try clear hcz12_1);(try clear hcz12_2);(try clear hcz18_0);(try clear hcz18_1);(try clear hcz18_2);(try clear hcz7_0);(try clear hcz7_1);(try clear hcz7_2);(try clear hcz9_0);(try clear hcz9_1);(try clear hcz9_2);(try clear hfz10_0);(try clear hfz10_1);(try clear hfz10_2);(try clear hfz12_0);(try clear hfz12_1);(try clear hfz12_2);(try clear hfz18_0);(try clear hfz18_1);(try clear hfz18_2);(try clear hfz7_0);(try clear hfz7_1);(try clear hfz7_2);(try clear hfz9_0);(try clear hfz9_1);(try clear hfz9_2);(try clear hx253_0);(try clear p2);(try clear p253);(try clear q253);obtain ⟨x51_3,rfl,HA,HK3,BK252,HB⟩:=hrel
         cases gk with
         |zero=>exact absurd HA.out (by simp [impl_shapeOk.l1])
         | succ k3 =>
          have H:=HA.out;clear HA;simp only [impl_shapeOk.l1] at H;by_cases c19:x51_3<(l2_2.length:Int)
          ·rw [if_pos c19] at H
           have c19b0:decide (x51_3<(l2_2.length:Int))=true:=decide_eq_true c19
           clear c19;by_cases c20:0≤x51_3
           ·rw [if_pos c20] at H
            have c20b0:decide (0≤x51_3)=true:=decide_eq_true c20
            clear c20;by_cases c21:x51_3<(l2_2.length:Int)
            ·rw [if_pos c21] at H
             have c21b0:decide (x51_3<(l2_2.length:Int))=true:=decide_eq_true c21
             clear c21;by_cases c22:(rd l2_2 x51_3)=0
             ·rw [if_pos c22] at H
              have c22b0:((rd l2_2 x51_3)==0)=true:=beq_iff_eq.mpr c22
              have c22b1:((rd l2_2 x51_3) !=0)=false:=bne_eq_false_iff_eq.mpr c22
              clear c22;obtain rfl:=Option.some.inj H;have p255:0≤(x51_3:Int):=of_decide_eq_true zz6
              have q255:x51_3<(l2_2.length:Int):=of_decide_eq_true zz6
              obtain ⟨ad255,e255,hx255_0⟩:=Kd.at_int HR2_2.out x51_3 p255 q255
              cases e255
              replace hx255_0:=(HB.out.cell (World.block_lt_of_cell? w _ hx255_0)).trans hx255_0;replace p255:=eq_true p255;replace q255:=eq_true q255;go_wp2;go_ret;exact ⟨zz4,zz46⟩
             ·rw [if_neg c22] at H
              have c22b0:((rd l2_2 x51_3)==0)=false:=beq_eq_false_iff_ne.mpr c22
              have c22b1:((rd l2_2 x51_3) !=0)=true:=bne_iff_ne.mpr c22
              replace H:=Option.bind_eq_some_iff.mp H;obtain ⟨t256,A230,H⟩:=H;(try dsimp only at H);have A23:=aK A230;clear A230;by_cases c24:t256=true
              ·subst c24
               rw [if_pos rfl] at H;have H':=aK H;clear H;have p255:0≤(x51_3:Int):=of_decide_eq_true zz6
               have q255:x51_3<(l2_2.length:Int):=of_decide_eq_true zz6
               obtain ⟨ad255,e255,hx255_0⟩:=Kd.at_int HR2_2.out x51_3 p255 q255
               cases e255
               replace hx255_0:=(HB.out.cell (World.block_lt_of_cell? w _ hx255_0)).trans hx255_0;replace p255:=eq_true p255;replace q255:=eq_true q255
               go_wp2_with (first|(go_at_call 51;(with_reducible refine (kOkF.true_calls (l0.length:Int) (rd l2_2 x51_3) _ A23.out).mono ?_);rintro e w' ⟨⟨ku_,kz_,rfl⟩,⟨nd,rfl⟩⟩;have kg_:=guard_some ku_ kz_;have ke_:=some_eql ku_ kz_))
               go_roundg k3
               case measure=>have:=HJ4.out;have:=HK2.out;have:=HK3.out;omega
               case rel=>exact ⟨(wrap64 (x51_3+1)),zz9,H',⟨by have:=HJ4.out;have:=HK2.out;have:=HK3.out;omega⟩,⟨by (with_reducible repeat (first|refine blk_drewN ?_ _|refine blk_drew ?_|refine blk_alloc ?_ _));exact BK252.out⟩,⟨by repeat (first|(with_reducible first|exact HB.out|apply below_alloc|apply pw_below_drewN|apply below_drew1|refine below_set ?_ GE252.out)|exact HB.out)⟩⟩
              ·replace c24 := Bool.eq_false_iff.mpr c24
               subst c24;rw [if_neg (show¬(false=true) by decide)] at H;obtain rfl:=Option.some.inj H;have p255:0≤(x51_3:Int):=of_decide_eq_true zz6
               have q255:x51_3<(l2_2.length:Int):=of_decide_eq_true zz6
               obtain ⟨ad255,e255,hx255_0⟩:=Kd.at_int HR2_2.out x51_3 p255 q255
               cases e255
               replace hx255_0:=(HB.out.cell (World.block_lt_of_cell? w _ hx255_0)).trans hx255_0;replace p255:=eq_true p255;replace q255:=eq_true q255
               go_wp2_with (first|(go_at_call 51;(with_reducible refine (kOkF.false_calls (l0.length:Int) (rd l2_2 x51_3) _ A23.out).mono ?_);rintro e w' ⟨rfl,⟨nd,rfl⟩⟩;have kg_:=guard_nil;have ke_:=nil_eql))
               go_ret;exact ⟨zz4,zz46⟩
            ·rw [if_neg c21] at H
             exact absurd H (by simp)
           ·rw [if_neg c20] at H
            exact absurd H (by simp)
          ·rw [if_neg c19] at H
           have c19b0:decide (x51_3<(l2_2.length:Int))=false:=decide_eq_false c19
           clear c19;obtain rfl:=Option.some.inj H;go_wp2;go_ret;exact ⟨zz4,zz46⟩
 ·replace c4 := Bool.eq_false_iff.mpr c4
  subst c4;rw [if_neg (show¬(false=true) by decide)] at H;by_cases c25:(l2_1.length:Int)=0
  ·rw [if_pos c25] at H
   have c25b0:((l2_1.length:Int)==0)=true:=beq_iff_eq.mpr c25
   have c25b1:((l2_1.length:Int) !=0)=false:=bne_eq_false_iff_eq.mpr c25
   clear c25;obtain rfl:=Option.some.inj H;go_enter Try.func52,Try.ntmps52
   go_wp2_with (first|((with_reducible refine gate_dst (N:=5) rfl ?_);(try (refine gate_guard (by rfl) ?_;dsimp only));refine box_event ?hg (N:=5) ?hd (cs:= #[.bool false,.slice A2_1 l2_1.length c2_1,.slice A2_2 l2_2.length c2_2]) (t:=28) ?hr ?_;(case hd=>rfl);(case hg=>rfl);(case hr=>first|(go_simp;done)|(go_simp;rfl));intro gb252 hg w26 hbox hb;have BK252:=aK (hbox);have GW252:=aK ((by rw [hg];exact (below_size zz1):w.heap.size≤gb252));have GE252:=aK ((by rw [hg];exact (below_size zz1):w.heap.size≤gb252));replace HB:=aK (below_step zz1 hb);clear hb hbox hg;obtain ⟨hcz27_0,hcz27_1,hcz27_2,hfz27_0,hfz27_1,hfz27_2⟩:=cbf3 BK252))
   go_ret;exact ⟨zz4,zz46⟩
  ·rw [if_neg c25] at H
   have c25b0:((l2_1.length:Int)==0)=false:=beq_eq_false_iff_ne.mpr c25
   have c25b1:((l2_1.length:Int) !=0)=true:=bne_iff_ne.mpr c25
   have c25b2: ¬(l2_1=[]):=fun h_=>c25 (by rw [h_];rfl)
   obtain rfl:=Option.some.inj H;go_enter Try.func52,Try.ntmps52
   go_wp2_with (first|((with_reducible refine gate_dst (N:=5) rfl ?_);(try (refine gate_guard (by rfl) ?_;dsimp only));refine box_event ?hg (N:=5) ?hd (cs:= #[.bool false,.slice A2_1 l2_1.length c2_1,.slice A2_2 l2_2.length c2_2]) (t:=28) ?hr ?_;(case hd=>rfl);(case hg=>rfl);(case hr=>first|(go_simp;done)|(go_simp;rfl));intro gb252 hg w28 hbox hb;have BK252:=aK (hbox);have GW252:=aK ((by rw [hg];exact (below_size zz1):w.heap.size≤gb252));have GE252:=aK ((by rw [hg];exact (below_size zz1):w.heap.size≤gb252));replace HB:=aK (below_step zz1 hb);clear hb hbox hg;obtain ⟨hcz29_0,hcz29_1,hcz29_2,hfz29_0,hfz29_1,hfz29_2⟩:=cbf3 BK252))
   go_ret;exact ⟨zz4,zz46⟩
end Go.Proofs.Ytehefmgplkolaaa.K
namespace Go.Proofs.Ytehefmgplkolaaa.K
open Go.RowKit Go.Proofs.YtehefmgplkolaaaW.PrintWords Go.Proofs.YtehefmgplkolaaaW.PrintLast Go.Proofs.YtehefmgplkolaaaW.PrintMore
attribute [local go_sem] max2_int min2_int max_two min_two max_three min_three max_four min_four
set_option linter.unusedVariables false
set_option linter.unusedSimpArgs false
def impl_shapeFit.f (k:Nat) (l0:List (S48)) (a1_0:Bool) (l1_1:List Int) (l1_2:List Int) (a2_0:Bool) (l2_1:List Int) (l2_2:List Int):Option (Bool):=if a1_0=true then (if a2_0=true then (if (l1_1.length:Int)=(l2_1.length:Int) then (if (l1_2.length:Int)=(l2_2.length:Int) then ((impl_shapeOk.f k l0 (l1_1.length:Int) a1_0 l1_1 l1_2).bind fun t259=>(if t259=true then ((impl_shapeOk.f k l0 (l2_1.length:Int) a2_0 l2_1 l2_2).bind fun t260=>(some t260)) else (some false))) else (some false)) else (some false)) else (some false)) else (some false)
set_option maxHeartbeats 8000000 in
set_option maxRecDepth 100000 in
theorem impl_shapeFit.calls (k:Nat) (A0:Option Addr) (c0:Nat) (l0:List (S48)) (a1_0:Bool) (A1_1:Option Addr) (c1_1:Nat) (l1_1:List Int) (A1_2:Option Addr) (c1_2:Nat) (l1_2:List Int) (a2_0:Bool) (A2_1:Option Addr) (c2_1:Nat) (l2_1:List Int) (A2_2:Option Addr) (c2_2:Nat) (l2_2:List Int) (r:Bool) (w:World) (hr0:Kd.C k48 w A0 l0.length l0) (hc0:l0.length≤c0) (hr1_1:Kd.C (Kd.int .i64) w A1_1 l1_1.length l1_1) (hc1_1:l1_1.length≤c1_1) (hr1_2:Kd.C (Kd.int .i64) w A1_2 l1_2.length l1_2) (hc1_2:l1_2.length≤c1_2) (hr2_1:Kd.C (Kd.int .i64) w A2_1 l2_1.length l2_1) (hc2_1:l2_1.length≤c2_1) (hr2_2:Kd.C (Kd.int .i64) w A2_2 l2_2.length l2_2) (hc2_2:l2_2.length≤c2_2) (h:impl_shapeFit.f k l0 a1_0 l1_1 l1_2 a2_0 l2_1 l2_2=some r):
  Calls Try.prog 40 #[.slice A0 l0.length c0,.agg #[.bool a1_0,.slice A1_1 l1_1.length c1_1,.slice A1_2 l1_2.length c1_2],.agg #[.bool a2_0,.slice A2_1 l2_1.length c2_1,.slice A2_2 l2_2.length c2_2]] w fun e w'=>e= .returned (.bool r)∧Below w.heap.size w w':=by
 have hu28:=Try.underlying28;have HR0:=aK hr0;have HC0:=aK hc0;clear hr0 hc0;have HR1_1:=aK hr1_1;have HC1_1:=aK hc1_1;clear hr1_1 hc1_1;have HR1_2:=aK hr1_2;have HC1_2:=aK hc1_2;clear hr1_2 hc1_2;have HR2_1:=aK hr2_1;have HC2_1:=aK hc2_1;clear hr2_1 hc2_1;have HR2_2:=aK hr2_2;have HC2_2:=aK hc2_2;clear hr2_2 hc2_2;have HB:=aK (Below.refl w.heap.size w);have H:(if a1_0=true then (if a2_0=true then (if (l1_1.length:Int)=(l2_1.length:Int) then (if (l1_2.length:Int)=(l2_2.length:Int) then ((impl_shapeOk.f k l0 (l1_1.length:Int) a1_0 l1_1 l1_2).bind fun t259=>(if t259=true then ((impl_shapeOk.f k l0 (l2_1.length:Int) a2_0 l2_1 l2_2).bind fun t260=>(some t260)) else (some false))) else (some false)) else (some false)) else (some false)) else (some false))=some r:=h
 clear h;by_cases c4:a1_0=true
 ·subst c4
  rw [if_pos rfl] at H;by_cases c5:a2_0=true
  ·subst c5
   rw [if_pos rfl] at H;by_cases c6:(l1_1.length:Int)=(l2_1.length:Int)
   ·rw [if_pos c6] at H
    have c6b0:((l1_1.length:Int)==(l2_1.length:Int))=true:=beq_iff_eq.mpr c6
    have c6b1:((l1_1.length:Int) !=(l2_1.length:Int))=false:=bne_eq_false_iff_eq.mpr c6
    have c6b2:(l1_1.length==l2_1.length)=true:=by first|simpa using c6|(simp at c6 ⊢;omega)
    clear c6;by_cases c7:(l1_2.length:Int)=(l2_2.length:Int)
    ·rw [if_pos c7] at H
     have c7b0:((l1_2.length:Int)==(l2_2.length:Int))=true:=beq_iff_eq.mpr c7
     have c7b1:((l1_2.length:Int) !=(l2_2.length:Int))=false:=bne_eq_false_iff_eq.mpr c7
     have c7b2:(l1_2.length==l2_2.length)=true:=by first|simpa using c7|(simp at c7 ⊢;omega)
     clear c7;replace H:=Option.bind_eq_some_iff.mp H;obtain ⟨t259,A80,H⟩:=H;(try dsimp only at H);have A8:=aK A80;clear A80;by_cases c9:t259=true
     ·subst c9
      rw [if_pos rfl] at H;replace H:=Option.bind_eq_some_iff.mp H;obtain ⟨t260,A100,H⟩:=H;(try dsimp only at H);have A10:=aK A100;clear A100;obtain rfl:=Option.some.inj H;go_enter Try.func40,Try.ntmps40
      go_wp2_with (first|((with_reducible refine gate_dst (N:=4) rfl ?_);(try (refine gate_guard (by rfl) ?_;dsimp only));refine box_event ?hg (N:=4) ?hd (cs:= #[.bool true,.slice A1_1 l1_1.length c1_1,.slice A1_2 l1_2.length c1_2]) (t:=28) ?hr ?_;(case hd=>rfl);(case hg=>rfl);(case hr=>first|(go_simp;done)|(go_simp;rfl));intro gb257 hg w11 hbox hb;have BK257:=aK (hbox);have GW257:=aK ((by rw [hg];exact (below_size zz1):w.heap.size≤gb257));have GE257:=aK ((by rw [hg];exact (below_size zz1):w.heap.size≤gb257));replace HB:=aK (below_step zz1 hb);clear hb hbox hg)|((with_reducible refine gate_dst (N:=5) rfl ?_);(try (refine gate_guard (by rfl) ?_;dsimp only));refine box_event ?hg (N:=5) ?hd (cs:= #[.bool true,.slice A2_1 l2_1.length c2_1,.slice A2_2 l2_2.length c2_2]) (t:=28) ?hr ?_;(case hd=>rfl);(case hg=>rfl);(case hr=>first|(go_simp;done)|(go_simp;rfl));intro gb258 hg w12 hbox hb;have BK258:=aK (hbox);have GW258:=aK ((by rw [hg];exact (below_size zz12):w.heap.size≤gb258));have GE258:=aK ((by rw [hg];exact (below_size zz12):w.heap.size≤gb258));have NB257_258:=aK ((by rw [hg];exact Nat.ne_of_lt (blk_lt (g:=gb257) (o:= .cells #[.bool true,.slice A1_1 l1_1.length c1_1,.slice A1_2 l1_2.length c1_2] 28 (0,0)) zz16):gb257≠gb258));have NB258_257:=aK ((by rw [hg];exact Nat.ne_of_gt (blk_lt (g:=gb257) (o:= .cells #[.bool true,.slice A1_1 l1_1.length c1_1,.slice A1_2 l1_2.length c1_2] 28 (0,0)) zz16):gb258≠gb257));replace BK257:=aK (blk_below (g:=gb257) (o:= .cells #[.bool true,.slice A1_1 l1_1.length c1_1,.slice A1_2 l1_2.length c1_2] 28 (0,0)) zz16 hb);replace HB:=aK (below_step zz12 hb);clear hb hbox hg;have hnb13:=NB257_258.out;have hnc13:=NB258_257.out;obtain ⟨hcz14_0,hcz14_1,hcz14_2,hfz14_0,hfz14_1,hfz14_2⟩:=cbf3 BK257;obtain ⟨hcz15_0,hcz15_1,hcz15_2,hfz15_0,hfz15_1,hfz15_2⟩:=cbf3 BK258)|(go_at_call 52;(with_reducible refine (impl_shapeOk.calls k _ _ l0 (l1_1.length:Int) true _ _ l1_1 _ _ l1_2 true _ ?side1 ?side2 ?side3 ?side4 ?side5 ?side6 A8.out).mono ?_);(case side1=>exact zz5);(case side2=>exact HC0.out);(case side3=>exact zz11);(case side4=>exact HC1_1.out);(case side5=>exact zz20);(case side6=>exact HC1_2.out);rintro e w16 ⟨rfl,hb⟩;replace BK257:=aK (blk_below (g:=gb257) (o:= .cells #[.bool true,.slice A1_1 l1_1.length c1_1,.slice A1_2 l1_2.length c1_2] 28 (0,0)) zz16 hb);replace BK258:=aK (blk_below (g:=gb258) (o:= .cells #[.bool true,.slice A2_1 l2_1.length c2_1,.slice A2_2 l2_2.length c2_2] 28 (0,0)) (by (with_reducible repeat (first|refine blk_drewN ?_ _|refine blk_drew ?_|refine blk_alloc ?_ _));exact BK258.out) hb);replace HB:=aK (below_step zz32 hb);(try clear hb);(try clear hb2);(try clear hk);(try clear hi);obtain ⟨hcz17_0,hcz17_1,hcz17_2,hfz17_0,hfz17_1,hfz17_2⟩:=cbf3 BK258)|(go_at_call 52;(with_reducible refine (impl_shapeOk.calls k _ _ l0 (l2_1.length:Int) true _ _ l2_1 _ _ l2_2 t260 _ ?side1 ?side2 ?side3 ?side4 ?side5 ?side6 A10.out).mono ?_);(case side1=>exact zz5);(case side2=>exact HC0.out);(case side3=>exact zz35);(case side4=>exact HC2_1.out);(case side5=>exact zz34);(case side6=>exact HC2_2.out);rintro e w18 ⟨rfl,hb⟩;replace BK257:=aK (blk_below (g:=gb257) (o:= .cells #[.bool true,.slice A1_1 l1_1.length c1_1,.slice A1_2 l1_2.length c1_2] 28 (0,0)) zz16 hb);replace BK258:=aK (blk_below (g:=gb258) (o:= .cells #[.bool true,.slice A2_1 l2_1.length c2_1,.slice A2_2 l2_2.length c2_2] 28 (0,0)) (by (with_reducible repeat (first|refine blk_drewN ?_ _|refine blk_drew ?_|refine blk_alloc ?_ _));exact BK258.out) hb);replace HB:=aK (below_step zz32 hb);(try clear hb);(try clear hb2);(try clear hk);(try clear hi)))
      go_ret;exact ⟨zz4,zz32⟩
     ·replace c9 := Bool.eq_false_iff.mpr c9
      subst c9;rw [if_neg (show¬(false=true) by decide)] at H;obtain rfl:=Option.some.inj H;go_enter Try.func40,Try.ntmps40
      go_wp2_with (first|((with_reducible refine gate_dst (N:=4) rfl ?_);(try (refine gate_guard (by rfl) ?_;dsimp only));refine box_event ?hg (N:=4) ?hd (cs:= #[.bool true,.slice A1_1 l1_1.length c1_1,.slice A1_2 l1_2.length c1_2]) (t:=28) ?hr ?_;(case hd=>rfl);(case hg=>rfl);(case hr=>first|(go_simp;done)|(go_simp;rfl));intro gb257 hg w19 hbox hb;have BK257:=aK (hbox);have GW257:=aK ((by rw [hg];exact (below_size zz1):w.heap.size≤gb257));have GE257:=aK ((by rw [hg];exact (below_size zz1):w.heap.size≤gb257));replace HB:=aK (below_step zz1 hb);clear hb hbox hg)|((with_reducible refine gate_dst (N:=5) rfl ?_);(try (refine gate_guard (by rfl) ?_;dsimp only));refine box_event ?hg (N:=5) ?hd (cs:= #[.bool true,.slice A2_1 l2_1.length c2_1,.slice A2_2 l2_2.length c2_2]) (t:=28) ?hr ?_;(case hd=>rfl);(case hg=>rfl);(case hr=>first|(go_simp;done)|(go_simp;rfl));intro gb258 hg w20 hbox hb;have BK258:=aK (hbox);have GW258:=aK ((by rw [hg];exact (below_size zz12):w.heap.size≤gb258));have GE258:=aK ((by rw [hg];exact (below_size zz12):w.heap.size≤gb258));have NB257_258:=aK ((by rw [hg];exact Nat.ne_of_lt (blk_lt (g:=gb257) (o:= .cells #[.bool true,.slice A1_1 l1_1.length c1_1,.slice A1_2 l1_2.length c1_2] 28 (0,0)) zz16):gb257≠gb258));have NB258_257:=aK ((by rw [hg];exact Nat.ne_of_gt (blk_lt (g:=gb257) (o:= .cells #[.bool true,.slice A1_1 l1_1.length c1_1,.slice A1_2 l1_2.length c1_2] 28 (0,0)) zz16):gb258≠gb257));replace BK257:=aK (blk_below (g:=gb257) (o:= .cells #[.bool true,.slice A1_1 l1_1.length c1_1,.slice A1_2 l1_2.length c1_2] 28 (0,0)) zz16 hb);replace HB:=aK (below_step zz12 hb);clear hb hbox hg;have hnb21:=NB257_258.out;have hnc21:=NB258_257.out;obtain ⟨hcz22_0,hcz22_1,hcz22_2,hfz22_0,hfz22_1,hfz22_2⟩:=cbf3 BK257;obtain ⟨hcz23_0,hcz23_1,hcz23_2,hfz23_0,hfz23_1,hfz23_2⟩:=cbf3 BK258)|(go_at_call 52;(with_reducible refine (impl_shapeOk.calls k _ _ l0 (l1_1.length:Int) true _ _ l1_1 _ _ l1_2 false _ ?side1 ?side2 ?side3 ?side4 ?side5 ?side6 A8.out).mono ?_);(case side1=>exact zz5);(case side2=>exact HC0.out);(case side3=>exact zz11);(case side4=>exact HC1_1.out);(case side5=>exact zz20);(case side6=>exact HC1_2.out);rintro e w24 ⟨rfl,hb⟩;replace BK257:=aK (blk_below (g:=gb257) (o:= .cells #[.bool true,.slice A1_1 l1_1.length c1_1,.slice A1_2 l1_2.length c1_2] 28 (0,0)) zz16 hb);replace BK258:=aK (blk_below (g:=gb258) (o:= .cells #[.bool true,.slice A2_1 l2_1.length c2_1,.slice A2_2 l2_2.length c2_2] 28 (0,0)) (by (with_reducible repeat (first|refine blk_drewN ?_ _|refine blk_drew ?_|refine blk_alloc ?_ _));exact BK258.out) hb);replace HB:=aK (below_step zz32 hb);(try clear hb);(try clear hb2);(try clear hk);(try clear hi)))
      go_ret;exact ⟨zz4,zz32⟩
    ·rw [if_neg c7] at H
     have c7b0:((l1_2.length:Int)==(l2_2.length:Int))=false:=beq_eq_false_iff_ne.mpr c7
     have c7b1:((l1_2.length:Int) !=(l2_2.length:Int))=true:=bne_iff_ne.mpr c7
     have c7b2:(l1_2.length==l2_2.length)=false:=by first|simpa using c7|(simp at c7 ⊢;omega)
     obtain rfl:=Option.some.inj H;go_enter Try.func40,Try.ntmps40
     go_wp2_with (first|((with_reducible refine gate_dst (N:=4) rfl ?_);(try (refine gate_guard (by rfl) ?_;dsimp only));refine box_event ?hg (N:=4) ?hd (cs:= #[.bool true,.slice A1_1 l1_1.length c1_1,.slice A1_2 l1_2.length c1_2]) (t:=28) ?hr ?_;(case hd=>rfl);(case hg=>rfl);(case hr=>first|(go_simp;done)|(go_simp;rfl));intro gb257 hg w25 hbox hb;have BK257:=aK (hbox);have GW257:=aK ((by rw [hg];exact (below_size zz1):w.heap.size≤gb257));have GE257:=aK ((by rw [hg];exact (below_size zz1):w.heap.size≤gb257));replace HB:=aK (below_step zz1 hb);clear hb hbox hg)|((with_reducible refine gate_dst (N:=5) rfl ?_);(try (refine gate_guard (by rfl) ?_;dsimp only));refine box_event ?hg (N:=5) ?hd (cs:= #[.bool true,.slice A2_1 l2_1.length c2_1,.slice A2_2 l2_2.length c2_2]) (t:=28) ?hr ?_;(case hd=>rfl);(case hg=>rfl);(case hr=>first|(go_simp;done)|(go_simp;rfl));intro gb258 hg w26 hbox hb;have BK258:=aK (hbox);have GW258:=aK ((by rw [hg];exact (below_size zz12):w.heap.size≤gb258));have GE258:=aK ((by rw [hg];exact (below_size zz12):w.heap.size≤gb258));have NB257_258:=aK ((by rw [hg];exact Nat.ne_of_lt (blk_lt (g:=gb257) (o:= .cells #[.bool true,.slice A1_1 l1_1.length c1_1,.slice A1_2 l1_2.length c1_2] 28 (0,0)) zz16):gb257≠gb258));have NB258_257:=aK ((by rw [hg];exact Nat.ne_of_gt (blk_lt (g:=gb257) (o:= .cells #[.bool true,.slice A1_1 l1_1.length c1_1,.slice A1_2 l1_2.length c1_2] 28 (0,0)) zz16):gb258≠gb257));replace BK257:=aK (blk_below (g:=gb257) (o:= .cells #[.bool true,.slice A1_1 l1_1.length c1_1,.slice A1_2 l1_2.length c1_2] 28 (0,0)) zz16 hb);replace HB:=aK (below_step zz12 hb);clear hb hbox hg;have hnb27:=NB257_258.out;have hnc27:=NB258_257.out;obtain ⟨hcz28_0,hcz28_1,hcz28_2,hfz28_0,hfz28_1,hfz28_2⟩:=cbf3 BK257;obtain ⟨hcz29_0,hcz29_1,hcz29_2,hfz29_0,hfz29_1,hfz29_2⟩:=cbf3 BK258))
     go_ret;exact ⟨zz4,zz32⟩
   ·rw [if_neg c6] at H
    have c6b0:((l1_1.length:Int)==(l2_1.length:Int))=false:=beq_eq_false_iff_ne.mpr c6
    have c6b1:((l1_1.length:Int) !=(l2_1.length:Int))=true:=bne_iff_ne.mpr c6
    have c6b2:(l1_1.length==l2_1.length)=false:=by first|simpa using c6|(simp at c6 ⊢;omega)
    obtain rfl:=Option.some.inj H;go_enter Try.func40,Try.ntmps40
    go_wp2_with (first|((with_reducible refine gate_dst (N:=4) rfl ?_);(try (refine gate_guard (by rfl) ?_;dsimp only));refine box_event ?hg (N:=4) ?hd (cs:= #[.bool true,.slice A1_1 l1_1.length c1_1,.slice A1_2 l1_2.length c1_2]) (t:=28) ?hr ?_;(case hd=>rfl);(case hg=>rfl);(case hr=>first|(go_simp;done)|(go_simp;rfl));intro gb257 hg w30 hbox hb;have BK257:=aK (hbox);have GW257:=aK ((by rw [hg];exact (below_size zz1):w.heap.size≤gb257));have GE257:=aK ((by rw [hg];exact (below_size zz1):w.heap.size≤gb257));replace HB:=aK (below_step zz1 hb);clear hb hbox hg)|((with_reducible refine gate_dst (N:=5) rfl ?_);(try (refine gate_guard (by rfl) ?_;dsimp only));refine box_event ?hg (N:=5) ?hd (cs:= #[.bool true,.slice A2_1 l2_1.length c2_1,.slice A2_2 l2_2.length c2_2]) (t:=28) ?hr ?_;(case hd=>rfl);(case hg=>rfl);(case hr=>first|(go_simp;done)|(go_simp;rfl));intro gb258 hg w31 hbox hb;have BK258:=aK (hbox);have GW258:=aK ((by rw [hg];exact (below_size zz12):w.heap.size≤gb258));have GE258:=aK ((by rw [hg];exact (below_size zz12):w.heap.size≤gb258));have NB257_258:=aK ((by rw [hg];exact Nat.ne_of_lt (blk_lt (g:=gb257) (o:= .cells #[.bool true,.slice A1_1 l1_1.length c1_1,.slice A1_2 l1_2.length c1_2] 28 (0,0)) zz16):gb257≠gb258));have NB258_257:=aK ((by rw [hg];exact Nat.ne_of_gt (blk_lt (g:=gb257) (o:= .cells #[.bool true,.slice A1_1 l1_1.length c1_1,.slice A1_2 l1_2.length c1_2] 28 (0,0)) zz16):gb258≠gb257));replace BK257:=aK (blk_below (g:=gb257) (o:= .cells #[.bool true,.slice A1_1 l1_1.length c1_1,.slice A1_2 l1_2.length c1_2] 28 (0,0)) zz16 hb);replace HB:=aK (below_step zz12 hb);clear hb hbox hg;have hnb32:=NB257_258.out;have hnc32:=NB258_257.out;obtain ⟨hcz33_0,hcz33_1,hcz33_2,hfz33_0,hfz33_1,hfz33_2⟩:=cbf3 BK257;obtain ⟨hcz34_0,hcz34_1,hcz34_2,hfz34_0,hfz34_1,hfz34_2⟩:=cbf3 BK258))
    go_ret;exact ⟨zz4,zz32⟩
  ·replace c5 := Bool.eq_false_iff.mpr c5
   subst c5;rw [if_neg (show¬(false=true) by decide)] at H;obtain rfl:=Option.some.inj H;go_enter Try.func40,Try.ntmps40
   go_wp2_with (first|((with_reducible refine gate_dst (N:=4) rfl ?_);(try (refine gate_guard (by rfl) ?_;dsimp only));refine box_event ?hg (N:=4) ?hd (cs:= #[.bool true,.slice A1_1 l1_1.length c1_1,.slice A1_2 l1_2.length c1_2]) (t:=28) ?hr ?_;(case hd=>rfl);(case hg=>rfl);(case hr=>first|(go_simp;done)|(go_simp;rfl));intro gb257 hg w35 hbox hb;have BK257:=aK (hbox);have GW257:=aK ((by rw [hg];exact (below_size zz1):w.heap.size≤gb257));have GE257:=aK ((by rw [hg];exact (below_size zz1):w.heap.size≤gb257));replace HB:=aK (below_step zz1 hb);clear hb hbox hg)|((with_reducible refine gate_dst (N:=5) rfl ?_);(try (refine gate_guard (by rfl) ?_;dsimp only));refine box_event ?hg (N:=5) ?hd (cs:= #[.bool false,.slice A2_1 l2_1.length c2_1,.slice A2_2 l2_2.length c2_2]) (t:=28) ?hr ?_;(case hd=>rfl);(case hg=>rfl);(case hr=>first|(go_simp;done)|(go_simp;rfl));intro gb258 hg w36 hbox hb;have BK258:=aK (hbox);have GW258:=aK ((by rw [hg];exact (below_size zz12):w.heap.size≤gb258));have GE258:=aK ((by rw [hg];exact (below_size zz12):w.heap.size≤gb258));have NB257_258:=aK ((by rw [hg];exact Nat.ne_of_lt (blk_lt (g:=gb257) (o:= .cells #[.bool true,.slice A1_1 l1_1.length c1_1,.slice A1_2 l1_2.length c1_2] 28 (0,0)) zz16):gb257≠gb258));have NB258_257:=aK ((by rw [hg];exact Nat.ne_of_gt (blk_lt (g:=gb257) (o:= .cells #[.bool true,.slice A1_1 l1_1.length c1_1,.slice A1_2 l1_2.length c1_2] 28 (0,0)) zz16):gb258≠gb257));replace BK257:=aK (blk_below (g:=gb257) (o:= .cells #[.bool true,.slice A1_1 l1_1.length c1_1,.slice A1_2 l1_2.length c1_2] 28 (0,0)) zz16 hb);replace HB:=aK (below_step zz12 hb);clear hb hbox hg;have hnb37:=NB257_258.out;have hnc37:=NB258_257.out;obtain ⟨hcz38_0,hcz38_1,hcz38_2,hfz38_0,hfz38_1,hfz38_2⟩:=cbf3 BK257;obtain ⟨hcz39_0,hcz39_1,hcz39_2,hfz39_0,hfz39_1,hfz39_2⟩:=cbf3 BK258))
   go_ret;exact ⟨zz4,zz32⟩
 ·replace c4 := Bool.eq_false_iff.mpr c4
  subst c4;rw [if_neg (show¬(false=true) by decide)] at H;obtain rfl:=Option.some.inj H;go_enter Try.func40,Try.ntmps40
  go_wp2_with (first|((with_reducible refine gate_dst (N:=4) rfl ?_);(try (refine gate_guard (by rfl) ?_;dsimp only));refine box_event ?hg (N:=4) ?hd (cs:= #[.bool false,.slice A1_1 l1_1.length c1_1,.slice A1_2 l1_2.length c1_2]) (t:=28) ?hr ?_;(case hd=>rfl);(case hg=>rfl);(case hr=>first|(go_simp;done)|(go_simp;rfl));intro gb257 hg w40 hbox hb;have BK257:=aK (hbox);have GW257:=aK ((by rw [hg];exact (below_size zz1):w.heap.size≤gb257));have GE257:=aK ((by rw [hg];exact (below_size zz1):w.heap.size≤gb257));replace HB:=aK (below_step zz1 hb);clear hb hbox hg)|((with_reducible refine gate_dst (N:=5) rfl ?_);(try (refine gate_guard (by rfl) ?_;dsimp only));refine box_event ?hg (N:=5) ?hd (cs:= #[.bool a2_0,.slice A2_1 l2_1.length c2_1,.slice A2_2 l2_2.length c2_2]) (t:=28) ?hr ?_;(case hd=>rfl);(case hg=>rfl);(case hr=>first|(go_simp;done)|(go_simp;rfl));intro gb258 hg w41 hbox hb;have BK258:=aK (hbox);have GW258:=aK ((by rw [hg];exact (below_size zz12):w.heap.size≤gb258));have GE258:=aK ((by rw [hg];exact (below_size zz12):w.heap.size≤gb258));have NB257_258:=aK ((by rw [hg];exact Nat.ne_of_lt (blk_lt (g:=gb257) (o:= .cells #[.bool false,.slice A1_1 l1_1.length c1_1,.slice A1_2 l1_2.length c1_2] 28 (0,0)) zz16):gb257≠gb258));have NB258_257:=aK ((by rw [hg];exact Nat.ne_of_gt (blk_lt (g:=gb257) (o:= .cells #[.bool false,.slice A1_1 l1_1.length c1_1,.slice A1_2 l1_2.length c1_2] 28 (0,0)) zz16):gb258≠gb257));replace BK257:=aK (blk_below (g:=gb257) (o:= .cells #[.bool false,.slice A1_1 l1_1.length c1_1,.slice A1_2 l1_2.length c1_2] 28 (0,0)) zz16 hb);replace HB:=aK (below_step zz12 hb);clear hb hbox hg;have hnb42:=NB257_258.out;have hnc42:=NB258_257.out;obtain ⟨hcz43_0,hcz43_1,hcz43_2,hfz43_0,hfz43_1,hfz43_2⟩:=cbf3 BK257))
  go_ret;exact ⟨zz4,zz32⟩
end Go.Proofs.Ytehefmgplkolaaa.K
namespace Go.Proofs.Ytehefmgplkolaaa.K
open Go.RowKit Go.Proofs.YtehefmgplkolaaaW.PrintWords Go.Proofs.YtehefmgplkolaaaW.PrintLast Go.Proofs.YtehefmgplkolaaaW.PrintMore
attribute [local go_sem] max2_int min2_int max_two min_two max_three min_three max_four min_four
set_option linter.unusedVariables false
set_option linter.unusedSimpArgs false
def impl_classUp.l0:Nat→List (S48)→Int→Int→Option (Bool)
  |0,_,_,_=>none
  |k+1,x0,x2,x7=>if x7≥0 then (if x7=x2 then (some true) else (if 0≤x7 then (if x7<(x0.length:Int) then (impl_classUp.l0 k x0 x2 ((rd_T48 x0 x7).f0)) else (none)) else (none))) else (some false)
def impl_classUp.f (k:Nat) (l0:List (S48)) (a1:Int) (a2:Int):Option (Bool):=impl_classUp.l0 k l0 a2 a1
set_option maxHeartbeats 8000000 in
set_option maxRecDepth 100000 in
theorem impl_classUp.calls (k:Nat) (A0:Option Addr) (c0:Nat) (l0:List (S48)) (a1:Int) (a2:Int) (r:Bool) (w:World) (hr0:Kd.C k48 w A0 l0.length l0) (hc0:l0.length≤c0) (h:impl_classUp.f k l0 a1 a2=some r):
  Calls Try.prog 63 #[.slice A0 l0.length c0,.int .i64 a1,.int .i64 a2] w fun e w'=>e= .returned (.bool r)∧Drawn0 w w':=by
 have HR0:=aK hr0;have HC0:=aK hc0;clear hr0 hc0;have H:(impl_classUp.l0 k l0 a2 a1)=some r:=h
 clear h;have H':=aK H;clear H;go_enter Try.func63,Try.ntmps63;go_wp2
 go_loopg [7] k (fun kq v7 w'=> ∃(x7_1:Int),v7= .int .i64 x7_1∧Aside0 (impl_classUp.l0 kq l0 a2 x7_1=some r)∧Aside0 (kq≤k)∧Drawn0 w w')
 case atStart=>exact ⟨(a1),zz9,H',⟨Nat.le_refl _⟩,by repeat (first|exact Drawn0.refl _|apply Drawn0.step)⟩
 case round =>
  clear H';(try clear p2);obtain ⟨x7_1,rfl,HA,HK1,⟨m1,rfl⟩⟩:=hrel
  cases gk with
  |zero=>exact absurd HA.out (by simp [impl_classUp.l0])
  | succ k1 =>
   have H:=HA.out;clear HA;simp only [impl_classUp.l0] at H;by_cases c4:x7_1≥0
   ·rw [if_pos c4] at H
    have c4b0:decide (0≤x7_1)=true:=decide_eq_true c4
    clear c4;by_cases c5:x7_1=a2
    ·rw [if_pos c5] at H
     have c5b0:(x7_1==a2)=true:=beq_iff_eq.mpr c5
     have c5b1:(x7_1 !=a2)=false:=bne_eq_false_iff_eq.mpr c5
     clear c5;obtain rfl:=Option.some.inj H;go_wp2;go_ret;exact ⟨zz9,zz31⟩
    ·rw [if_neg c5] at H
     have c5b0:(x7_1==a2)=false:=beq_eq_false_iff_ne.mpr c5
     have c5b1:(x7_1 !=a2)=true:=bne_iff_ne.mpr c5
     by_cases c6:0≤x7_1
     ·rw [if_pos c6] at H
      have c6b0:decide (0≤x7_1)=true:=decide_eq_true c6
      clear c6;by_cases c7:x7_1<(l0.length:Int)
      ·rw [if_pos c7] at H
       have c7b0:decide (x7_1<(l0.length:Int))=true:=decide_eq_true c7
       clear c7;have H':=aK H;clear H;have p261:0≤(x7_1:Int):=of_decide_eq_true zz6
       have q261:x7_1<(l0.length:Int):=of_decide_eq_true zz6
       obtain ⟨ad261,A261_1,c261_1,e261,hx261_0,hx261_1,hl261_1,hi261_1⟩:=at_T48 HR0.out x7_1 p261 q261
       cases e261
       have HR261_1:=aK hi261_1;have HC261_1:=aK hl261_1;clear hi261_1 hl261_1;replace p261:=eq_true p261;replace q261:=eq_true q261;go_wp2
       go_roundg k1
       case measure=>have:=HK1.out;omega
       case rel=>exact ⟨((rd_T48 l0 x7_1).f0),zz9,H',⟨by have:=HK1.out;omega⟩,by repeat (first|exact Drawn0.refl _|apply Drawn0.step)⟩
      ·rw [if_neg c7] at H
       exact absurd H (by simp)
     ·rw [if_neg c6] at H
      exact absurd H (by simp)
   ·rw [if_neg c4] at H
    have c4b0:decide (0≤x7_1)=false:=decide_eq_false c4
    clear c4;obtain rfl:=Option.some.inj H;go_wp2;go_ret;exact ⟨zz9,zz31⟩
end Go.Proofs.Ytehefmgplkolaaa.K
namespace Go.Proofs.Ytehefmgplkolaaa.K
open Go.RowKit Go.Proofs.YtehefmgplkolaaaW.PrintWords Go.Proofs.YtehefmgplkolaaaW.PrintLast Go.Proofs.YtehefmgplkolaaaW.PrintMore
attribute [local go_sem] max2_int min2_int max_two min_two max_three min_three max_four min_four
set_option linter.unusedVariables false
set_option linter.unusedSimpArgs false
def kndIn (l0:List S48) (a b:Int):Option Bool:=
 if a=b∨b=0 then some true
 else if a=2 then some (!decide (b=1))
 else if a=3∨a=4 then some (decide (b=8))
 else if 8≤a then (if 8≤b then impl_classUp.f 100 l0 (a - 8) (b - 8) else some false)
 else some false
theorem kv0:kv 0:=by unfold kv;omega
theorem kv1:kv 1:=by unfold kv;omega
theorem kv8:kv 8:=by unfold kv;omega
set_option maxHeartbeats 4000000 in
theorem impl_kindIn.calls (A0:Option Addr) (c0:Nat) (l0:List S48) (a b:Int) (r:Bool) (w:World) (hr0:Kd.C k48 w A0 l0.length l0) (hc0:l0.length≤c0) (ha:kv a) (hb:kv b) (hB:b≤9223372036854775807) (h:kndIn l0 a b=some r):
  Calls Try.prog 54 #[.slice A0 l0.length c0,kndV a,kndV b] w fun e w'=>e= .returned (.bool r)∧Below w.heap.size w w':=by
 have HR0:=aK hr0;have HC0:=aK hc0;have E1:=kind_eql ha hb;have E2: ∀W:World,(binOp .eql 70 (kndV b) (.iface 78 (.agg #[]))).run Try.prog W= .ok (.bool (decide (b=0))) W:=kind_eql hb kv0
 have E3: ∀W:World,(binOp .neq 70 (kndV b) (.iface 73 (.agg #[]))).run Try.prog W= .ok (.bool (!decide (b=1))) W:=kind_neq hb kv1
 have E4: ∀W:World,(binOp .eql 70 (kndV b) (.iface 77 (.agg #[.int .i64 0]))).run Try.prog W= .ok (.bool (decide (b=8))) W:=kind_eql hb kv8
 have G1:=guard_knd a;have G2:=guard_knd b;have T1:=kind_null ha;have T2:=kind_arr ha;have T3:=kind_class ha;have T4:=kind_class hb;clear hr0 hc0;by_cases c1:a=b
 ·have HR := aK (Option.some.inj ((if_pos (Or.inl c1)).symm.trans h))
  have d1:decide (a=b)=true:=decide_eq_true c1
  clear h c1;go_enter Try.func54,Try.ntmps54;go_wp2;go_ret;exact ⟨by rw [←HR.out];rfl,Below.refl _ _⟩
 have d1:decide (a=b)=false:=decide_eq_false c1
 by_cases c2:b=0
 ·have HR := aK (Option.some.inj ((if_pos (Or.inr c2)).symm.trans h))
  have d2:decide (b=0)=true:=decide_eq_true c2
  clear h c1 c2;go_enter Try.func54,Try.ntmps54;go_wp2;go_ret;exact ⟨by rw [←HR.out];rfl,Below.refl _ _⟩
 have d2:decide (b=0)=false:=decide_eq_false c2
 have h:=(if_neg (show¬(a=b∨b=0) from fun z=>z.elim c1 c2)).symm.trans h;by_cases c3:a=2
 ·have HR := aK (Option.some.inj ((if_pos c3).symm.trans h))
  have d3:decide (a=2)=true:=decide_eq_true c3
  clear h c1 c2 c3;go_enter Try.func54,Try.ntmps54;go_wp2;go_ret;exact ⟨by rw [←HR.out];rfl,by repeat (first|exact Below.refl _ _|apply below_alloc|(refine below_set ?_ (by simp)))⟩
 have h:=(if_neg c3).symm.trans h;have d3:decide (a=2)=false:=decide_eq_false c3
 by_cases c4:a=3∨a=4
 ·have HR := aK (Option.some.inj ((if_pos c4).symm.trans h))
  have d4:decide (a=3∨a=4)=true:=decide_eq_true c4
  clear h c1 c2 c3 c4;go_enter Try.func54,Try.ntmps54;go_wp2;go_ret;exact ⟨by rw [←HR.out];rfl,by repeat (first|exact Below.refl _ _|apply below_alloc|(refine below_set ?_ (by simp)))⟩
 have h:=(if_neg c4).symm.trans h;have d4:decide (a=3∨a=4)=false:=decide_eq_false c4
 by_cases c5:8≤a
 ·have h := (if_pos c5).symm.trans h
  have d5:decide (8≤a)=true:=decide_eq_true c5
  have e5:clsOf a=a - 8:=if_pos c5
  by_cases c6:8≤b
  ·have HR := aK ((if_pos c6).symm.trans h)
   have d6:decide (8≤b)=true:=decide_eq_true c6
   have e6:clsOf b=b - 8:=if_pos c6
   clear h c1 c2 c3 c4;go_enter Try.func54,Try.ntmps54
   go_wp2_with (go_at_call 63;refine (impl_classUp.calls 100 A0 c0 l0 (a - 8) (b - 8) r _ (Kd.C_below HR0.out (by repeat (first|exact Below.refl _ _|apply below_alloc))) HC0.out HR.out).mono ?_;rintro e w' ⟨rfl,⟨n,rfl⟩⟩)
   go_ret;exact ⟨rfl,by repeat (first|exact Below.refl _ _|apply below_alloc|apply pw_below_drewN|(refine below_set ?_ (by simp)))⟩
  ·have HR := aK (Option.some.inj ((if_neg c6).symm.trans h))
   have d6:decide (8≤b)=false:=decide_eq_false c6
   have e6:clsOf b=0:=if_neg c6
   clear h c1 c2 c3 c4;go_enter Try.func54,Try.ntmps54;go_wp2;go_ret;exact ⟨by rw [←HR.out];rfl,by repeat (first|exact Below.refl _ _|apply below_alloc|(refine below_set ?_ (by simp)))⟩
 have HR:=aK (Option.some.inj ((if_neg c5).symm.trans h));have d5:decide (8≤a)=false:=decide_eq_false c5
 clear h c1 c2 c3 c4;go_enter Try.func54,Try.ntmps54;go_wp2;go_ret;exact ⟨by rw [←HR.out];rfl,by repeat (first|exact Below.refl _ _|apply below_alloc|(refine below_set ?_ (by simp)))⟩
end Go.Proofs.Ytehefmgplkolaaa.K
namespace Go.Proofs.Ytehefmgplkolaaa.K
open Go.RowKit Go.Proofs.YtehefmgplkolaaaW.PrintWords Go.Proofs.YtehefmgplkolaaaW.PrintLast Go.Proofs.YtehefmgplkolaaaW.PrintMore
attribute [local go_sem] max2_int min2_int max_two min_two max_three min_three max_four min_four
set_option linter.unusedVariables false
set_option linter.unusedSimpArgs false
def impl_typeIn.f (l0:List S48) (a1 a2:Int):Option Bool:=
  if l0.length≤1000∧a2≤9223372036854775807 then (if kOk l0.length a1=true then (if kOk l0.length a2=true then kndIn l0 a1 a2 else some false) else some false) else none
theorem kv_of_kOk {n t:Int} (h:kOk n t=true):kv t:=by simp [kOk] at h;unfold kv;omega
end Go.Proofs.Ytehefmgplkolaaa.K
namespace Go.Proofs.Ytehefmgplkolaaa.K
open Go.RowKit Go.Proofs.YtehefmgplkolaaaW.PrintWords Go.Proofs.YtehefmgplkolaaaW.PrintLast Go.Proofs.YtehefmgplkolaaaW.PrintMore
attribute [local go_sem] max2_int min2_int max_two min_two max_three min_three max_four min_four
set_option linter.unusedVariables false
set_option linter.unusedSimpArgs false
def kKnd:Kd Int:=Kd.scalar kndV (fun x=>by obtain ⟨u,v,h⟩:=kndV_iface x;rw [h];rfl)
def nearIn (cn:Int→Option Bool) (un:Int→Int→Option Bool) (one:Int):List Int→Option Bool
  |[]=>some true
  |o::os=>(cn o).bind fun c=>if c=true then ((un one o).bind fun u=>if u=true then nearIn cn un one os else some false) else nearIn cn un one os
def nearOut (cn:Int→Option Bool) (un:Int→Int→Option Bool) (all:List Int):List Int→Option (Option Int)
  |[]=>some none
  |o::os=>(cn o).bind fun c=>if c=true then ((nearIn cn un o all).bind fun l=>if l=true then some (some o) else nearOut cn un all os) else nearOut cn un all os
theorem kKnd_at {W:World} {A:Option Addr} {l:List Int} (h:Kd.C kKnd W A l.length l) (i:Nat) (hi:i<l.length): ∃ad,A=some ad∧W.cell? (ad.add i)=some (kndV (l.getD i 0)):=by
 obtain ⟨ad,c,hA,hl,hk,hc⟩:=Kd.C_get h 0 (i:Int) (by omega) (by omega);have hk':c=[kndV (l.getD i 0)]:=by have e:c=[kndV (l.getD ((i:Int).toNat) 0)]:=hk;simpa using e
 refine ⟨ad,hA,?_⟩;have:=hc 0 (kndV (l.getD i 0)) (by rw [hk'];rfl)
 simpa [kKnd,Kd.scalar] using this
set_option maxHeartbeats 8000000 in
set_option maxRecDepth 100000 in
theorem nearest_calls (p1 p2 p3 : Value) (cn : Int → Option Bool) (un : Int → Int → Option Bool) (A : Option Addr) (c : Nat) (l : List Int) (r : Option Int) (W : World)
  (hr:Kd.C kKnd W A l.length l) (hc:l.length≤c) (hl:l.length≤1005)
  (H1: ∀t w1 b,t∈l→Below W.heap.size W w1→cn t=some b→Calls Try.prog 53 #[kndV t,p1,p2,p3] w1 fun e w2=>e= .returned (.bool b)∧Below w1.heap.size w1 w2)
  (H2: ∀s t w1 b,s∈l→t∈l→Below W.heap.size W w1→un s t=some b→Calls Try.prog 55 #[kndV s,kndV t,p1] w1 fun e w2=>e= .returned (.bool b)∧Below w1.heap.size w1 w2)
  (h:nearOut cn un l l=some r):
  Calls Try.prog 56 #[.slice A l.length c,.func (.func 53) #[] #[p1,p2,p3],.func (.func 55) #[] #[p1]] W fun e w'=>e= .returned (.tuple #[r.elim .nilIface kndV,.bool r.isSome])∧Below W.heap.size W w':=by
 have HR:=aK hr;have K1:=aK H1;have K2:=aK H2;have H:=aK h;clear hr H1 H2 h;go_enter Try.func56,Try.ntmps56;go_wp2
 go_loopw [16] (fun i wr=> ∃k:Nat,k≤l.length∧i= .int .i64 k∧Aside0 (nearOut cn un l (l.drop k)=some r)∧Aside0 (Below W.heap.size W wr)) (fun i _=>l.length - (intOf i).toNat)
 case atStart=>exact ⟨0,Nat.zero_le _,rfl,by simpa using H,⟨Below.refl _ _⟩⟩
 case round =>
  obtain ⟨k,hk,rfl,HN,HB⟩:=hrel;by_cases hlt:k<l.length
  ·obtain ⟨ad, rfl, hcell⟩ := kKnd_at (Kd.C_below HR.out HB.out) k hlt
   have HM:=aK (show l.getD k 0∈l by rw [List.getD_eq_getElem?_getD,List.getElem?_eq_getElem hlt];exact List.getElem_mem _);have hd:=List.drop_eq_getElem_cons hlt;have hg:l[k]=l.getD k 0:=by simp [List.getD_eq_getElem?_getD,hlt]
   rw [hg] at hd;have HN2:=HN.out;rw [hd] at HN2;clear hd hg HN;have HD:=aK HN2;clear HN2;generalize l.getD k 0=x at*;obtain ⟨b,hb,HE0⟩:=Option.bind_eq_some_iff.mp HD.out;have HE:=aK HE0;clear HE0 HD;obtain ⟨wo,rfl⟩: ∃wo:World,wo=wr:=⟨_,rfl⟩
   cases b with
   |false=>
    go_wp2_with fail
    refine (K1.out x _ false HM.out HB.out hb).mono ?_;rintro e w2 ⟨rfl,hb2⟩;have HB2:=aK (below_step HB.out hb2);clear hb2;go_wp2
    go_roundw
    case rel=>exact ⟨k+1,by omega,by go_num,⟨by simpa using HE.out⟩,HB2⟩
    case measure=>simp [intOf];omega
   | true =>
    have HE1:=HE.out;rw [if_pos rfl] at HE1;obtain ⟨lst,hlst,HF0⟩:=Option.bind_eq_some_iff.mp HE1;have HL:=aK hlst;have HF:=aK HF0;clear HE1 hlst HF0 HE
    go_wp2_with fail
    refine (K1.out x _ true HM.out HB.out hb).mono ?_;rintro e w2 ⟨rfl,hb2⟩;have HB2:=aK (below_step HB.out hb2);clear hb2 hb hcell;go_wp2
    go_loopw [10,26] (fun lb j wr2=> ∃m:Nat,m≤l.length∧j= .int .i64 m∧lb= .bool true∧Aside0 (nearIn cn un x (l.drop m)=some lst)∧Aside0 (Below W.heap.size W wr2)) (fun _ j _=>l.length - (intOf j).toNat)
    case atStart=>exact ⟨0,Nat.zero_le _,rfl,rfl,by simpa using HL,HB2⟩
    case round=>
     obtain ⟨m,hm,rfl,rfl,HI,HB3⟩:=hrel;by_cases hlt2:m<l.length
     ·obtain ⟨ad2, he2, hcell⟩ := kKnd_at (Kd.C_below HR.out HB3.out) m hlt2
      obtain rfl:=Option.some.inj he2;have HM2:=aK (show l.getD m 0∈l by rw [List.getD_eq_getElem?_getD,List.getElem?_eq_getElem hlt2];exact List.getElem_mem _);have hd:=List.drop_eq_getElem_cons hlt2;have hg:l[m]=l.getD m 0:=by simp [List.getD_eq_getElem?_getD,hlt2]
      rw [hg] at hd;have HN2:=HI.out;rw [hd] at HN2;clear hd hg HI he2;obtain ⟨b2,hb2,HG0⟩:=Option.bind_eq_some_iff.mp HN2;have HG:=aK HG0;clear HN2 HG0;generalize l.getD m 0=y at*
      cases b2 with
      |false=>
       go_wp2_with fail
       refine (K1.out y _ false HM2.out HB3.out hb2).mono ?_;rintro e w3 ⟨rfl,hb4⟩;have HB4:=aK (below_step HB3.out hb4);clear hb4;go_wp2
       go_roundw
       case rel=>exact ⟨m+1,by omega,by go_num,rfl,⟨by simpa using HG.out⟩,HB4⟩
       case measure=>simp [intOf];omega
      | true =>
       have HG1:=HG.out;rw [if_pos rfl] at HG1;obtain ⟨u,hu,HH0⟩:=Option.bind_eq_some_iff.mp HG1;have HH:=aK HH0;have HU:=aK hu;clear HG1 HH0 HG hu
       go_wp2_with fail
       refine (K1.out y _ true HM2.out HB3.out hb2).mono ?_;rintro e w3 ⟨rfl,hb4⟩;have HB4:=aK (below_step HB3.out hb4);clear hb4 hcell hb2
       go_wp2_with fail
       refine (K2.out x y _ u HM.out HM2.out HB4.out HU.out).mono ?_;rintro e w4 ⟨rfl,hb5⟩;have HB5:=aK (below_step HB4.out hb5);clear hb5
       cases u with
       |true=>
        go_wp2
        go_roundw
        case rel=>exact ⟨m+1,by omega,by go_num,rfl,⟨by simpa using HH.out⟩,HB5⟩
        case measure=>simp [intOf];omega
       |false=>
        have HZ:=HF.out;rw [show lst=false from (Option.some.inj (by simpa using HH.out)).symm] at HZ;have HZ2:=aK (show nearOut cn un l (l.drop (k+1))=some r by simpa using HZ);clear HZ;go_wp2
        go_roundw
        case rel=>exact ⟨k+1,by omega,by go_num,HZ2,HB5⟩
        case measure=>simp [intOf];omega
     ·have hm2 : m = l.length := by omega
      have HZ:=HF.out;have hl2:=HI.out;rw [hm2,List.drop_length] at hl2;rw [show lst=true from (Option.some.inj hl2).symm,if_pos rfl] at HZ;have HZ2:=aK (Option.some.inj HZ);clear HZ hl2 hm2;go_wp2
      go_ret2
      exact ⟨by rw [←HZ2.out];rfl,HB3.out⟩
  ·have hk2 : k = l.length := by omega
   have HZ:=HN.out;rw [hk2,List.drop_length] at HZ;have HZ2:=aK (Option.some.inj HZ);clear HZ hk2;go_wp2
   go_ret2
   exact ⟨by rw [←HZ2.out];rfl,HB.out⟩
end Go.Proofs.Ytehefmgplkolaaa.K
