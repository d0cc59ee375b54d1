import Derived.Test.YtnlieahdakafbaaPc24
import Derived.Test.YtnlieahdakafbaaPc26
import Derived.BigRegion
namespace Go.Proofs.Ytnlieahdakafbaa.K
open Go.RowKit Go.Proofs.YtnlieahdakafbaaW.PrintWords Go.Proofs.YtnlieahdakafbaaW.PrintLast Go.Proofs.YtnlieahdakafbaaW.PrintMore
attribute [local go_sem] max2_int min2_int max_two min_two max_three min_three max_four min_four
set_option linter.unusedVariables false
set_option linter.unusedSimpArgs false
mutual
def impl_ClassesOk.j0:Nat→List (S112)→Bool→Option (Bool)
 |0,_,_=>none
 |k+1,x0,x15=>if x15=true then (some false) else (if 0<(x0.length:Int) then (if ((rd_T112 x0 0).f0)=(-1) then (impl_ClassesOk.j1 k x0 ((((rd_T112 x0 0).f1).length:Int) !=0)) else (impl_ClassesOk.j1 k x0 true)) else (none))
def impl_ClassesOk.j1:Nat→List (S112)→Bool→Option (Bool)
 |0,_,_=>none
 |k+1,x0,x28=>if x28=true then (some false) else (if 1<(x0.length:Int) then (if ((rd_T112 x0 1).f0)=0 then (if (((rd_T112 x0 1).f1).length:Int)=1 then (if 0<(((rd_T112 x0 1).f1).length:Int) then (impl_ClassesOk.j2 k x0 ((rd ((rd_T112 x0 1).f1) 0) !=1)) else (none)) else (impl_ClassesOk.j2 k x0 true)) else (impl_ClassesOk.j2 k x0 true)) else (none))
def impl_ClassesOk.j2:Nat→List (S112)→Bool→Option (Bool)
 |0,_,_=>none
 |k+1,x0,x47=>if x47=true then (some false) else (impl_ClassesOk.l0 k x0 x0 (x0.length:Int) 0)
def impl_ClassesOk.l0:Nat→List (S112)→List (S112)→Int→Int→Option (Bool)
 |0,_,_,_,_=>none
 |k+1,x0,x48,x49,x50=>if x50<x49 then (if 0≤x50 then (if x50<(x48.length:Int) then (if x50>1 then (if ((rd_T112 x48 x50).f0)<0 then (impl_ClassesOk.j4 k x0 x48 x49 x50 true ((rd_T112 x48 x50).f0) ((rd_T112 x48 x50).f1)) else (impl_ClassesOk.j4 k x0 x48 x49 x50 (decide (((rd_T112 x48 x50).f0)≥x50)) ((rd_T112 x48 x50).f0) ((rd_T112 x48 x50).f1))) else (impl_ClassesOk.j4 k x0 x48 x49 x50 false ((rd_T112 x48 x50).f0) ((rd_T112 x48 x50).f1))) else (none)) else (none)) else (some true)
def impl_ClassesOk.j4:Nat→List (S112)→List (S112)→Int→Int→Bool→Int→List Int→Option (Bool)
 |0,_,_,_,_,_,_,_=>none
 |k+1,x0,x48,x49,x50,x67,x323000,x323001=>if x67=true then (some false) else (if (x323001.length:Int)>2 then (some false) else (impl_ClassesOk.l1 k x0 x48 x49 x50 x323001 (x323001.length:Int) 0))
def impl_ClassesOk.l1:Nat→List (S112)→List (S112)→Int→Int→List Int→Int→Int→Option (Bool)
 |0,_,_,_,_,_,_,_=>none
 |k+1,x0,x48,x49,x50,x73,x74,x75=>if x75<x74 then (if 0≤x75 then (if x75<(x73.length:Int) then ((impl_fieldType.f (x0.length:Int) (rd x73 x75)).bind fun t324=>(if t324=true then (impl_ClassesOk.l1 k x0 x48 x49 x50 x73 x74 (wrap64 (x75+1))) else (some false))) else (none)) else (none)) else (impl_ClassesOk.l0 k x0 x48 x49 (wrap64 (x50+1)))
end
def impl_ClassesOk.f (k:Nat) (l0:List (S112)):Option (Bool):=if (l0.length:Int)<2 then (impl_ClassesOk.j0 k l0 true) else (impl_ClassesOk.j0 k l0 (decide ((l0.length:Int)>5)))
set_option maxHeartbeats 8000000 in
set_option maxRecDepth 100000 in
theorem impl_ClassesOk.calls (k : Nat) (A0 : Option Addr) (c0 : Nat) (l0 : List (S112)) (r : Bool) (w : World) (hr0 : Kd.C k112 w A0 l0.length l0) (hc0 : l0.length ≤ c0) (h : impl_ClassesOk.f k l0 = some r) :
  Calls Try.prog 65 #[.slice A0 l0.length c0] w fun e w'=>e= .returned (.bool r)∧Below w.heap.size w w':=by
 have hu112:=Try.underlying112;have HR0:=aK hr0;have HC0:=aK hc0;clear hr0 hc0;have HB:=aK (Below.refl w.heap.size w);have H:(if (l0.length:Int)<2 then (impl_ClassesOk.j0 k l0 true) else (impl_ClassesOk.j0 k l0 (decide ((l0.length:Int)>5))))=some r:=h
 clear h;have HC2:=aK H;clear H;go_enter Try.func65,Try.ntmps65
 go_upto_region 1 with (fail)
 go_cut [15] (fun v15 wc=> ∃(kq:Nat) (x15_1:Bool),v15= .bool x15_1∧Aside0 (impl_ClassesOk.j0 kq l0 x15_1=some r)∧Aside0 (kq≤k)∧Aside0 (Below w.heap.size w wc))
 case first=>
  have H:=HC2.out;clear HC2;by_cases c3:(l0.length:Int)<2
  ·rw [if_pos c3] at H
   have c3b0:decide ((l0.length:Int)<2)=true:=decide_eq_true c3
   have c3b1:decide (l0.length<2)=true:=decide_eq_true (by omega)
   clear c3
   (first|rw [c3b0]|(simp only [i64_w,i32_w];rw [c3b0])|skip)
   have H':=aK H;clear H;go_wp2;go_meet
   case rel=>exact ⟨_,(true),zz6,H',⟨by first|omega|exact Nat.le_refl _⟩,⟨by repeat (first|(with_reducible first|exact HB.out|apply below_alloc|apply pw_below_drewN|apply below_drew1)|exact HB.out)⟩⟩
  ·rw [if_neg c3] at H
   have c3b0:decide ((l0.length:Int)<2)=false:=decide_eq_false c3
   have c3b1:decide (l0.length<2)=false:=decide_eq_false (by omega)
   clear c3
   (first|rw [c3b0]|(simp only [i64_w,i32_w];rw [c3b0])|skip)
   have H':=aK H;clear H;go_wp2;go_meet
   case rel=>exact ⟨_,(decide ((l0.length:Int)>5)),zz6,H',⟨by first|omega|exact Nat.le_refl _⟩,⟨by repeat (first|(with_reducible first|exact HB.out|apply below_alloc|apply pw_below_drewN|apply below_drew1)|exact HB.out)⟩⟩
 case rest =>
  clear HC2;(try clear p2);(try clear c3);(try clear c3b0);(try clear c3b1);obtain ⟨kq,x15_1,rfl,HA,HJ1,HB⟩:=hcut
  cases kq with
  |zero=>exact absurd HA.out (by simp [impl_ClassesOk.j0])
  | succ kj1 =>
   have H:=HA.out;clear HA;simp only [impl_ClassesOk.j0] at H;by_cases c4:x15_1=true
   ·subst c4
    rw [if_pos rfl] at H;obtain rfl:=Option.some.inj H;go_wp2;go_ret;exact ⟨zz7,zz1⟩
   ·replace c4 := Bool.eq_false_iff.mpr c4
    subst c4;rw [if_neg (show¬(false=true) by decide)] at H;have HC5:=aK H;clear H
    go_upto_region 3 with (fail)
    go_cut [28] (fun v28 wc=> ∃(kq:Nat) (x28_4:Bool),v28= .bool x28_4∧Aside0 (impl_ClassesOk.j1 kq l0 x28_4=some r)∧Aside0 (kq≤kj1)∧Aside0 (Below w.heap.size w wc))
    case first=>
     have H:=HC5.out;clear HC5;by_cases c6:0<(l0.length:Int)
     ·rw [if_pos c6] at H
      have c6b0:decide (0<(l0.length:Int))=true:=decide_eq_true c6
      have c6b1:decide (0<l0.length)=true:=decide_eq_true (by omega)
      clear c6
      (first|rw [c6b0]|(simp only [i64_w,i32_w];rw [c6b0])|skip)
      by_cases c7:((rd_T112 l0 0).f0)=(-1)
      ·rw [if_pos c7] at H
       have c7b0:(((rd_T112 l0 0).f0)==(-1))=true:=beq_iff_eq.mpr c7
       have c7b1:(((rd_T112 l0 0).f0) !=(-1))=false:=bne_eq_false_iff_eq.mpr c7
       clear c7;have H':=aK H;clear H;have p316:0≤(0:Int):=(by omega)
       have q316:0<(l0.length:Int):=of_decide_eq_true zz3
       obtain ⟨ad316,A316_1,c316_1,e316,hx316_0,hx316_1,hl316_1,hi316_1⟩:=at_T112 HR0.out 0 p316 q316
       cases e316
       have qi316:(0<l0.length)=True:=eq_true (by omega)
       (try rw [show ((0:Int)).toNat=0 from rfl] at hx316_0)
       (try rw [show 0*2=0 from rfl] at hx316_0)
       (try rw [Addr.add_zero'] at hx316_0)
       (try rw [show ((0:Int)).toNat=0 from rfl] at hx316_1)
       (try rw [show 0*2=0 from rfl] at hx316_1)
       (try rw [Addr.add_zero'] at hx316_1)
       replace hx316_0:=(HB.out.cell (World.block_lt_of_cell? w _ hx316_0)).trans hx316_0;replace hx316_1:=(HB.out.cell (World.block_lt_of_cell? w _ hx316_1)).trans hx316_1;have HR316_1:=aK hi316_1;have HC316_1:=aK hl316_1;clear hi316_1 hl316_1;replace p316:=eq_true p316;replace q316:=eq_true q316;have p317:0≤(0:Int):=(by omega)
       have q317:0<(l0.length:Int):=of_decide_eq_true zz3
       obtain ⟨ad317,A317_1,c317_1,e317,hx317_0,hx317_1,hl317_1,hi317_1⟩:=at_T112 HR0.out 0 p317 q317;obtain rfl:ad316=ad317:=(by injection e317);have qi317:(0<l0.length)=True:=eq_true (by omega)
       (try rw [show ((0:Int)).toNat=0 from rfl] at hx317_0)
       (try rw [show 0*2=0 from rfl] at hx317_0)
       (try rw [Addr.add_zero'] at hx317_0)
       (try rw [show ((0:Int)).toNat=0 from rfl] at hx317_1)
       (try rw [show 0*2=0 from rfl] at hx317_1)
       (try rw [Addr.add_zero'] at hx317_1)
       replace hx317_0:=(HB.out.cell (World.block_lt_of_cell? w _ hx317_0)).trans hx317_0;replace hx317_1:=(HB.out.cell (World.block_lt_of_cell? w _ hx317_1)).trans hx317_1;have HR317_1:=aK hi317_1;have HC317_1:=aK hl317_1;clear hi317_1 hl317_1;replace p317:=eq_true p317;replace q317:=eq_true q317;have ea_:=Option.some.inj (hx316_1.symm.trans hx317_1);injection ea_ with ea_ en_ ec_;subst ea_;subst ec_;clear en_;go_wp2;go_meet
       case rel=>exact ⟨_,(((((rd_T112 l0 0).f1).length:Int) !=0)),zz6,H',⟨by have:=HJ1.out;first|omega|exact Nat.le_refl _⟩,⟨by repeat (first|(with_reducible first|exact HB.out|apply below_alloc|apply pw_below_drewN|apply below_drew1)|exact HB.out)⟩⟩
      ·rw [if_neg c7] at H
       have c7b0:(((rd_T112 l0 0).f0)==(-1))=false:=beq_eq_false_iff_ne.mpr c7
       have c7b1:(((rd_T112 l0 0).f0) !=(-1))=true:=bne_iff_ne.mpr c7
       have H':=aK H;clear H;have p316:0≤(0:Int):=(by omega)
       have q316:0<(l0.length:Int):=of_decide_eq_true zz3
       obtain ⟨ad316,A316_1,c316_1,e316,hx316_0,hx316_1,hl316_1,hi316_1⟩:=at_T112 HR0.out 0 p316 q316
       cases e316
       have qi316:(0<l0.length)=True:=eq_true (by omega)
       (try rw [show ((0:Int)).toNat=0 from rfl] at hx316_0)
       (try rw [show 0*2=0 from rfl] at hx316_0)
       (try rw [Addr.add_zero'] at hx316_0)
       (try rw [show ((0:Int)).toNat=0 from rfl] at hx316_1)
       (try rw [show 0*2=0 from rfl] at hx316_1)
       (try rw [Addr.add_zero'] at hx316_1)
       replace hx316_0:=(HB.out.cell (World.block_lt_of_cell? w _ hx316_0)).trans hx316_0;replace hx316_1:=(HB.out.cell (World.block_lt_of_cell? w _ hx316_1)).trans hx316_1;have HR316_1:=aK hi316_1;have HC316_1:=aK hl316_1;clear hi316_1 hl316_1;replace p316:=eq_true p316;replace q316:=eq_true q316;go_wp2;go_meet
       case rel=>exact ⟨_,(true),zz6,H',⟨by have:=HJ1.out;first|omega|exact Nat.le_refl _⟩,⟨by repeat (first|(with_reducible first|exact HB.out|apply below_alloc|apply pw_below_drewN|apply below_drew1)|exact HB.out)⟩⟩
     ·rw [if_neg c6] at H
      exact absurd H (by simp)
    case rest =>
     clear HC5;(try clear p2);(try clear c3);(try clear c3b0);(try clear c3b1);(try clear p3);(try clear q3);(try clear hx3);(try clear qi3);(try clear c4);(try clear c6);(try clear c6b0);(try clear c6b1);(try clear c7);(try clear c7b0);(try clear c7b1);(try clear hx316_0);(try clear hx316_1);(try clear hx317_0);(try clear hx317_1);(try clear p2);(try clear p316);(try clear p317);(try clear q316);(try clear q317);obtain ⟨kq,x28_4,rfl,HA,HJ4,HB⟩:=hcut
     cases kq with
     |zero=>exact absurd HA.out (by simp [impl_ClassesOk.j1])
     | succ kj4 =>
      have H:=HA.out;clear HA;simp only [impl_ClassesOk.j1] at H;by_cases c8:x28_4=true
      ·subst c8
       rw [if_pos rfl] at H;obtain rfl:=Option.some.inj H;go_wp2;go_ret;exact ⟨zz7,zz1⟩
      ·replace c8 := Bool.eq_false_iff.mpr c8
       subst c8;rw [if_neg (show¬(false=true) by decide)] at H;by_cases c9:1<(l0.length:Int)
       ·rw [if_pos c9] at H
        have c9b0:decide (1<(l0.length:Int))=true:=decide_eq_true c9
        have c9b1:decide (1<l0.length)=true:=decide_eq_true (by omega)
        clear c9;have HC10:=aK H;clear H;have p318:0≤(1:Int):=(by omega)
        have q318:1<(l0.length:Int):=of_decide_eq_true zz3
        obtain ⟨ad318,A318_1,c318_1,e318,hx318_0,hx318_1,hl318_1,hi318_1⟩:=at_T112 HR0.out 1 p318 q318
        cases e318
        (try simp only [show (1:Int).toNat=1 from rfl,Nat.reduceMul,Nat.reduceEqDiff,Go.Addr.add,↓reduceIte] at hx318_0)
        (try simp only [show (1:Int).toNat=1 from rfl,Nat.reduceMul,Nat.reduceEqDiff,Go.Addr.add,↓reduceIte] at hx318_1)
        have qi318:(1<l0.length)=True:=eq_true (by omega)
        (try rw [show ((1:Int)).toNat=1 from rfl] at hx318_0)
        (try rw [show 1*2=2 from rfl] at hx318_0)
        (try rw [show ((1:Int)).toNat=1 from rfl] at hx318_1)
        (try rw [show 1*2=2 from rfl] at hx318_1)
        replace hx318_0:=(HB.out.cell (World.block_lt_of_cell? w _ hx318_0)).trans hx318_0;replace hx318_1:=(HB.out.cell (World.block_lt_of_cell? w _ hx318_1)).trans hx318_1;have HR318_1:=aK hi318_1;have HC318_1:=aK hl318_1;clear hi318_1 hl318_1;replace p318:=eq_true p318;replace q318:=eq_true q318
        go_upto_region 6 with (first|((with_reducible refine gate_dst (N:=3) rfl ?_);(try (refine gate_guard (by rfl) ?_;dsimp only));refine box_event ?hg (N:=3) ?hd (cs:= #[.int .i64 0,.slice none 0 0]) (t:=112) ?hr ?_;(case hd=>rfl);(case hg=>rfl);(case hr=>first|(go_simp;done)|(go_simp;rfl));intro gb319 hg w11 hbox hb;have BK319:=aK (hbox);have GW319:=aK ((by rw [hg];exact (below_size zz1):w.heap.size≤gb319));have GE319:=aK ((by rw [hg];exact (below_size zz1):w.heap.size≤gb319));replace HB:=aK (below_step zz1 hb);clear hb hbox hg;obtain ⟨hcz12_0,hcz12_1,hfz12_0,hfz12_1⟩:=cbf2 BK319))
        (try simp only [Act.put,List.setIfInBounds_toArray,List.set_cons_zero,List.set_cons_succ])
        go_cut [47] (fun v47 wc=> ∃(kq:Nat) (x47_9:Bool),v47= .bool x47_9∧Aside0 (impl_ClassesOk.j2 kq l0 x47_9=some r)∧Aside0 (kq≤kj4)∧Aside0 (wc.heap[gb319]? =some (.cells #[.int .i64 ((rd_T112 l0 1).f0),(.slice A318_1 ((rd_T112 l0 1).f1).length c318_1)] 112 (0,0)))∧Aside0 (Below w.heap.size w wc))
        case first=>
         have H:=HC10.out;clear HC10;by_cases c13:((rd_T112 l0 1).f0)=0
         ·rw [if_pos c13] at H
          have c13b0:(((rd_T112 l0 1).f0)==0)=true:=beq_iff_eq.mpr c13
          have c13b1:(((rd_T112 l0 1).f0) !=0)=false:=bne_eq_false_iff_eq.mpr c13
          clear c13
          (first|rw [c13b0]|(simp only [i64_w,i32_w];rw [c13b0])|skip)
          by_cases c14:(((rd_T112 l0 1).f1).length:Int)=1
          ·rw [if_pos c14] at H
           have c14b0:((((rd_T112 l0 1).f1).length:Int)==1)=true:=beq_iff_eq.mpr c14
           have c14b1:((((rd_T112 l0 1).f1).length:Int) !=1)=false:=bne_eq_false_iff_eq.mpr c14
           clear c14;by_cases c15:0<(((rd_T112 l0 1).f1).length:Int)
           ·rw [if_pos c15] at H
            have c15b0:decide (0<(((rd_T112 l0 1).f1).length:Int))=true:=decide_eq_true c15
            have c15b1:decide (0<((rd_T112 l0 1).f1).length)=true:=decide_eq_true (by omega)
            clear c15;have H':=aK H;clear H;obtain ⟨hcz16_0,hcz16_1,hfz16_0,hfz16_1⟩:=cbf2 BK319;have p320:0≤(0:Int):=(by omega)
            have q320:0<(((rd_T112 l0 1).f1).length:Int):=of_decide_eq_true zz3
            obtain ⟨ad320,e320,hx320_0⟩:=Kd.at_int HR318_1.out 0 p320 q320
            cases e320
            have qi320:(0<((rd_T112 l0 1).f1).length)=True:=eq_true (by omega)
            (try rw [show ((0:Int)).toNat=0 from rfl] at hx320_0)
            (try rw [Addr.add_zero'] at hx320_0)
            have hn320_0:ad320.block≠gb319:=Nat.ne_of_lt (Nat.lt_of_lt_of_le (by have:=World.block_lt_of_cell? _ _ hx320_0;first|rwa [add_block] at this|exact this) GW319.out)
            have hn320_1:ad320.block≠gb319:=Nat.ne_of_lt (Nat.lt_of_lt_of_le (by have:=World.block_lt_of_cell? _ _ hx320_0;first|rwa [add_block] at this|exact this) GW319.out)
            replace hx320_0:=(HB.out.cell (World.block_lt_of_cell? w _ hx320_0)).trans hx320_0;replace hx320_0:=(cell_far (p:=⟨gb319,0,none⟩) (by first|(rw [add_block];exact hn320_0)|(show (Addr.add _ _).block≠_;rw [add_block];exact hn320_0)|exact hn320_0) (.int .i64 ((rd_T112 l0 1).f0))).trans hx320_0;replace hx320_0:=(cell_far (p:=⟨gb319,1,none⟩) (by first|(rw [add_block];exact hn320_1)|(show (Addr.add _ _).block≠_;rw [add_block];exact hn320_1)|exact hn320_1) (.slice (some ad320) ((rd_T112 l0 1).f1).length c318_1)).trans hx320_0;clear hn320_0;clear hn320_1;replace p320:=eq_true p320;replace q320:=eq_true q320;go_wp2;go_meet
            case rel=>exact ⟨_,(((rd ((rd_T112 l0 1).f1) 0) !=1)),zz6,H',⟨by have:=HJ1.out;have:=HJ4.out;first|omega|exact Nat.le_refl _⟩,⟨by (with_reducible repeat (first|refine blk_drewN ?_ _|refine blk_drew ?_|refine blk_alloc ?_ _));refine blk_put (cs:= #[.int .i64 ((rd_T112 l0 1).f0),.slice none 0 0]) ?_ 1 _ rfl;(with_reducible repeat (first|refine blk_drewN ?_ _|refine blk_drew ?_|refine blk_alloc ?_ _));refine blk_put (cs:= #[.int .i64 0,.slice none 0 0]) ?_ 0 _ rfl;(with_reducible repeat (first|refine blk_drewN ?_ _|refine blk_drew ?_|refine blk_alloc ?_ _));exact BK319.out⟩,⟨by repeat (first|(with_reducible first|exact HB.out|apply below_alloc|apply pw_below_drewN|apply below_drew1|refine below_set ?_ GE319.out)|exact HB.out)⟩⟩
           ·rw [if_neg c15] at H
            exact absurd H (by simp)
          ·rw [if_neg c14] at H
           have c14b0:((((rd_T112 l0 1).f1).length:Int)==1)=false:=beq_eq_false_iff_ne.mpr c14
           have c14b1:((((rd_T112 l0 1).f1).length:Int) !=1)=true:=bne_iff_ne.mpr c14
           have H':=aK H;clear H;obtain ⟨hcz17_0,hcz17_1,hfz17_0,hfz17_1⟩:=cbf2 BK319;go_wp2;go_meet
           case rel=>exact ⟨_,(true),zz6,H',⟨by have:=HJ1.out;have:=HJ4.out;first|omega|exact Nat.le_refl _⟩,⟨by (with_reducible repeat (first|refine blk_drewN ?_ _|refine blk_drew ?_|refine blk_alloc ?_ _));refine blk_put (cs:= #[.int .i64 ((rd_T112 l0 1).f0),.slice none 0 0]) ?_ 1 _ rfl;(with_reducible repeat (first|refine blk_drewN ?_ _|refine blk_drew ?_|refine blk_alloc ?_ _));refine blk_put (cs:= #[.int .i64 0,.slice none 0 0]) ?_ 0 _ rfl;(with_reducible repeat (first|refine blk_drewN ?_ _|refine blk_drew ?_|refine blk_alloc ?_ _));exact BK319.out⟩,⟨by repeat (first|(with_reducible first|exact HB.out|apply below_alloc|apply pw_below_drewN|apply below_drew1|refine below_set ?_ GE319.out)|exact HB.out)⟩⟩
         ·rw [if_neg c13] at H
          have c13b0:(((rd_T112 l0 1).f0)==0)=false:=beq_eq_false_iff_ne.mpr c13
          have c13b1:(((rd_T112 l0 1).f0) !=0)=true:=bne_iff_ne.mpr c13
          (first|rw [c13b0]|(simp only [i64_w,i32_w];rw [c13b0])|skip)
          have H':=aK H;clear H;obtain ⟨hcz18_0,hcz18_1,hfz18_0,hfz18_1⟩:=cbf2 BK319;go_wp2;go_meet
          case rel=>exact ⟨_,(true),zz6,H',⟨by have:=HJ1.out;have:=HJ4.out;first|omega|exact Nat.le_refl _⟩,⟨by (with_reducible repeat (first|refine blk_drewN ?_ _|refine blk_drew ?_|refine blk_alloc ?_ _));refine blk_put (cs:= #[.int .i64 ((rd_T112 l0 1).f0),.slice none 0 0]) ?_ 1 _ rfl;(with_reducible repeat (first|refine blk_drewN ?_ _|refine blk_drew ?_|refine blk_alloc ?_ _));refine blk_put (cs:= #[.int .i64 0,.slice none 0 0]) ?_ 0 _ rfl;(with_reducible repeat (first|refine blk_drewN ?_ _|refine blk_drew ?_|refine blk_alloc ?_ _));exact BK319.out⟩,⟨by repeat (first|(with_reducible first|exact HB.out|apply below_alloc|apply pw_below_drewN|apply below_drew1|refine below_set ?_ GE319.out)|exact HB.out)⟩⟩
        case rest =>
         clear HC10;(try clear c1);(try clear p2);(try clear c3);(try clear c3b0);(try clear c3b1);(try clear p3);(try clear q3);(try clear hx3);(try clear qi3);(try clear c4);(try clear c6);(try clear c6b0);(try clear c6b1);(try clear c7);(try clear c7b0);(try clear c7b1);(try clear c8);(try clear c9);(try clear c9b0);(try clear c9b1);(try clear c13);(try clear c13b0);(try clear c13b1);(try clear c14);(try clear c14b0);(try clear c14b1);(try clear c15);(try clear c15b0);(try clear c15b1);(try clear hcz12_0);(try clear hcz12_1);(try clear hcz16_0);(try clear hcz16_1);(try clear hcz17_0);(try clear hcz17_1);(try clear hcz18_0);(try clear hcz18_1);(try clear hfz12_0);(try clear hfz12_1);(try clear hfz16_0);(try clear hfz16_1);(try clear hfz17_0);(try clear hfz17_1);(try clear hfz18_0);(try clear hfz18_1);(try clear hx316_0);(try clear hx316_1);(try clear hx317_0);(try clear hx317_1);(try clear hx318_0);(try clear hx318_1);(try clear hx320_0);(try clear p2);(try clear p3);(try clear p316);(try clear p317);(try clear p318);(try clear p320);(try clear q3);(try clear q316);(try clear q317);(try clear q318);(try clear q320);obtain ⟨kq,x47_9,rfl,HA,HJ9,BK319,HB⟩:=hcut
         cases kq with
         |zero=>exact absurd HA.out (by simp [impl_ClassesOk.j2])
         | succ kj9 =>
          have H:=HA.out;clear HA;simp only [impl_ClassesOk.j2] at H;by_cases c19:x47_9=true
          ·subst c19
           rw [if_pos rfl] at H;obtain rfl:=Option.some.inj H;go_wp2;go_ret;exact ⟨zz7,zz39⟩
          ·replace c19 := Bool.eq_false_iff.mpr c19
           subst c19;rw [if_neg (show¬(false=true) by decide)] at H;have H':=aK H;clear H;go_wp2
           go_loopg [50] kj9 (fun kq v50 w'=> ∃(x50_4:Int),v50= .int .i64 x50_4∧Aside0 (impl_ClassesOk.l0 kq l0 l0 (l0.length:Int) x50_4=some r)∧Aside0 (kq≤kj9)∧Aside0 (w'.heap[gb319]? =some (.cells #[.int .i64 ((rd_T112 l0 1).f0),(.slice A318_1 ((rd_T112 l0 1).f1).length c318_1)] 112 (0,0)))∧Aside0 (Below w.heap.size w w'))
           case atStart=>exact ⟨(0),zz6,H',⟨Nat.le_refl _⟩,⟨by (with_reducible repeat (first|refine blk_drewN ?_ _|refine blk_drew ?_|refine blk_alloc ?_ _));exact BK319.out⟩,⟨by repeat (first|(with_reducible first|exact HB.out|apply below_alloc|apply pw_below_drewN|apply below_drew1|refine below_set ?_ GE319.out)|exact HB.out)⟩⟩
           case round =>
            clear H';(try clear c1);(try clear p2);(try clear c3);(try clear c3b0);(try clear c3b1);(try clear p3);(try clear q3);(try clear hx3);(try clear qi3);(try clear c4);(try clear c6);(try clear c6b0);(try clear c6b1);(try clear c7);(try clear c7b0);(try clear c7b1);(try clear c8);(try clear c9);(try clear c9b0);(try clear c9b1);(try clear c13);(try clear c13b0);(try clear c13b1);(try clear c14);(try clear c14b0);(try clear c14b1);(try clear c15);(try clear c15b0);(try clear c15b1);(try clear c19);(try clear hcz12_0);(try clear hcz12_1);(try clear hcz16_0);(try clear hcz16_1);(try clear hcz17_0);(try clear hcz17_1);(try clear hcz18_0);(try clear hcz18_1);(try clear hfz12_0);(try clear hfz12_1);(try clear hfz16_0);(try clear hfz16_1);(try clear hfz17_0);(try clear hfz17_1);(try clear hfz18_0);(try clear hfz18_1);(try clear hx316_0);(try clear hx316_1);(try clear hx317_0);(try clear hx317_1);(try clear hx318_0);(try clear hx318_1);(try clear hx320_0);(try clear p2);(try clear p3);(try clear p316);(try clear p317);(try clear p318);(try clear p320);(try clear q3);(try clear q316);(try clear q317);(try clear q318);(try clear q320);obtain ⟨x50_4,rfl,HA,HK4,BK319,HB⟩:=hrel
            cases gk with
            |zero=>exact absurd HA.out (by simp [impl_ClassesOk.l0])
            | succ k4 =>
             have H:=HA.out;clear HA;simp only [impl_ClassesOk.l0] at H;by_cases c20:x50_4<(l0.length:Int)
             ·rw [if_pos c20] at H
              have c20b0:decide (x50_4<(l0.length:Int))=true:=decide_eq_true c20
              clear c20;by_cases c21:0≤x50_4
              ·rw [if_pos c21] at H
               have c21b0:decide (0≤x50_4)=true:=decide_eq_true c21
               clear c21;by_cases c22:x50_4<(l0.length:Int)
               ·rw [if_pos c22] at H
                have c22b0:decide (x50_4<(l0.length:Int))=true:=decide_eq_true c22
                clear c22;have HC23:=aK H;clear H;have p321:0≤(x50_4:Int):=of_decide_eq_true zz3
                have q321:x50_4<(l0.length:Int):=of_decide_eq_true zz3
                obtain ⟨ad321,A321_1,c321_1,e321,hx321_0,hx321_1,hl321_1,hi321_1⟩:=at_T112 HR0.out x50_4 p321 q321;obtain rfl:ad318=ad321:=(by injection e321);replace hx321_0:=(HB.out.cell (World.block_lt_of_cell? w _ hx321_0)).trans hx321_0;replace hx321_1:=(HB.out.cell (World.block_lt_of_cell? w _ hx321_1)).trans hx321_1;have HR321_1:=aK hi321_1;have HC321_1:=aK hl321_1;clear hi321_1 hl321_1;replace p321:=eq_true p321;replace q321:=eq_true q321
                go_upto_region 11 with (first|((with_reducible refine gate_dst (N:=5) rfl ?_);(try (refine gate_guard (by rfl) ?_;dsimp only));refine box_event ?hg (N:=5) ?hd (cs:= #[.int .i64 0,.slice none 0 0]) (t:=112) ?hr ?_;(case hd=>rfl);(case hg=>rfl);(case hr=>first|(go_simp;done)|(go_simp;rfl));intro gb322 hg w24 hbox hb;have BK322:=aK (hbox);have GW322:=aK ((by rw [hg];exact (below_size zz39):w.heap.size≤gb322));have GE322:=aK ((by rw [hg];exact (below_size zz39):w.heap.size≤gb322));have NB319_322:=aK ((by rw [hg];exact Nat.ne_of_lt (blk_lt (g:=gb319) (o:= .cells #[.int .i64 ((rd_T112 l0 1).f0),.slice A318_1 ((rd_T112 l0 1).f1).length c318_1] 112 (0,0)) (by (with_reducible repeat (first|refine blk_drewN ?_ _|refine blk_drew ?_|refine blk_alloc ?_ _));exact BK319.out)):gb319≠gb322));have NB322_319:=aK ((by rw [hg];exact Nat.ne_of_gt (blk_lt (g:=gb319) (o:= .cells #[.int .i64 ((rd_T112 l0 1).f0),.slice A318_1 ((rd_T112 l0 1).f1).length c318_1] 112 (0,0)) (by (with_reducible repeat (first|refine blk_drewN ?_ _|refine blk_drew ?_|refine blk_alloc ?_ _));exact BK319.out)):gb322≠gb319));replace BK319:=aK (blk_below (g:=gb319) (o:= .cells #[.int .i64 ((rd_T112 l0 1).f0),.slice A318_1 ((rd_T112 l0 1).f1).length c318_1] 112 (0,0)) (by (with_reducible repeat (first|refine blk_drewN ?_ _|refine blk_drew ?_|refine blk_alloc ?_ _));exact BK319.out) hb);replace HB:=aK (below_step zz39 hb);clear hb hbox hg;have hnb25:=NB322_319.out;have hnc25:=NB319_322.out;obtain ⟨hcz26_0,hcz26_1,hfz26_0,hfz26_1⟩:=cbf2 BK322))
                (try simp only [Act.put,List.setIfInBounds_toArray,List.set_cons_zero,List.set_cons_succ])
                go_cut [67] (fun v67 wc=> ∃(kq:Nat) (x67_22:Bool),v67= .bool x67_22∧Aside0 (impl_ClassesOk.j4 kq l0 l0 (l0.length:Int) x50_4 x67_22 ((rd_T112 l0 x50_4).f0) ((rd_T112 l0 x50_4).f1)=some r)∧Aside0 (kq≤k4)∧Aside0 (wc.heap[gb319]? =some (.cells #[.int .i64 ((rd_T112 l0 1).f0),(.slice A318_1 ((rd_T112 l0 1).f1).length c318_1)] 112 (0,0)))∧Aside0 (wc.heap[gb322]? =some (.cells #[.int .i64 ((rd_T112 l0 x50_4).f0),(.slice A321_1 ((rd_T112 l0 x50_4).f1).length c321_1)] 112 (0,0)))∧Aside0 (Below w.heap.size w wc))
                case first=>
                 have H:=HC23.out;clear HC23;by_cases c27:x50_4>1
                 ·rw [if_pos c27] at H
                  have c27b0:decide (1<x50_4)=true:=decide_eq_true c27
                  clear c27
                  (first|rw [c27b0]|(simp only [i64_w,i32_w];rw [c27b0])|skip)
                  by_cases c28:((rd_T112 l0 x50_4).f0)<0
                  ·rw [if_pos c28] at H
                   have c28b0:decide (((rd_T112 l0 x50_4).f0)<0)=true:=decide_eq_true c28
                   clear c28;have H':=aK H;clear H;have hnb29:=NB322_319.out;have hnc29:=NB319_322.out;obtain ⟨hcz30_0,hcz30_1,hfz30_0,hfz30_1⟩:=cbf2 BK322;go_wp2;go_meet
                   case rel=>exact ⟨_,(true),zz6,H',⟨by have:=HJ1.out;have:=HJ4.out;have:=HJ9.out;have:=HK4.out;first|omega|exact Nat.le_refl _⟩,⟨by (with_reducible repeat (first|refine blk_drewN ?_ _|refine blk_drew ?_|refine blk_alloc ?_ _));refine blk_far ?_ NB319_322.out _;(with_reducible repeat (first|refine blk_drewN ?_ _|refine blk_drew ?_|refine blk_alloc ?_ _));refine blk_far ?_ NB319_322.out _;(with_reducible repeat (first|refine blk_drewN ?_ _|refine blk_drew ?_|refine blk_alloc ?_ _));exact BK319.out⟩,⟨by (with_reducible repeat (first|refine blk_drewN ?_ _|refine blk_drew ?_|refine blk_alloc ?_ _));refine blk_put (cs:= #[.int .i64 ((rd_T112 l0 x50_4).f0),.slice none 0 0]) ?_ 1 _ rfl;(with_reducible repeat (first|refine blk_drewN ?_ _|refine blk_drew ?_|refine blk_alloc ?_ _));refine blk_put (cs:= #[.int .i64 0,.slice none 0 0]) ?_ 0 _ rfl;(with_reducible repeat (first|refine blk_drewN ?_ _|refine blk_drew ?_|refine blk_alloc ?_ _));exact BK322.out⟩,⟨by repeat (first|(with_reducible first|exact HB.out|apply below_alloc|apply pw_below_drewN|apply below_drew1|refine below_set ?_ GE319.out|refine below_set ?_ GE322.out)|exact HB.out)⟩⟩
                  ·rw [if_neg c28] at H
                   have c28b0:decide (((rd_T112 l0 x50_4).f0)<0)=false:=decide_eq_false c28
                   clear c28;have H':=aK H;clear H;have hnb31:=NB322_319.out;have hnc31:=NB319_322.out;obtain ⟨hcz32_0,hcz32_1,hfz32_0,hfz32_1⟩:=cbf2 BK322;go_wp2;go_meet
                   case rel=>exact ⟨_,(decide (((rd_T112 l0 x50_4).f0)≥x50_4)),zz6,H',⟨by have:=HJ1.out;have:=HJ4.out;have:=HJ9.out;have:=HK4.out;first|omega|exact Nat.le_refl _⟩,⟨by (with_reducible repeat (first|refine blk_drewN ?_ _|refine blk_drew ?_|refine blk_alloc ?_ _));refine blk_far ?_ NB319_322.out _;(with_reducible repeat (first|refine blk_drewN ?_ _|refine blk_drew ?_|refine blk_alloc ?_ _));refine blk_far ?_ NB319_322.out _;(with_reducible repeat (first|refine blk_drewN ?_ _|refine blk_drew ?_|refine blk_alloc ?_ _));exact BK319.out⟩,⟨by (with_reducible repeat (first|refine blk_drewN ?_ _|refine blk_drew ?_|refine blk_alloc ?_ _));refine blk_put (cs:= #[.int .i64 ((rd_T112 l0 x50_4).f0),.slice none 0 0]) ?_ 1 _ rfl;(with_reducible repeat (first|refine blk_drewN ?_ _|refine blk_drew ?_|refine blk_alloc ?_ _));refine blk_put (cs:= #[.int .i64 0,.slice none 0 0]) ?_ 0 _ rfl;(with_reducible repeat (first|refine blk_drewN ?_ _|refine blk_drew ?_|refine blk_alloc ?_ _));exact BK322.out⟩,⟨by repeat (first|(with_reducible first|exact HB.out|apply below_alloc|apply pw_below_drewN|apply below_drew1|refine below_set ?_ GE319.out|refine below_set ?_ GE322.out)|exact HB.out)⟩⟩
                 ·rw [if_neg c27] at H
                  have c27b0:decide (1<x50_4)=false:=decide_eq_false c27
                  clear c27
                  (first|rw [c27b0]|(simp only [i64_w,i32_w];rw [c27b0])|skip)
                  have H':=aK H;clear H;go_wp2;go_meet
                  case rel=>exact ⟨_,(false),zz6,H',⟨by have:=HJ1.out;have:=HJ4.out;have:=HJ9.out;have:=HK4.out;first|omega|exact Nat.le_refl _⟩,⟨by (with_reducible repeat (first|refine blk_drewN ?_ _|refine blk_drew ?_|refine blk_alloc ?_ _));refine blk_far ?_ NB319_322.out _;(with_reducible repeat (first|refine blk_drewN ?_ _|refine blk_drew ?_|refine blk_alloc ?_ _));refine blk_far ?_ NB319_322.out _;(with_reducible repeat (first|refine blk_drewN ?_ _|refine blk_drew ?_|refine blk_alloc ?_ _));exact BK319.out⟩,⟨by (with_reducible repeat (first|refine blk_drewN ?_ _|refine blk_drew ?_|refine blk_alloc ?_ _));refine blk_put (cs:= #[.int .i64 ((rd_T112 l0 x50_4).f0),.slice none 0 0]) ?_ 1 _ rfl;(with_reducible repeat (first|refine blk_drewN ?_ _|refine blk_drew ?_|refine blk_alloc ?_ _));refine blk_put (cs:= #[.int .i64 0,.slice none 0 0]) ?_ 0 _ rfl;(with_reducible repeat (first|refine blk_drewN ?_ _|refine blk_drew ?_|refine blk_alloc ?_ _));exact BK322.out⟩,⟨by repeat (first|(with_reducible first|exact HB.out|apply below_alloc|apply pw_below_drewN|apply below_drew1|refine below_set ?_ GE319.out|refine below_set ?_ GE322.out)|exact HB.out)⟩⟩
                case rest =>
                 clear HC23;(try clear c1);(try clear c2);(try clear p2);(try clear c3);(try clear c3b0);(try clear c3b1);(try clear p3);(try clear q3);(try clear hx3);(try clear qi3);(try clear c4);(try clear c6);(try clear c6b0);(try clear c6b1);(try clear c7);(try clear c7b0);(try clear c7b1);(try clear c8);(try clear c9);(try clear c9b0);(try clear c9b1);(try clear c13);(try clear c13b0);(try clear c13b1);(try clear c14);(try clear c14b0);(try clear c14b1);(try clear c15);(try clear c15b0);(try clear c15b1);(try clear c19);(try clear c20);(try clear c20b0);(try clear c21);(try clear c21b0);(try clear c22);(try clear c22b0);(try clear c25);(try clear c27);(try clear c27b0);(try clear c28);(try clear c28b0);(try clear c29);(try clear c31);(try clear p31);(try clear q31);(try clear hx31);(try clear qi31);(try clear c32);(try clear p32);(try clear q32);(try clear hx32);(try clear qi32);(try clear hcz12_0);(try clear hcz12_1);(try clear hcz16_0);(try clear hcz16_1);(try clear hcz17_0);(try clear hcz17_1);(try clear hcz18_0);(try clear hcz18_1);(try clear hcz26_0);(try clear hcz26_1);(try clear hcz30_0);(try clear hcz30_1);(try clear hcz32_0);(try clear hcz32_1);(try clear hfz12_0);(try clear hfz12_1);(try clear hfz16_0);(try clear hfz16_1);(try clear hfz17_0);(try clear hfz17_1);(try clear hfz18_0);(try clear hfz18_1);(try clear hfz26_0);(try clear hfz26_1);(try clear hfz30_0);(try clear hfz30_1);(try clear hfz32_0);(try clear hfz32_1);(try clear hx316_0);(try clear hx316_1);(try clear hx317_0);(try clear hx317_1);(try clear hx318_0);(try clear hx318_1);(try clear hx320_0);(try clear hx321_0);(try clear hx321_1);(try clear p2);(try clear p3);(try clear p316);(try clear p317);(try clear p318);(try clear p320);(try clear p321);(try clear q3);(try clear q316);(try clear q317);(try clear q318);(try clear q320);(try clear q321);obtain ⟨kq,x67_22,rfl,HA,HJ22,BK319,BK322,HB⟩:=hcut
                 cases kq with
                 |zero=>exact absurd HA.out (by simp [impl_ClassesOk.j4])
                 | succ kj22 =>
                  have H:=HA.out;clear HA;simp only [impl_ClassesOk.j4] at H;by_cases c33:x67_22=true
                  ·subst c33
                   rw [if_pos rfl] at H;obtain rfl:=Option.some.inj H;go_wp2;go_ret;exact ⟨zz7,zz54⟩
                  ·replace c33 := Bool.eq_false_iff.mpr c33
                   subst c33;rw [if_neg (show¬(false=true) by decide)] at H;by_cases c34:(((rd_T112 l0 x50_4).f1).length:Int)>2
                   ·rw [if_pos c34] at H
                    have c34b0:decide (2<(((rd_T112 l0 x50_4).f1).length:Int))=true:=decide_eq_true c34
                    have c34b1:decide (2<((rd_T112 l0 x50_4).f1).length)=true:=decide_eq_true (by omega)
                    clear c34;obtain rfl:=Option.some.inj H;have hnb35:=NB322_319.out;have hnc35:=NB319_322.out;obtain ⟨hcz36_0,hcz36_1,hfz36_0,hfz36_1⟩:=cbf2 BK322;go_wp2;go_ret;exact ⟨zz7,zz54⟩
                   ·rw [if_neg c34] at H
                    have c34b0:decide (2<(((rd_T112 l0 x50_4).f1).length:Int))=false:=decide_eq_false c34
                    have c34b1:decide (2<((rd_T112 l0 x50_4).f1).length)=false:=decide_eq_false (by omega)
                    clear c34;have H':=aK H;clear H;have hnb37:=NB322_319.out;have hnc37:=NB319_322.out;obtain ⟨hcz38_0,hcz38_1,hfz38_0,hfz38_1⟩:=cbf2 BK322;go_wp2
                    go_loopg [75] kj22 (fun kq v75 w'=> ∃(x75_6:Int),v75= .int .i64 x75_6∧Aside0 (impl_ClassesOk.l1 kq l0 l0 (l0.length:Int) x50_4 ((rd_T112 l0 x50_4).f1) (((rd_T112 l0 x50_4).f1).length:Int) x75_6=some r)∧Aside0 (kq≤kj22)∧Aside0 (w'.heap[gb319]? =some (.cells #[.int .i64 ((rd_T112 l0 1).f0),(.slice A318_1 ((rd_T112 l0 1).f1).length c318_1)] 112 (0,0)))∧Aside0 (w'.heap[gb322]? =some (.cells #[.int .i64 ((rd_T112 l0 x50_4).f0),(.slice A321_1 ((rd_T112 l0 x50_4).f1).length c321_1)] 112 (0,0)))∧Aside0 (Below w.heap.size w w'))
                    case atStart=>exact ⟨(0),zz6,H',⟨Nat.le_refl _⟩,⟨by (with_reducible repeat (first|refine blk_drewN ?_ _|refine blk_drew ?_|refine blk_alloc ?_ _));exact BK319.out⟩,⟨by (with_reducible repeat (first|refine blk_drewN ?_ _|refine blk_drew ?_|refine blk_alloc ?_ _));exact BK322.out⟩,⟨by repeat (first|(with_reducible first|exact HB.out|apply below_alloc|apply pw_below_drewN|apply below_drew1|refine below_set ?_ GE319.out|refine below_set ?_ GE322.out)|exact HB.out)⟩⟩
                    case round =>
                     clear H';(try clear c1);(try clear c2);(try clear p2);(try clear c3);(try clear c3b0);(try clear c3b1);(try clear p3);(try clear q3);(try clear hx3);(try clear qi3);(try clear c4);(try clear c6);(try clear c6b0);(try clear c6b1);(try clear c7);(try clear c7b0);(try clear c7b1);(try clear c8);(try clear c9);(try clear c9b0);(try clear c9b1);(try clear c13);(try clear c13b0);(try clear c13b1);(try clear c14);(try clear c14b0);(try clear c14b1);(try clear c15);(try clear c15b0);(try clear c15b1);(try clear c19);(try clear c20);(try clear c20b0);(try clear c21);(try clear c21b0);(try clear c22);(try clear c22b0);(try clear c25);(try clear c27);(try clear c27b0);(try clear c28);(try clear c28b0);(try clear c29);(try clear c31);(try clear p31);(try clear q31);(try clear hx31);(try clear qi31);(try clear c32);(try clear p32);(try clear q32);(try clear hx32);(try clear qi32);(try clear c33);(try clear c34);(try clear c34b0);(try clear c34b1);(try clear c35);(try clear c37);(try clear hcz12_0);(try clear hcz12_1);(try clear hcz16_0);(try clear hcz16_1);(try clear hcz17_0);(try clear hcz17_1);(try clear hcz18_0);(try clear hcz18_1);(try clear hcz26_0);(try clear hcz26_1);(try clear hcz30_0);(try clear hcz30_1);(try clear hcz32_0);(try clear hcz32_1);(try clear hcz36_0);(try clear hcz36_1);(try clear hcz38_0);(try clear hcz38_1);(try clear hfz12_0);(try clear hfz12_1);(try clear hfz16_0);(try clear hfz16_1);(try clear hfz17_0);(try clear hfz17_1);(try clear hfz18_0);(try clear hfz18_1);(try clear hfz26_0);(try clear hfz26_1);(try clear hfz30_0);(try clear hfz30_1);(try clear hfz32_0);(try clear hfz32_1);(try clear hfz36_0);(try clear hfz36_1);(try clear hfz38_0);(try clear hfz38_1);(try clear hx316_0);(try clear hx316_1);(try clear hx317_0);(try clear hx317_1);(try clear hx318_0);(try clear hx318_1);(try clear hx320_0);(try clear hx321_0);(try clear hx321_1);(try clear p2);(try clear p3);(try clear p31);(try clear p316);(try clear p317);(try clear p318);(try clear p32);(try clear p320);(try clear p321);(try clear q3);(try clear q31);(try clear q316);(try clear q317);(try clear q318);(try clear q32);(try clear q320);(try clear q321);obtain ⟨x75_6,rfl,HA,HK6,BK319,BK322,HB⟩:=hrel
                     cases gk with
                     |zero=>exact absurd HA.out (by simp [impl_ClassesOk.l1])
                     | succ k6 =>
                      have H:=HA.out;clear HA;simp only [impl_ClassesOk.l1] at H;by_cases c39:x75_6<(((rd_T112 l0 x50_4).f1).length:Int)
                      ·rw [if_pos c39] at H
                       have c39b0:decide (x75_6<(((rd_T112 l0 x50_4).f1).length:Int))=true:=decide_eq_true c39
                       clear c39;by_cases c40:0≤x75_6
                       ·rw [if_pos c40] at H
                        have c40b0:decide (0≤x75_6)=true:=decide_eq_true c40
                        clear c40;by_cases c41:x75_6<(((rd_T112 l0 x50_4).f1).length:Int)
                        ·rw [if_pos c41] at H
                         have c41b0:decide (x75_6<(((rd_T112 l0 x50_4).f1).length:Int))=true:=decide_eq_true c41
                         clear c41;replace H:=Option.bind_eq_some_iff.mp H;obtain ⟨t324,A420,H⟩:=H;(try dsimp only at H);have A42:=aK A420;clear A420;by_cases c43:t324=true
                         ·subst c43
                          rw [if_pos rfl] at H;have H':=aK H;clear H;have p323:0≤(x75_6:Int):=of_decide_eq_true zz3
                          have q323:x75_6<(((rd_T112 l0 x50_4).f1).length:Int):=of_decide_eq_true zz3
                          obtain ⟨ad323,e323,hx323_0⟩:=Kd.at_int HR321_1.out x75_6 p323 q323
                          cases e323
                          replace hx323_0:=(HB.out.cell (World.block_lt_of_cell? w _ hx323_0)).trans hx323_0;replace p323:=eq_true p323;replace q323:=eq_true q323
                          go_wp2_with (first|((with_reducible refine gate_callee (f:=98) rfl ?_);refine goesL_ (some 82) rfl rfl Try.func98 (by kernel_rfl) rfl #[.int .i64 (l0.length:Int),.int .i64 (rd ((rd_T112 l0 x50_4).f1) x75_6)] rfl zz2 ?_;(with_reducible refine (impl_fieldType.calls (l0.length:Int) (rd ((rd_T112 l0 x50_4).f1) x75_6) true _ A42.out).mono ?_);rintro e w' ⟨rfl,⟨nd,rfl⟩⟩;refine ⟨_,rfl,?_⟩))
                          go_roundg k6
                          case measure=>have:=HJ1.out;have:=HJ4.out;have:=HJ9.out;have:=HK4.out;have:=HJ22.out;have:=HK6.out;omega
                          case rel=>exact ⟨(wrap64 (x75_6+1)),zz6,H',⟨by have:=HJ1.out;have:=HJ4.out;have:=HJ9.out;have:=HK4.out;have:=HJ22.out;have:=HK6.out;omega⟩,⟨by (with_reducible repeat (first|refine blk_drewN ?_ _|refine blk_drew ?_|refine blk_alloc ?_ _));exact BK319.out⟩,⟨by (with_reducible repeat (first|refine blk_drewN ?_ _|refine blk_drew ?_|refine blk_alloc ?_ _));exact BK322.out⟩,⟨by repeat (first|(with_reducible first|exact HB.out|apply below_alloc|apply pw_below_drewN|apply below_drew1|refine below_set ?_ GE319.out|refine below_set ?_ GE322.out)|exact HB.out)⟩⟩
                         ·replace c43 := Bool.eq_false_iff.mpr c43
                          subst c43;rw [if_neg (show¬(false=true) by decide)] at H;obtain rfl:=Option.some.inj H;have p323:0≤(x75_6:Int):=of_decide_eq_true zz3
                          have q323:x75_6<(((rd_T112 l0 x50_4).f1).length:Int):=of_decide_eq_true zz3
                          obtain ⟨ad323,e323,hx323_0⟩:=Kd.at_int HR321_1.out x75_6 p323 q323
                          cases e323
                          replace hx323_0:=(HB.out.cell (World.block_lt_of_cell? w _ hx323_0)).trans hx323_0;replace p323:=eq_true p323;replace q323:=eq_true q323
                          go_wp2_with (first|((with_reducible refine gate_callee (f:=98) rfl ?_);refine goesL_ (some 82) rfl rfl Try.func98 (by kernel_rfl) rfl #[.int .i64 (l0.length:Int),.int .i64 (rd ((rd_T112 l0 x50_4).f1) x75_6)] rfl zz2 ?_;(with_reducible refine (impl_fieldType.calls (l0.length:Int) (rd ((rd_T112 l0 x50_4).f1) x75_6) false _ A42.out).mono ?_);rintro e w' ⟨rfl,⟨nd,rfl⟩⟩;refine ⟨_,rfl,?_⟩))
                          go_ret;exact ⟨zz7,zz54⟩
                        ·rw [if_neg c41] at H
                         exact absurd H (by simp)
                       ·rw [if_neg c40] at H
                        exact absurd H (by simp)
                      ·rw [if_neg c39] at H
                       have c39b0:decide (x75_6<(((rd_T112 l0 x50_4).f1).length:Int))=false:=decide_eq_false c39
                       clear c39;have H':=aK H;clear H;go_wp2
                       go_roundg k6
                       case measure=>have:=HJ1.out;have:=HJ4.out;have:=HJ9.out;have:=HK4.out;have:=HJ22.out;have:=HK6.out;omega
                       case rel=>exact ⟨(wrap64 (x50_4+1)),zz6,H',⟨by have:=HJ1.out;have:=HJ4.out;have:=HJ9.out;have:=HK4.out;have:=HJ22.out;have:=HK6.out;omega⟩,⟨by (with_reducible repeat (first|refine blk_drewN ?_ _|refine blk_drew ?_|refine blk_alloc ?_ _));exact BK319.out⟩,⟨by repeat (first|(with_reducible first|exact HB.out|apply below_alloc|apply pw_below_drewN|apply below_drew1|refine below_set ?_ GE319.out|refine below_set ?_ GE322.out)|exact HB.out)⟩⟩
               ·rw [if_neg c22] at H
                exact absurd H (by simp)
              ·rw [if_neg c21] at H
               exact absurd H (by simp)
             ·rw [if_neg c20] at H
              have c20b0:decide (x50_4<(l0.length:Int))=false:=decide_eq_false c20
              clear c20;obtain rfl:=Option.some.inj H;go_wp2;go_ret;exact ⟨zz7,zz39⟩
       ·rw [if_neg c9] at H
        exact absurd H (by simp)
end Go.Proofs.Ytnlieahdakafbaa.K
namespace Go.Proofs.Ytnlieahdakafbaa.K
open Go.RowKit Go.Proofs.YtnlieahdakafbaaW.PrintWords Go.Proofs.YtnlieahdakafbaaW.PrintLast Go.Proofs.YtnlieahdakafbaaW.PrintMore
attribute [local go_sem] max2_int min2_int max_two min_two max_three min_three max_four min_four
set_option linter.unusedVariables false
set_option linter.unusedSimpArgs false
def impl_cardsOf.f (a0:Int):Option (Int):=some (wrap64 (Int.tdiv (wrap64 ((wrap64 (a0+4)) - 1)) 4))
set_option maxHeartbeats 8000000 in
set_option maxRecDepth 100000 in
theorem impl_cardsOf.calls (a0:Int) (r:Int) (w:World) (h:impl_cardsOf.f a0=some r):
  Calls Try.prog 100 #[.int .i64 a0] w fun e w'=>e= .returned (.int .i64 r)∧Drawn0 w w':=by
 have H:(some (wrap64 (Int.tdiv (wrap64 ((wrap64 (a0+4)) - 1)) 4)))=some r:=h
 clear h;obtain rfl:=Option.some.inj H;go_enter Try.func100,Try.ntmps100;go_wp2;go_ret;exact ⟨zz6,zz12⟩
end Go.Proofs.Ytnlieahdakafbaa.K
namespace Go.Proofs.Ytnlieahdakafbaa.K
open Go.RowKit Go.Proofs.YtnlieahdakafbaaW.PrintWords Go.Proofs.YtnlieahdakafbaaW.PrintLast Go.Proofs.YtnlieahdakafbaaW.PrintMore
attribute [local go_sem] max2_int min2_int max_two min_two max_three min_three max_four min_four
set_option linter.unusedVariables false
set_option linter.unusedSimpArgs false
theorem impl_partsOk1.calls (x:Int) (w:World):Calls Try.prog 99 #[.int .i64 x] w fun e w'=>e= .returned (.bool (x==0))∧Below w.heap.size w w':=by
 go_enter Try.func99,Try.ntmps99;go_wp2;go_ret;exact ⟨rfl,by repeat (first|exact Below.refl _ _|apply below_drew1|apply pw_below_drewN)⟩
set_option maxHeartbeats 4000000 in
set_option maxRecDepth 100000 in
theorem impl_every.calls (A:Option Addr) (c:Nat) (l:List Int) (W:World) (hr:Kd.C (Kd.int .i64) W A l.length l) (hl:l.length≤281474976710656):
  Calls Try.prog 101 #[.slice A l.length c,.func (.func 99) #[] #[]] W fun e w'=>e= .returned (.bool (l.all (· ==0)))∧Below W.heap.size W w':=by
 have HR:=aK hr;have HL:=aK hl;clear hr hl;go_enter Try.func101,Try.ntmps101;go_wp2
 go_loopw [9] (fun i wr=> ∃k:Nat,k≤l.length∧i= .int .i64 k∧Aside0 ((l.drop k).all (· ==0)=l.all (· ==0))∧Aside0 (Below W.heap.size W wr)) (fun i _=>l.length - (intOf i).toNat)
 case atStart=>exact ⟨0,Nat.zero_le _,rfl,⟨by simp⟩,⟨Below.refl _ _⟩⟩
 case round=>
  obtain ⟨k,hk,rfl,HN,HB⟩:=hrel;by_cases hlt:k<l.length
  ·have hd := List.drop_eq_getElem_cons hlt
   have hg:l[k]=rd l k:=by unfold rd;rw [Int.toNat_natCast,List.getD_eq_getElem?_getD,List.getElem?_eq_getElem hlt];rfl
   obtain ⟨ad,e0,hcell⟩:=Kd.at_int (Kd.C_below HR.out HB.out) k (by omega) (by omega)
   cases e0
   rw [Int.toNat_natCast] at hcell;have HN2:=HN.out;rw [hd,hg,List.all_cons] at HN2;have HX:=aK HN2;clear hd hg HN HN2;generalize rd l k=x at*;by_cases hx:x=0
   ·have d1 : (x == 0) = true := beq_iff_eq.mpr hx
    have HY:=aK (show (l.drop (k+1)).all (· ==0)=l.all (· ==0) by have:=HX.out;rw [d1,Bool.true_and] at this;exact this);clear hx HX
    go_wp2_with fail
    refine (impl_partsOk1.calls x _).mono ?_;rw [d1];rintro e w2 ⟨rfl,hb2⟩;have HB2:=aK (below_step HB.out hb2);clear hb2;go_wp2
    go_roundw
    case rel=>exact ⟨k+1,by omega,by rw [show wrap64 ((k:Int)+1)=((k+1:Nat):Int) by have:=HL.out;unfold wrap64;omega],HY,HB2⟩
    case measure=>rw [show wrap64 ((k:Int)+1)=((k+1:Nat):Int) by have:=HL.out;unfold wrap64;omega];simp only [intOf,Int.toNat_natCast];omega
   ·have d1 : (x == 0) = false := beq_eq_false_iff_ne.mpr hx
    have HY:=aK (show l.all (· ==0)=false by have:=HX.out;rw [d1,Bool.false_and] at this;exact this.symm);clear hx HX
    go_wp2_with fail
    refine (impl_partsOk1.calls x _).mono ?_;rw [d1];rintro e w2 ⟨rfl,hb2⟩;have HB2:=aK (below_step HB.out hb2);clear hb2;go_wp2;go_ret;exact ⟨by rw [HY.out];rfl,HB2.out⟩
  ·have d0 : decide ((k : Int) < l.length) = false := decide_eq_false (by omega)
   have HY:=aK (show l.all (· ==0)=true by rw [←HN.out,List.drop_eq_nil_of_le (by omega)];rfl);go_wp2;go_ret;exact ⟨by rw [HY.out];rfl,HB.out⟩
end Go.Proofs.Ytnlieahdakafbaa.K
namespace Go.Proofs.Ytnlieahdakafbaa.K
open Go.RowKit Go.Proofs.YtnlieahdakafbaaW.PrintWords Go.Proofs.YtnlieahdakafbaaW.PrintLast Go.Proofs.YtnlieahdakafbaaW.PrintMore
attribute [local go_sem] max2_int min2_int max_two min_two max_three min_three max_four min_four
set_option linter.unusedVariables false
set_option linter.unusedSimpArgs false
def slices_CloneI.f (l0:List Int):Option (List Int):=if l0.length≤17592186044416 then some l0 else none
theorem cloneI_nil (n c:Nat) (W:World):(binOp .eql 24 (.slice none n c) (.slice none 0 0)).run Try.prog W= .ok (.bool true) W:=by kernel_rfl
theorem cloneI_some (ad:Addr) (n c:Nat) (W:World):(binOp .eql 24 (.slice (some ad) n c) (.slice none 0 0)).run Try.prog W= .ok (.bool false) W:=by kernel_rfl
set_option maxHeartbeats 4000000 in
set_option maxRecDepth 100000 in
theorem slices_CloneI.calls (A0:Option Addr) (c0:Nat) (l0 r:List Int) (w:World) (hr0:Kd.C (Kd.int .i64) w A0 l0.length l0) (hc0:l0.length≤c0) (h:slices_CloneI.f l0=some r):
  Calls Try.prog 103 #[.slice A0 l0.length c0] w fun e w'=> ∃v,e= .returned v∧Kd.R (Kd.int .i64) 3 w' w.heap.size (fun _=>True) v r∧Below w.heap.size w w':=by
 unfold slices_CloneI.f at h
 split at h
 case isFalse=>simp at h
 case isTrue hl=>
 obtain rfl:=Option.some.inj h;have HR0:=aK hr0;have HC0:=aK hc0;have HL:=aK hl;clear h hl hc0
 cases A0 with
 | none =>
  have hz:l0=[]:=by
   cases l0 with
   |nil=>rfl
   |cons x xs=>obtain ⟨ad,_,e,_⟩:=Kd.C_get hr0 x 0 (by omega) (by simp);cases e
  subst hz;clear hr0;have N1:=cloneI_nil;have N2:=cloneI_some;go_enter Try.func103,Try.ntmps103;go_wp2;go_ret;exact ⟨_,rfl,Kd.R_nil _ _ _ _ _,by repeat (first|exact Below.refl _ _|apply below_alloc|apply pw_below_drewN|apply below_drew1)⟩
 | some ad =>
  clear hr0;have N1:=cloneI_nil;have N2:=cloneI_some;go_enter Try.func103,Try.ntmps103
  go_wp2_with (first
   |((with_reducible refine gate_dst (N:=5) rfl ?_);refine Kd.R_lit (Kd.int .i64) _ 3 ?hg (N:=5) ?hd (xs:=([]:List Int)) (inner:=[]) (ok:=fun _=>True) (okp:=fun _=>True) ?hr ?hp (fun _ hk=>hk) trivial (Below.refl _ _) (Nat.le_refl _) (by simp) ?_;(case hd=>rfl);(case hg=>rfl);(case hr=>first|(go_simp;done)|(go_simp;rfl));(case hp=>exact (Reps.none _ _));intro v5 w5 ho5 hb5 hg5 hn5;have HO5:=aK ho5;have HB5:=aK hb5;clear ho5 hb5 hg5 hn5)
   |((with_reducible refine gate_builtin (b:= .append) (xs:= #[.tmp 5,.tmp 6]) rfl ?_);at_builtin;refine Kd.R_append_rows (Kd.int .i64) (w0:=w) w.heap.size rfl (.tmp 5) (.tmp 6) 24 3 (.int .i64 0) 8 rfl Try.underlying24 info3 rfl (by decide) (by omega) v5 [] l0 _ _ _ (fun _=>True) (fun _=>False) rfl rfl ?aO ?aR (fun _ _ h=>h) (fun _ h=>h.elim) (fun _ _=>trivial) ?aB ?aS ?aL ?_;(case aR=>exact Kd.C_below HR0.out HB5.out);(case aB=>exact HB5.out);(case aO=>exact HO5.out);(case aS=>exact below_size HB5.out);(case aL=>have:=HL.out;simp;omega);intro v7 w7 ho7 hb7 hg7 hn7;have HO7:=aK ho7;have HB7:=aK hb7;clear ho7 hb7 hg7 hn7))
  go_ret;exact ⟨_,rfl,HO7.out,HB7.out⟩
theorem heap_pair (W:World) (o o':Obj):((W.alloc o).alloc o').heap[W.heap.size]? =some o∧((W.alloc o).alloc o').heap[W.heap.size+1]? =some o':=
  ⟨blk_alloc (blk_new W o) o',by simpa using blk_new (W.alloc o) o'⟩
end Go.Proofs.Ytnlieahdakafbaa.K
namespace Go.Proofs.Ytnlieahdakafbaa.K
open Go.RowKit Go.Proofs.YtnlieahdakafbaaW.PrintWords Go.Proofs.YtnlieahdakafbaaW.PrintLast Go.Proofs.YtnlieahdakafbaaW.PrintMore
attribute [local go_sem] max2_int min2_int max_two min_two max_three min_three max_four min_four
set_option linter.unusedVariables false
set_option linter.unusedSimpArgs false
set_option maxHeartbeats 4000000 in
set_option maxRecDepth 100000 in
theorem Mem_parts.calls (ad:Addr) (n c y:Nat) (a1 a2 a3:Int) (v4:Value) (h4:v4.oneCell'=true) (w:World) (hy:a1=(y:Int)) (h1:y≤n) (hc:n≤c):
  Calls Try.prog 102 #[.agg #[.slice (some ad) n c,.int .i64 a1,.int .i64 a2,.int .i64 a3,v4]] w fun e w'=>e= .returned (.agg #[.slice (some ad) y c,.slice (if c=y then some ad else some (ad.add y)) (n - y) (c - y)])∧Below w.heap.size w w':=by
 have p2:=eq_true (show a1≤(n:Int) by omega);have p1:=eq_true (show 0≤a1 by omega);have p3:=eq_true (show a1≤(c:Int) by omega);have p4:=eq_true (show y≤n by omega);have p5:=eq_true (show y≤c by omega);have p6:a1.toNat=y:=by omega
 go_enter Try.func102,Try.ntmps102;go_wp2
 go_region
 all_goals go_wp2
 all_goals refine bodyPost_ret (results_cell_row rfl _ _ (w.heap.size+1) 117 _ (0,0) _ rfl (blk_drew (heap_pair w _ _).2) Try.underlying117 rfl (by kernel_rfl)) rfl ?_
 ·refine ⟨by first | rfl | (simp; done) | (simp; rfl), ?_⟩
  exact below_drew1 (below_alloc (below_alloc (Below.refl _ _) _) _)
 ·refine ⟨?_, below_drew1 (below_alloc (below_alloc (Below.refl _ _) _) _)⟩
  first|rfl|(rw [if_neg (by omega)];rfl)
theorem Mem_parts.calls2 (ad ad2:Addr) (n c y z zc:Nat) (a1 a2 a3:Int) (v4:Value) (h4:v4.oneCell'=true) (w:World) (hy:a1=(y:Int)) (h1:y≤n) (hc:n≤c) (h2:(if c=y then some ad else some (ad.add y))=some ad2) (hz:n - y=z) (hzc:c - y=zc):
  Calls Try.prog 102 #[.agg #[.slice (some ad) n c,.int .i64 a1,.int .i64 a2,.int .i64 a3,v4]] w fun e w'=>e= .returned (.agg #[.slice (some ad) y c,.slice (some ad2) z zc])∧Below w.heap.size w w':=by
 subst hz hzc;rw [←h2];exact Mem_parts.calls ad n c y a1 a2 a3 v4 h4 w hy h1 hc
end Go.Proofs.Ytnlieahdakafbaa.K
namespace Go.Proofs.Ytnlieahdakafbaa.K
open Go.RowKit Go.Proofs.YtnlieahdakafbaaW.PrintWords Go.Proofs.YtnlieahdakafbaaW.PrintLast Go.Proofs.YtnlieahdakafbaaW.PrintMore
attribute [local go_sem] max2_int min2_int max_two min_two max_three min_three max_four min_four
set_option linter.unusedVariables false
set_option linter.unusedSimpArgs false
def impl_within.f (a0:Int) (a1:Int) (a2:Int):Option (Bool):=if a0≤a1 then (some (decide (a1≤a2))) else (some false)
set_option maxHeartbeats 8000000 in
set_option maxRecDepth 100000 in
theorem impl_within.calls (a0:Int) (a1:Int) (a2:Int) (r:Bool) (w:World) (h:impl_within.f a0 a1 a2=some r):
  Calls Try.prog 91 #[.int .i64 a0,.int .i64 a1,.int .i64 a2] w fun e w'=>e= .returned (.bool r)∧Drawn0 w w':=by
 have H:(if a0≤a1 then (some (decide (a1≤a2))) else (some false))=some r:=h
 clear h;by_cases c4:a0≤a1
 ·rw [if_pos c4] at H
  have c4b0:decide (a0≤a1)=true:=decide_eq_true c4
  clear c4;obtain rfl:=Option.some.inj H;go_enter Try.func91,Try.ntmps91;go_wp2;go_ret;exact ⟨zz6,zz12⟩
 ·rw [if_neg c4] at H
  have c4b0:decide (a0≤a1)=false:=decide_eq_false c4
  clear c4;obtain rfl:=Option.some.inj H;go_enter Try.func91,Try.ntmps91;go_wp2;go_ret;exact ⟨zz6,zz12⟩
end Go.Proofs.Ytnlieahdakafbaa.K
