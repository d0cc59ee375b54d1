import Derived.Test.YtbaklikaoleplaaPg24
import Derived.BigRegion
namespace Go.Proofs.Ytbaklikaoleplaa.K
open Go.RowKit Go.Proofs.YtbaklikaoleplaaW.PrintWords Go.Proofs.YtbaklikaoleplaaW.PrintLast Go.Proofs.YtbaklikaoleplaaW.PrintMore
attribute [local go_sem] max2_int min2_int max_two min_two max_three min_three max_four min_four
set_option linter.unusedVariables false
set_option linter.unusedSimpArgs false
mutual
def impl_ClassesOk.j0:Nat→List (S53)→Bool→Option (Bool)
 |0,_,_=>none
 |k+1,x0,x15=>if x15=true then (some false) else (if 0<(x0.length:Int) then (if ((rd_T53 x0 0).f0)=(-1) then (impl_ClassesOk.j1 k x0 ((((rd_T53 x0 0).f1).length:Int) !=0)) else (impl_ClassesOk.j1 k x0 true)) else (none))
def impl_ClassesOk.j1:Nat→List (S53)→Bool→Option (Bool)
 |0,_,_=>none
 |k+1,x0,x28=>if x28=true then (some false) else (if 1<(x0.length:Int) then (if ((rd_T53 x0 1).f0)=0 then (if (((rd_T53 x0 1).f1).length:Int)=1 then (if 0<(((rd_T53 x0 1).f1).length:Int) then (impl_ClassesOk.j2 k x0 ((rd ((rd_T53 x0 1).f1) 0) !=1)) else (none)) else (impl_ClassesOk.j2 k x0 true)) else (impl_ClassesOk.j2 k x0 true)) else (none))
def impl_ClassesOk.j2:Nat→List (S53)→Bool→Option (Bool)
 |0,_,_=>none
 |k+1,x0,x47=>if x47=true then (some false) else (impl_ClassesOk.l0 k x0 x0 (x0.length:Int) 0)
def impl_ClassesOk.l0:Nat→List (S53)→List (S53)→Int→Int→Option (Bool)
 |0,_,_,_,_=>none
 |k+1,x0,x48,x49,x50=>if x50<x49 then (if 0≤x50 then (if x50<(x48.length:Int) then (if x50>1 then (if ((rd_T53 x48 x50).f0)<0 then (impl_ClassesOk.j4 k x0 x48 x49 x50 true ((rd_T53 x48 x50).f0) ((rd_T53 x48 x50).f1)) else (impl_ClassesOk.j4 k x0 x48 x49 x50 (decide (((rd_T53 x48 x50).f0)≥x50)) ((rd_T53 x48 x50).f0) ((rd_T53 x48 x50).f1))) else (impl_ClassesOk.j4 k x0 x48 x49 x50 false ((rd_T53 x48 x50).f0) ((rd_T53 x48 x50).f1))) else (none)) else (none)) else (some true)
def impl_ClassesOk.j4:Nat→List (S53)→List (S53)→Int→Int→Bool→Int→List Int→Option (Bool)
 |0,_,_,_,_,_,_,_=>none
 |k+1,x0,x48,x49,x50,x67,x286000,x286001=>if x67=true then (some false) else (if (x286001.length:Int)>2 then (some false) else (impl_ClassesOk.l1 k x0 x48 x49 x50 x286001 (x286001.length:Int) 0))
def impl_ClassesOk.l1:Nat→List (S53)→List (S53)→Int→Int→List Int→Int→Int→Option (Bool)
 |0,_,_,_,_,_,_,_=>none
 |k+1,x0,x48,x49,x50,x73,x74,x75=>if x75<x74 then (if 0≤x75 then (if x75<(x73.length:Int) then ((impl_fieldType.f (x0.length:Int) (rd x73 x75)).bind fun t287=>(if t287=true then (impl_ClassesOk.l1 k x0 x48 x49 x50 x73 x74 (wrap64 (x75+1))) else (some false))) else (none)) else (none)) else (impl_ClassesOk.l0 k x0 x48 x49 (wrap64 (x50+1)))
end
def impl_ClassesOk.f (k:Nat) (l0:List (S53)):Option (Bool):=if (l0.length:Int)<2 then (impl_ClassesOk.j0 k l0 true) else (impl_ClassesOk.j0 k l0 (decide ((l0.length:Int)>5)))
set_option maxHeartbeats 8000000 in
set_option maxRecDepth 100000 in
theorem impl_ClassesOk.calls (k : Nat) (A0 : Option Addr) (c0 : Nat) (l0 : List (S53)) (r : Bool) (w : World) (hr0 : Kd.C k53 w A0 l0.length l0) (hc0 : l0.length ≤ c0) (h : impl_ClassesOk.f k l0 = some r) :
  Calls Try.prog 65 #[.slice A0 l0.length c0] w fun e w'=>e= .returned (.bool r)∧Below w.heap.size w w':=by
 have hu53:=Try.underlying53;have HR0:=aK hr0;have HC0:=aK hc0;clear hr0 hc0;have HB:=aK (Below.refl w.heap.size w);have H:(if (l0.length:Int)<2 then (impl_ClassesOk.j0 k l0 true) else (impl_ClassesOk.j0 k l0 (decide ((l0.length:Int)>5))))=some r:=h
 clear h;have HC2:=aK H;clear H;go_enter Try.func65,Try.ntmps65
 go_upto_region 1 with (fail)
 go_cut [15] (fun v15 wc=> ∃(kq:Nat) (x15_1:Bool),v15= .bool x15_1∧Aside0 (impl_ClassesOk.j0 kq l0 x15_1=some r)∧Aside0 (kq≤k)∧Aside0 (Below w.heap.size w wc))
 case first=>
  have H:=HC2.out;clear HC2;by_cases c3:(l0.length:Int)<2
  ·rw [if_pos c3] at H
   have c3b0:decide ((l0.length:Int)<2)=true:=decide_eq_true c3
   have c3b1:decide (l0.length<2)=true:=decide_eq_true (by omega)
   clear c3
   (first|rw [c3b0]|(simp only [i64_w,i32_w];rw [c3b0])|skip)
   have H':=aK H;clear H;go_wp2;go_meet
   case rel=>exact ⟨_,(true),zz5,H',⟨by first|omega|exact Nat.le_refl _⟩,⟨by repeat (first|(with_reducible first|exact HB.out|apply below_alloc|apply pw_below_drewN|apply below_drew1)|exact HB.out)⟩⟩
  ·rw [if_neg c3] at H
   have c3b0:decide ((l0.length:Int)<2)=false:=decide_eq_false c3
   have c3b1:decide (l0.length<2)=false:=decide_eq_false (by omega)
   clear c3
   (first|rw [c3b0]|(simp only [i64_w,i32_w];rw [c3b0])|skip)
   have H':=aK H;clear H;go_wp2;go_meet
   case rel=>exact ⟨_,(decide ((l0.length:Int)>5)),zz5,H',⟨by first|omega|exact Nat.le_refl _⟩,⟨by repeat (first|(with_reducible first|exact HB.out|apply below_alloc|apply pw_below_drewN|apply below_drew1)|exact HB.out)⟩⟩
 case rest =>
  clear HC2;(try clear p2);(try clear c3);(try clear c3b0);(try clear c3b1);obtain ⟨kq,x15_1,rfl,HA,HJ1,HB⟩:=hcut
  cases kq with
  |zero=>exact absurd HA.out (by simp [impl_ClassesOk.j0])
  | succ kj1 =>
   have H:=HA.out;clear HA;simp only [impl_ClassesOk.j0] at H;by_cases c4:x15_1=true
   ·subst c4
    rw [if_pos rfl] at H;obtain rfl:=Option.some.inj H;go_wp2;go_ret;exact ⟨zz6,zz1⟩
   ·replace c4 := Bool.eq_false_iff.mpr c4
    subst c4;rw [if_neg (show¬(false=true) by decide)] at H;have HC5:=aK H;clear H
    go_upto_region 3 with (fail)
    go_cut [28] (fun v28 wc=> ∃(kq:Nat) (x28_4:Bool),v28= .bool x28_4∧Aside0 (impl_ClassesOk.j1 kq l0 x28_4=some r)∧Aside0 (kq≤kj1)∧Aside0 (Below w.heap.size w wc))
    case first=>
     have H:=HC5.out;clear HC5;by_cases c6:0<(l0.length:Int)
     ·rw [if_pos c6] at H
      have c6b0:decide (0<(l0.length:Int))=true:=decide_eq_true c6
      have c6b1:decide (0<l0.length)=true:=decide_eq_true (by omega)
      clear c6
      (first|rw [c6b0]|(simp only [i64_w,i32_w];rw [c6b0])|skip)
      by_cases c7:((rd_T53 l0 0).f0)=(-1)
      ·rw [if_pos c7] at H
       have c7b0:(((rd_T53 l0 0).f0)==(-1))=true:=beq_iff_eq.mpr c7
       have c7b1:(((rd_T53 l0 0).f0) !=(-1))=false:=bne_eq_false_iff_eq.mpr c7
       clear c7;have H':=aK H;clear H;have p279:0≤(0:Int):=(by omega)
       have q279:0<(l0.length:Int):=of_decide_eq_true zz3
       obtain ⟨ad279,A279_1,c279_1,e279,hx279_0,hx279_1,hl279_1,hi279_1⟩:=at_T53 HR0.out 0 p279 q279
       cases e279
       have qi279:(0<l0.length)=True:=eq_true (by omega)
       (try rw [show ((0:Int)).toNat=0 from rfl] at hx279_0)
       (try rw [show 0*2=0 from rfl] at hx279_0)
       (try rw [Addr.add_zero'] at hx279_0)
       (try rw [show ((0:Int)).toNat=0 from rfl] at hx279_1)
       (try rw [show 0*2=0 from rfl] at hx279_1)
       (try rw [Addr.add_zero'] at hx279_1)
       replace hx279_0:=(HB.out.cell (World.block_lt_of_cell? w _ hx279_0)).trans hx279_0;replace hx279_1:=(HB.out.cell (World.block_lt_of_cell? w _ hx279_1)).trans hx279_1;have HR279_1:=aK hi279_1;have HC279_1:=aK hl279_1;clear hi279_1 hl279_1;replace p279:=eq_true p279;replace q279:=eq_true q279;have p280:0≤(0:Int):=(by omega)
       have q280:0<(l0.length:Int):=of_decide_eq_true zz3
       obtain ⟨ad280,A280_1,c280_1,e280,hx280_0,hx280_1,hl280_1,hi280_1⟩:=at_T53 HR0.out 0 p280 q280;obtain rfl:ad279=ad280:=(by injection e280);have qi280:(0<l0.length)=True:=eq_true (by omega)
       (try rw [show ((0:Int)).toNat=0 from rfl] at hx280_0)
       (try rw [show 0*2=0 from rfl] at hx280_0)
       (try rw [Addr.add_zero'] at hx280_0)
       (try rw [show ((0:Int)).toNat=0 from rfl] at hx280_1)
       (try rw [show 0*2=0 from rfl] at hx280_1)
       (try rw [Addr.add_zero'] at hx280_1)
       replace hx280_0:=(HB.out.cell (World.block_lt_of_cell? w _ hx280_0)).trans hx280_0;replace hx280_1:=(HB.out.cell (World.block_lt_of_cell? w _ hx280_1)).trans hx280_1;have HR280_1:=aK hi280_1;have HC280_1:=aK hl280_1;clear hi280_1 hl280_1;replace p280:=eq_true p280;replace q280:=eq_true q280;have ea_:=Option.some.inj (hx279_1.symm.trans hx280_1);injection ea_ with ea_ en_ ec_;subst ea_;subst ec_;clear en_;go_wp2;go_meet
       case rel=>exact ⟨_,(((((rd_T53 l0 0).f1).length:Int) !=0)),zz5,H',⟨by have:=HJ1.out;first|omega|exact Nat.le_refl _⟩,⟨by repeat (first|(with_reducible first|exact HB.out|apply below_alloc|apply pw_below_drewN|apply below_drew1)|exact HB.out)⟩⟩
      ·rw [if_neg c7] at H
       have c7b0:(((rd_T53 l0 0).f0)==(-1))=false:=beq_eq_false_iff_ne.mpr c7
       have c7b1:(((rd_T53 l0 0).f0) !=(-1))=true:=bne_iff_ne.mpr c7
       have H':=aK H;clear H;have p279:0≤(0:Int):=(by omega)
       have q279:0<(l0.length:Int):=of_decide_eq_true zz3
       obtain ⟨ad279,A279_1,c279_1,e279,hx279_0,hx279_1,hl279_1,hi279_1⟩:=at_T53 HR0.out 0 p279 q279
       cases e279
       have qi279:(0<l0.length)=True:=eq_true (by omega)
       (try rw [show ((0:Int)).toNat=0 from rfl] at hx279_0)
       (try rw [show 0*2=0 from rfl] at hx279_0)
       (try rw [Addr.add_zero'] at hx279_0)
       (try rw [show ((0:Int)).toNat=0 from rfl] at hx279_1)
       (try rw [show 0*2=0 from rfl] at hx279_1)
       (try rw [Addr.add_zero'] at hx279_1)
       replace hx279_0:=(HB.out.cell (World.block_lt_of_cell? w _ hx279_0)).trans hx279_0;replace hx279_1:=(HB.out.cell (World.block_lt_of_cell? w _ hx279_1)).trans hx279_1;have HR279_1:=aK hi279_1;have HC279_1:=aK hl279_1;clear hi279_1 hl279_1;replace p279:=eq_true p279;replace q279:=eq_true q279;go_wp2;go_meet
       case rel=>exact ⟨_,(true),zz5,H',⟨by have:=HJ1.out;first|omega|exact Nat.le_refl _⟩,⟨by repeat (first|(with_reducible first|exact HB.out|apply below_alloc|apply pw_below_drewN|apply below_drew1)|exact HB.out)⟩⟩
     ·rw [if_neg c6] at H
      exact absurd H (by simp)
    case rest =>
     clear HC5;(try clear c2);(try clear p2);(try clear q2);(try clear hx2);(try clear qi2);(try clear c3);(try clear c3b0);(try clear c3b1);(try clear c4);(try clear c6);(try clear c6b0);(try clear c6b1);(try clear c7);(try clear c7b0);(try clear c7b1);(try clear hx279_0);(try clear hx279_1);(try clear hx280_0);(try clear hx280_1);(try clear p2);(try clear p279);(try clear p280);(try clear q279);(try clear q280);obtain ⟨kq,x28_4,rfl,HA,HJ4,HB⟩:=hcut
     cases kq with
     |zero=>exact absurd HA.out (by simp [impl_ClassesOk.j1])
     | succ kj4 =>
      have H:=HA.out;clear HA;simp only [impl_ClassesOk.j1] at H;by_cases c8:x28_4=true
      ·subst c8
       rw [if_pos rfl] at H;obtain rfl:=Option.some.inj H;go_wp2;go_ret;exact ⟨zz6,zz1⟩
      ·replace c8 := Bool.eq_false_iff.mpr c8
       subst c8;rw [if_neg (show¬(false=true) by decide)] at H;by_cases c9:1<(l0.length:Int)
       ·rw [if_pos c9] at H
        have c9b0:decide (1<(l0.length:Int))=true:=decide_eq_true c9
        have c9b1:decide (1<l0.length)=true:=decide_eq_true (by omega)
        clear c9;have HC10:=aK H;clear H;have p281:0≤(1:Int):=(by omega)
        have q281:1<(l0.length:Int):=of_decide_eq_true zz3
        obtain ⟨ad281,A281_1,c281_1,e281,hx281_0,hx281_1,hl281_1,hi281_1⟩:=at_T53 HR0.out 1 p281 q281
        cases e281
        (try simp only [show (1:Int).toNat=1 from rfl,Nat.reduceMul,Nat.reduceEqDiff,Go.Addr.add,↓reduceIte] at hx281_0)
        (try simp only [show (1:Int).toNat=1 from rfl,Nat.reduceMul,Nat.reduceEqDiff,Go.Addr.add,↓reduceIte] at hx281_1)
        have qi281:(1<l0.length)=True:=eq_true (by omega)
        (try rw [show ((1:Int)).toNat=1 from rfl] at hx281_0)
        (try rw [show 1*2=2 from rfl] at hx281_0)
        (try rw [show ((1:Int)).toNat=1 from rfl] at hx281_1)
        (try rw [show 1*2=2 from rfl] at hx281_1)
        replace hx281_0:=(HB.out.cell (World.block_lt_of_cell? w _ hx281_0)).trans hx281_0;replace hx281_1:=(HB.out.cell (World.block_lt_of_cell? w _ hx281_1)).trans hx281_1;have HR281_1:=aK hi281_1;have HC281_1:=aK hl281_1;clear hi281_1 hl281_1;replace p281:=eq_true p281;replace q281:=eq_true q281
        go_upto_region 6 with (first|((with_reducible refine gate_dst (N:=3) rfl ?_);(try (refine gate_guard (by rfl) ?_;dsimp only));refine box_event ?hg (N:=3) ?hd (cs:= #[.int .i64 0,.slice none 0 0]) (t:=53) ?hr ?_;(case hd=>rfl);(case hg=>rfl);(case hr=>first|(go_simp;done)|(go_simp;rfl));intro gb282 hg w11 hbox hb;have BK282:=aK (hbox);have GW282:=aK ((by rw [hg];exact (below_size zz1):w.heap.size≤gb282));have GE282:=aK ((by rw [hg];exact (below_size zz1):w.heap.size≤gb282));replace HB:=aK (below_step zz1 hb);clear hb hbox hg;obtain ⟨hcz12_0,hcz12_1,hfz12_0,hfz12_1⟩:=cbf2 BK282))
        (try simp only [Act.put,List.setIfInBounds_toArray,List.set_cons_zero,List.set_cons_succ])
        go_cut [47] (fun v47 wc=> ∃(kq:Nat) (x47_9:Bool),v47= .bool x47_9∧Aside0 (impl_ClassesOk.j2 kq l0 x47_9=some r)∧Aside0 (kq≤kj4)∧Aside0 (wc.heap[gb282]? =some (.cells #[.int .i64 ((rd_T53 l0 1).f0),(.slice A281_1 ((rd_T53 l0 1).f1).length c281_1)] 53 (0,0)))∧Aside0 (Below w.heap.size w wc))
        case first=>
         have H:=HC10.out;clear HC10;by_cases c13:((rd_T53 l0 1).f0)=0
         ·rw [if_pos c13] at H
          have c13b0:(((rd_T53 l0 1).f0)==0)=true:=beq_iff_eq.mpr c13
          have c13b1:(((rd_T53 l0 1).f0) !=0)=false:=bne_eq_false_iff_eq.mpr c13
          clear c13
          (first|rw [c13b0]|(simp only [i64_w,i32_w];rw [c13b0])|skip)
          by_cases c14:(((rd_T53 l0 1).f1).length:Int)=1
          ·rw [if_pos c14] at H
           have c14b0:((((rd_T53 l0 1).f1).length:Int)==1)=true:=beq_iff_eq.mpr c14
           have c14b1:((((rd_T53 l0 1).f1).length:Int) !=1)=false:=bne_eq_false_iff_eq.mpr c14
           clear c14;by_cases c15:0<(((rd_T53 l0 1).f1).length:Int)
           ·rw [if_pos c15] at H
            have c15b0:decide (0<(((rd_T53 l0 1).f1).length:Int))=true:=decide_eq_true c15
            have c15b1:decide (0<((rd_T53 l0 1).f1).length)=true:=decide_eq_true (by omega)
            clear c15;have H':=aK H;clear H;obtain ⟨hcz16_0,hcz16_1,hfz16_0,hfz16_1⟩:=cbf2 BK282;have p283:0≤(0:Int):=(by omega)
            have q283:0<(((rd_T53 l0 1).f1).length:Int):=of_decide_eq_true zz3
            obtain ⟨ad283,e283,hx283_0⟩:=Kd.at_int HR281_1.out 0 p283 q283
            cases e283
            have qi283:(0<((rd_T53 l0 1).f1).length)=True:=eq_true (by omega)
            (try rw [show ((0:Int)).toNat=0 from rfl] at hx283_0)
            (try rw [Addr.add_zero'] at hx283_0)
            have hn283_0:ad283.block≠gb282:=Nat.ne_of_lt (Nat.lt_of_lt_of_le (by have:=World.block_lt_of_cell? _ _ hx283_0;first|rwa [add_block] at this|exact this) GW282.out)
            have hn283_1:ad283.block≠gb282:=Nat.ne_of_lt (Nat.lt_of_lt_of_le (by have:=World.block_lt_of_cell? _ _ hx283_0;first|rwa [add_block] at this|exact this) GW282.out)
            replace hx283_0:=(HB.out.cell (World.block_lt_of_cell? w _ hx283_0)).trans hx283_0;replace hx283_0:=(cell_far (p:=⟨gb282,0,none⟩) (by first|(rw [add_block];exact hn283_0)|(show (Addr.add _ _).block≠_;rw [add_block];exact hn283_0)|exact hn283_0) (.int .i64 ((rd_T53 l0 1).f0))).trans hx283_0;replace hx283_0:=(cell_far (p:=⟨gb282,1,none⟩) (by first|(rw [add_block];exact hn283_1)|(show (Addr.add _ _).block≠_;rw [add_block];exact hn283_1)|exact hn283_1) (.slice (some ad283) ((rd_T53 l0 1).f1).length c281_1)).trans hx283_0;clear hn283_0;clear hn283_1;replace p283:=eq_true p283;replace q283:=eq_true q283;go_wp2;go_meet
            case rel=>exact ⟨_,(((rd ((rd_T53 l0 1).f1) 0) !=1)),zz5,H',⟨by have:=HJ1.out;have:=HJ4.out;first|omega|exact Nat.le_refl _⟩,⟨by (with_reducible repeat (first|refine blk_drewN ?_ _|refine blk_drew ?_|refine blk_alloc ?_ _));refine blk_put (cs:= #[.int .i64 ((rd_T53 l0 1).f0),.slice none 0 0]) ?_ 1 _ rfl;(with_reducible repeat (first|refine blk_drewN ?_ _|refine blk_drew ?_|refine blk_alloc ?_ _));refine blk_put (cs:= #[.int .i64 0,.slice none 0 0]) ?_ 0 _ rfl;(with_reducible repeat (first|refine blk_drewN ?_ _|refine blk_drew ?_|refine blk_alloc ?_ _));exact BK282.out⟩,⟨by repeat (first|(with_reducible first|exact HB.out|apply below_alloc|apply pw_below_drewN|apply below_drew1|refine below_set ?_ GE282.out)|exact HB.out)⟩⟩
           ·rw [if_neg c15] at H
            exact absurd H (by simp)
          ·rw [if_neg c14] at H
           have c14b0:((((rd_T53 l0 1).f1).length:Int)==1)=false:=beq_eq_false_iff_ne.mpr c14
           have c14b1:((((rd_T53 l0 1).f1).length:Int) !=1)=true:=bne_iff_ne.mpr c14
           have H':=aK H;clear H;obtain ⟨hcz17_0,hcz17_1,hfz17_0,hfz17_1⟩:=cbf2 BK282;go_wp2;go_meet
           case rel=>exact ⟨_,(true),zz5,H',⟨by have:=HJ1.out;have:=HJ4.out;first|omega|exact Nat.le_refl _⟩,⟨by (with_reducible repeat (first|refine blk_drewN ?_ _|refine blk_drew ?_|refine blk_alloc ?_ _));refine blk_put (cs:= #[.int .i64 ((rd_T53 l0 1).f0),.slice none 0 0]) ?_ 1 _ rfl;(with_reducible repeat (first|refine blk_drewN ?_ _|refine blk_drew ?_|refine blk_alloc ?_ _));refine blk_put (cs:= #[.int .i64 0,.slice none 0 0]) ?_ 0 _ rfl;(with_reducible repeat (first|refine blk_drewN ?_ _|refine blk_drew ?_|refine blk_alloc ?_ _));exact BK282.out⟩,⟨by repeat (first|(with_reducible first|exact HB.out|apply below_alloc|apply pw_below_drewN|apply below_drew1|refine below_set ?_ GE282.out)|exact HB.out)⟩⟩
         ·rw [if_neg c13] at H
          have c13b0:(((rd_T53 l0 1).f0)==0)=false:=beq_eq_false_iff_ne.mpr c13
          have c13b1:(((rd_T53 l0 1).f0) !=0)=true:=bne_iff_ne.mpr c13
          (first|rw [c13b0]|(simp only [i64_w,i32_w];rw [c13b0])|skip)
          have H':=aK H;clear H;obtain ⟨hcz18_0,hcz18_1,hfz18_0,hfz18_1⟩:=cbf2 BK282;go_wp2;go_meet
          case rel=>exact ⟨_,(true),zz5,H',⟨by have:=HJ1.out;have:=HJ4.out;first|omega|exact Nat.le_refl _⟩,⟨by (with_reducible repeat (first|refine blk_drewN ?_ _|refine blk_drew ?_|refine blk_alloc ?_ _));refine blk_put (cs:= #[.int .i64 ((rd_T53 l0 1).f0),.slice none 0 0]) ?_ 1 _ rfl;(with_reducible repeat (first|refine blk_drewN ?_ _|refine blk_drew ?_|refine blk_alloc ?_ _));refine blk_put (cs:= #[.int .i64 0,.slice none 0 0]) ?_ 0 _ rfl;(with_reducible repeat (first|refine blk_drewN ?_ _|refine blk_drew ?_|refine blk_alloc ?_ _));exact BK282.out⟩,⟨by repeat (first|(with_reducible first|exact HB.out|apply below_alloc|apply pw_below_drewN|apply below_drew1|refine below_set ?_ GE282.out)|exact HB.out)⟩⟩
        case rest =>
         clear HC10;(try clear c1);(try clear c2);(try clear p2);(try clear q2);(try clear hx2);(try clear qi2);(try clear c3);(try clear c3b0);(try clear c3b1);(try clear c4);(try clear c6);(try clear c6b0);(try clear c6b1);(try clear c7);(try clear c7b0);(try clear c7b1);(try clear c8);(try clear c9);(try clear c9b0);(try clear c9b1);(try clear c13);(try clear c13b0);(try clear c13b1);(try clear c14);(try clear c14b0);(try clear c14b1);(try clear c15);(try clear c15b0);(try clear c15b1);(try clear hcz12_0);(try clear hcz12_1);(try clear hcz16_0);(try clear hcz16_1);(try clear hcz17_0);(try clear hcz17_1);(try clear hcz18_0);(try clear hcz18_1);(try clear hfz12_0);(try clear hfz12_1);(try clear hfz16_0);(try clear hfz16_1);(try clear hfz17_0);(try clear hfz17_1);(try clear hfz18_0);(try clear hfz18_1);(try clear hx279_0);(try clear hx279_1);(try clear hx280_0);(try clear hx280_1);(try clear hx281_0);(try clear hx281_1);(try clear hx283_0);(try clear p2);(try clear p279);(try clear p280);(try clear p281);(try clear p283);(try clear q2);(try clear q279);(try clear q280);(try clear q281);(try clear q283);obtain ⟨kq,x47_9,rfl,HA,HJ9,BK282,HB⟩:=hcut
         cases kq with
         |zero=>exact absurd HA.out (by simp [impl_ClassesOk.j2])
         | succ kj9 =>
          have H:=HA.out;clear HA;simp only [impl_ClassesOk.j2] at H;by_cases c19:x47_9=true
          ·subst c19
           rw [if_pos rfl] at H;obtain rfl:=Option.some.inj H;go_wp2;go_ret;exact ⟨zz6,zz37⟩
          ·replace c19 := Bool.eq_false_iff.mpr c19
           subst c19;rw [if_neg (show¬(false=true) by decide)] at H;have H':=aK H;clear H;go_wp2
           go_loopg [50] kj9 (fun kq v50 w'=> ∃(x50_4:Int),v50= .int .i64 x50_4∧Aside0 (impl_ClassesOk.l0 kq l0 l0 (l0.length:Int) x50_4=some r)∧Aside0 (kq≤kj9)∧Aside0 (w'.heap[gb282]? =some (.cells #[.int .i64 ((rd_T53 l0 1).f0),(.slice A281_1 ((rd_T53 l0 1).f1).length c281_1)] 53 (0,0)))∧Aside0 (Below w.heap.size w w'))
           case atStart=>exact ⟨(0),zz5,H',⟨Nat.le_refl _⟩,⟨by (with_reducible repeat (first|refine blk_drewN ?_ _|refine blk_drew ?_|refine blk_alloc ?_ _));exact BK282.out⟩,⟨by repeat (first|(with_reducible first|exact HB.out|apply below_alloc|apply pw_below_drewN|apply below_drew1|refine below_set ?_ GE282.out)|exact HB.out)⟩⟩
           case round =>
            clear H';(try clear c1);(try clear c2);(try clear p2);(try clear q2);(try clear hx2);(try clear qi2);(try clear c3);(try clear c3b0);(try clear c3b1);(try clear c4);(try clear c6);(try clear c6b0);(try clear c6b1);(try clear c7);(try clear c7b0);(try clear c7b1);(try clear c8);(try clear c9);(try clear c9b0);(try clear c9b1);(try clear c13);(try clear c13b0);(try clear c13b1);(try clear c14);(try clear c14b0);(try clear c14b1);(try clear c15);(try clear c15b0);(try clear c15b1);(try clear c19);(try clear hcz12_0);(try clear hcz12_1);(try clear hcz16_0);(try clear hcz16_1);(try clear hcz17_0);(try clear hcz17_1);(try clear hcz18_0);(try clear hcz18_1);(try clear hfz12_0);(try clear hfz12_1);(try clear hfz16_0);(try clear hfz16_1);(try clear hfz17_0);(try clear hfz17_1);(try clear hfz18_0);(try clear hfz18_1);(try clear hx279_0);(try clear hx279_1);(try clear hx280_0);(try clear hx280_1);(try clear hx281_0);(try clear hx281_1);(try clear hx283_0);(try clear p2);(try clear p279);(try clear p280);(try clear p281);(try clear p283);(try clear q2);(try clear q279);(try clear q280);(try clear q281);(try clear q283);obtain ⟨x50_4,rfl,HA,HK4,BK282,HB⟩:=hrel
            cases gk with
            |zero=>exact absurd HA.out (by simp [impl_ClassesOk.l0])
            | succ k4 =>
             have H:=HA.out;clear HA;simp only [impl_ClassesOk.l0] at H;by_cases c20:x50_4<(l0.length:Int)
             ·rw [if_pos c20] at H
              have c20b0:decide (x50_4<(l0.length:Int))=true:=decide_eq_true c20
              clear c20;by_cases c21:0≤x50_4
              ·rw [if_pos c21] at H
               have c21b0:decide (0≤x50_4)=true:=decide_eq_true c21
               clear c21;by_cases c22:x50_4<(l0.length:Int)
               ·rw [if_pos c22] at H
                have c22b0:decide (x50_4<(l0.length:Int))=true:=decide_eq_true c22
                clear c22;have HC23:=aK H;clear H;have p284:0≤(x50_4:Int):=of_decide_eq_true zz3
                have q284:x50_4<(l0.length:Int):=of_decide_eq_true zz3
                obtain ⟨ad284,A284_1,c284_1,e284,hx284_0,hx284_1,hl284_1,hi284_1⟩:=at_T53 HR0.out x50_4 p284 q284;obtain rfl:ad281=ad284:=(by injection e284);replace hx284_0:=(HB.out.cell (World.block_lt_of_cell? w _ hx284_0)).trans hx284_0;replace hx284_1:=(HB.out.cell (World.block_lt_of_cell? w _ hx284_1)).trans hx284_1;have HR284_1:=aK hi284_1;have HC284_1:=aK hl284_1;clear hi284_1 hl284_1;replace p284:=eq_true p284;replace q284:=eq_true q284
                go_upto_region 11 with (first|((with_reducible refine gate_dst (N:=5) rfl ?_);(try (refine gate_guard (by rfl) ?_;dsimp only));refine box_event ?hg (N:=5) ?hd (cs:= #[.int .i64 0,.slice none 0 0]) (t:=53) ?hr ?_;(case hd=>rfl);(case hg=>rfl);(case hr=>first|(go_simp;done)|(go_simp;rfl));intro gb285 hg w24 hbox hb;have BK285:=aK (hbox);have GW285:=aK ((by rw [hg];exact (below_size zz37):w.heap.size≤gb285));have GE285:=aK ((by rw [hg];exact (below_size zz37):w.heap.size≤gb285));have NB282_285:=aK ((by rw [hg];exact Nat.ne_of_lt (blk_lt (g:=gb282) (o:= .cells #[.int .i64 ((rd_T53 l0 1).f0),.slice A281_1 ((rd_T53 l0 1).f1).length c281_1] 53 (0,0)) (by (with_reducible repeat (first|refine blk_drewN ?_ _|refine blk_drew ?_|refine blk_alloc ?_ _));exact BK282.out)):gb282≠gb285));have NB285_282:=aK ((by rw [hg];exact Nat.ne_of_gt (blk_lt (g:=gb282) (o:= .cells #[.int .i64 ((rd_T53 l0 1).f0),.slice A281_1 ((rd_T53 l0 1).f1).length c281_1] 53 (0,0)) (by (with_reducible repeat (first|refine blk_drewN ?_ _|refine blk_drew ?_|refine blk_alloc ?_ _));exact BK282.out)):gb285≠gb282));replace BK282:=aK (blk_below (g:=gb282) (o:= .cells #[.int .i64 ((rd_T53 l0 1).f0),.slice A281_1 ((rd_T53 l0 1).f1).length c281_1] 53 (0,0)) (by (with_reducible repeat (first|refine blk_drewN ?_ _|refine blk_drew ?_|refine blk_alloc ?_ _));exact BK282.out) hb);replace HB:=aK (below_step zz37 hb);clear hb hbox hg;have hnb25:=NB285_282.out;have hnc25:=NB282_285.out;obtain ⟨hcz26_0,hcz26_1,hfz26_0,hfz26_1⟩:=cbf2 BK285))
                (try simp only [Act.put,List.setIfInBounds_toArray,List.set_cons_zero,List.set_cons_succ])
                go_cut [67] (fun v67 wc=> ∃(kq:Nat) (x67_22:Bool),v67= .bool x67_22∧Aside0 (impl_ClassesOk.j4 kq l0 l0 (l0.length:Int) x50_4 x67_22 ((rd_T53 l0 x50_4).f0) ((rd_T53 l0 x50_4).f1)=some r)∧Aside0 (kq≤k4)∧Aside0 (wc.heap[gb282]? =some (.cells #[.int .i64 ((rd_T53 l0 1).f0),(.slice A281_1 ((rd_T53 l0 1).f1).length c281_1)] 53 (0,0)))∧Aside0 (wc.heap[gb285]? =some (.cells #[.int .i64 ((rd_T53 l0 x50_4).f0),(.slice A284_1 ((rd_T53 l0 x50_4).f1).length c284_1)] 53 (0,0)))∧Aside0 (Below w.heap.size w wc))
                case first=>
                 have H:=HC23.out;clear HC23;by_cases c27:x50_4>1
                 ·rw [if_pos c27] at H
                  have c27b0:decide (1<x50_4)=true:=decide_eq_true c27
                  clear c27
                  (first|rw [c27b0]|(simp only [i64_w,i32_w];rw [c27b0])|skip)
                  by_cases c28:((rd_T53 l0 x50_4).f0)<0
                  ·rw [if_pos c28] at H
                   have c28b0:decide (((rd_T53 l0 x50_4).f0)<0)=true:=decide_eq_true c28
                   clear c28;have H':=aK H;clear H;have hnb29:=NB285_282.out;have hnc29:=NB282_285.out;obtain ⟨hcz30_0,hcz30_1,hfz30_0,hfz30_1⟩:=cbf2 BK285;go_wp2;go_meet
                   case rel=>exact ⟨_,(true),zz5,H',⟨by have:=HJ1.out;have:=HJ4.out;have:=HJ9.out;have:=HK4.out;first|omega|exact Nat.le_refl _⟩,⟨by (with_reducible repeat (first|refine blk_drewN ?_ _|refine blk_drew ?_|refine blk_alloc ?_ _));refine blk_far ?_ NB282_285.out _;(with_reducible repeat (first|refine blk_drewN ?_ _|refine blk_drew ?_|refine blk_alloc ?_ _));refine blk_far ?_ NB282_285.out _;(with_reducible repeat (first|refine blk_drewN ?_ _|refine blk_drew ?_|refine blk_alloc ?_ _));exact BK282.out⟩,⟨by (with_reducible repeat (first|refine blk_drewN ?_ _|refine blk_drew ?_|refine blk_alloc ?_ _));refine blk_put (cs:= #[.int .i64 ((rd_T53 l0 x50_4).f0),.slice none 0 0]) ?_ 1 _ rfl;(with_reducible repeat (first|refine blk_drewN ?_ _|refine blk_drew ?_|refine blk_alloc ?_ _));refine blk_put (cs:= #[.int .i64 0,.slice none 0 0]) ?_ 0 _ rfl;(with_reducible repeat (first|refine blk_drewN ?_ _|refine blk_drew ?_|refine blk_alloc ?_ _));exact BK285.out⟩,⟨by repeat (first|(with_reducible first|exact HB.out|apply below_alloc|apply pw_below_drewN|apply below_drew1|refine below_set ?_ GE282.out|refine below_set ?_ GE285.out)|exact HB.out)⟩⟩
                  ·rw [if_neg c28] at H
                   have c28b0:decide (((rd_T53 l0 x50_4).f0)<0)=false:=decide_eq_false c28
                   clear c28;have H':=aK H;clear H;have hnb31:=NB285_282.out;have hnc31:=NB282_285.out;obtain ⟨hcz32_0,hcz32_1,hfz32_0,hfz32_1⟩:=cbf2 BK285;go_wp2;go_meet
                   case rel=>exact ⟨_,(decide (((rd_T53 l0 x50_4).f0)≥x50_4)),zz5,H',⟨by have:=HJ1.out;have:=HJ4.out;have:=HJ9.out;have:=HK4.out;first|omega|exact Nat.le_refl _⟩,⟨by (with_reducible repeat (first|refine blk_drewN ?_ _|refine blk_drew ?_|refine blk_alloc ?_ _));refine blk_far ?_ NB282_285.out _;(with_reducible repeat (first|refine blk_drewN ?_ _|refine blk_drew ?_|refine blk_alloc ?_ _));refine blk_far ?_ NB282_285.out _;(with_reducible repeat (first|refine blk_drewN ?_ _|refine blk_drew ?_|refine blk_alloc ?_ _));exact BK282.out⟩,⟨by (with_reducible repeat (first|refine blk_drewN ?_ _|refine blk_drew ?_|refine blk_alloc ?_ _));refine blk_put (cs:= #[.int .i64 ((rd_T53 l0 x50_4).f0),.slice none 0 0]) ?_ 1 _ rfl;(with_reducible repeat (first|refine blk_drewN ?_ _|refine blk_drew ?_|refine blk_alloc ?_ _));refine blk_put (cs:= #[.int .i64 0,.slice none 0 0]) ?_ 0 _ rfl;(with_reducible repeat (first|refine blk_drewN ?_ _|refine blk_drew ?_|refine blk_alloc ?_ _));exact BK285.out⟩,⟨by repeat (first|(with_reducible first|exact HB.out|apply below_alloc|apply pw_below_drewN|apply below_drew1|refine below_set ?_ GE282.out|refine below_set ?_ GE285.out)|exact HB.out)⟩⟩
                 ·rw [if_neg c27] at H
                  have c27b0:decide (1<x50_4)=false:=decide_eq_false c27
                  clear c27
                  (first|rw [c27b0]|(simp only [i64_w,i32_w];rw [c27b0])|skip)
                  have H':=aK H;clear H;go_wp2;go_meet
                  case rel=>exact ⟨_,(false),zz5,H',⟨by have:=HJ1.out;have:=HJ4.out;have:=HJ9.out;have:=HK4.out;first|omega|exact Nat.le_refl _⟩,⟨by (with_reducible repeat (first|refine blk_drewN ?_ _|refine blk_drew ?_|refine blk_alloc ?_ _));refine blk_far ?_ NB282_285.out _;(with_reducible repeat (first|refine blk_drewN ?_ _|refine blk_drew ?_|refine blk_alloc ?_ _));refine blk_far ?_ NB282_285.out _;(with_reducible repeat (first|refine blk_drewN ?_ _|refine blk_drew ?_|refine blk_alloc ?_ _));exact BK282.out⟩,⟨by (with_reducible repeat (first|refine blk_drewN ?_ _|refine blk_drew ?_|refine blk_alloc ?_ _));refine blk_put (cs:= #[.int .i64 ((rd_T53 l0 x50_4).f0),.slice none 0 0]) ?_ 1 _ rfl;(with_reducible repeat (first|refine blk_drewN ?_ _|refine blk_drew ?_|refine blk_alloc ?_ _));refine blk_put (cs:= #[.int .i64 0,.slice none 0 0]) ?_ 0 _ rfl;(with_reducible repeat (first|refine blk_drewN ?_ _|refine blk_drew ?_|refine blk_alloc ?_ _));exact BK285.out⟩,⟨by repeat (first|(with_reducible first|exact HB.out|apply below_alloc|apply pw_below_drewN|apply below_drew1|refine below_set ?_ GE282.out|refine below_set ?_ GE285.out)|exact HB.out)⟩⟩
                case rest =>
                 clear HC23;(try clear c1);(try clear c2);(try clear p2);(try clear q2);(try clear hx2);(try clear qi2);(try clear c3);(try clear c3b0);(try clear c3b1);(try clear c4);(try clear c6);(try clear c6b0);(try clear c6b1);(try clear c7);(try clear c7b0);(try clear c7b1);(try clear c8);(try clear c9);(try clear c9b0);(try clear c9b1);(try clear c13);(try clear c13b0);(try clear c13b1);(try clear c14);(try clear c14b0);(try clear c14b1);(try clear c15);(try clear c15b0);(try clear c15b1);(try clear c19);(try clear c20);(try clear c20b0);(try clear c21);(try clear c21b0);(try clear c22);(try clear c22b0);(try clear c25);(try clear c27);(try clear c27b0);(try clear p27);(try clear q27);(try clear hx27);(try clear qi27);(try clear c28);(try clear c28b0);(try clear p28);(try clear q28);(try clear hx28);(try clear qi28);(try clear c29);(try clear c31);(try clear hcz12_0);(try clear hcz12_1);(try clear hcz16_0);(try clear hcz16_1);(try clear hcz17_0);(try clear hcz17_1);(try clear hcz18_0);(try clear hcz18_1);(try clear hcz26_0);(try clear hcz26_1);(try clear hcz30_0);(try clear hcz30_1);(try clear hcz32_0);(try clear hcz32_1);(try clear hfz12_0);(try clear hfz12_1);(try clear hfz16_0);(try clear hfz16_1);(try clear hfz17_0);(try clear hfz17_1);(try clear hfz18_0);(try clear hfz18_1);(try clear hfz26_0);(try clear hfz26_1);(try clear hfz30_0);(try clear hfz30_1);(try clear hfz32_0);(try clear hfz32_1);(try clear hx279_0);(try clear hx279_1);(try clear hx280_0);(try clear hx280_1);(try clear hx281_0);(try clear hx281_1);(try clear hx283_0);(try clear hx284_0);(try clear hx284_1);(try clear p2);(try clear p279);(try clear p280);(try clear p281);(try clear p283);(try clear p284);(try clear q2);(try clear q279);(try clear q280);(try clear q281);(try clear q283);(try clear q284);obtain ⟨kq,x67_22,rfl,HA,HJ22,BK282,BK285,HB⟩:=hcut
                 cases kq with
                 |zero=>exact absurd HA.out (by simp [impl_ClassesOk.j4])
                 | succ kj22 =>
                  have H:=HA.out;clear HA;simp only [impl_ClassesOk.j4] at H;by_cases c33:x67_22=true
                  ·subst c33
                   rw [if_pos rfl] at H;obtain rfl:=Option.some.inj H;go_wp2;go_ret;exact ⟨zz6,zz51⟩
                  ·replace c33 := Bool.eq_false_iff.mpr c33
                   subst c33;rw [if_neg (show¬(false=true) by decide)] at H;by_cases c34:(((rd_T53 l0 x50_4).f1).length:Int)>2
                   ·rw [if_pos c34] at H
                    have c34b0:decide (2<(((rd_T53 l0 x50_4).f1).length:Int))=true:=decide_eq_true c34
                    have c34b1:decide (2<((rd_T53 l0 x50_4).f1).length)=true:=decide_eq_true (by omega)
                    clear c34;obtain rfl:=Option.some.inj H;have hnb35:=NB285_282.out;have hnc35:=NB282_285.out;obtain ⟨hcz36_0,hcz36_1,hfz36_0,hfz36_1⟩:=cbf2 BK285;go_wp2;go_ret;exact ⟨zz6,zz51⟩
                   ·rw [if_neg c34] at H
                    have c34b0:decide (2<(((rd_T53 l0 x50_4).f1).length:Int))=false:=decide_eq_false c34
                    have c34b1:decide (2<((rd_T53 l0 x50_4).f1).length)=false:=decide_eq_false (by omega)
                    clear c34;have H':=aK H;clear H;have hnb37:=NB285_282.out;have hnc37:=NB282_285.out;obtain ⟨hcz38_0,hcz38_1,hfz38_0,hfz38_1⟩:=cbf2 BK285;go_wp2
                    go_loopg [75] kj22 (fun kq v75 w'=> ∃(x75_6:Int),v75= .int .i64 x75_6∧Aside0 (impl_ClassesOk.l1 kq l0 l0 (l0.length:Int) x50_4 ((rd_T53 l0 x50_4).f1) (((rd_T53 l0 x50_4).f1).length:Int) x75_6=some r)∧Aside0 (kq≤kj22)∧Aside0 (w'.heap[gb282]? =some (.cells #[.int .i64 ((rd_T53 l0 1).f0),(.slice A281_1 ((rd_T53 l0 1).f1).length c281_1)] 53 (0,0)))∧Aside0 (w'.heap[gb285]? =some (.cells #[.int .i64 ((rd_T53 l0 x50_4).f0),(.slice A284_1 ((rd_T53 l0 x50_4).f1).length c284_1)] 53 (0,0)))∧Aside0 (Below w.heap.size w w'))
                    case atStart=>exact ⟨(0),zz5,H',⟨Nat.le_refl _⟩,⟨by (with_reducible repeat (first|refine blk_drewN ?_ _|refine blk_drew ?_|refine blk_alloc ?_ _));exact BK282.out⟩,⟨by (with_reducible repeat (first|refine blk_drewN ?_ _|refine blk_drew ?_|refine blk_alloc ?_ _));exact BK285.out⟩,⟨by repeat (first|(with_reducible first|exact HB.out|apply below_alloc|apply pw_below_drewN|apply below_drew1|refine below_set ?_ GE282.out|refine below_set ?_ GE285.out)|exact HB.out)⟩⟩
                    case round =>
                     clear H';(try clear c1);(try clear c2);(try clear p2);(try clear q2);(try clear hx2);(try clear qi2);(try clear c3);(try clear c3b0);(try clear c3b1);(try clear c4);(try clear c6);(try clear c6b0);(try clear c6b1);(try clear c7);(try clear c7b0);(try clear c7b1);(try clear c8);(try clear c9);(try clear c9b0);(try clear c9b1);(try clear c13);(try clear c13b0);(try clear c13b1);(try clear c14);(try clear c14b0);(try clear c14b1);(try clear c15);(try clear c15b0);(try clear c15b1);(try clear c19);(try clear c20);(try clear c20b0);(try clear c21);(try clear c21b0);(try clear c22);(try clear c22b0);(try clear c25);(try clear c27);(try clear c27b0);(try clear p27);(try clear q27);(try clear hx27);(try clear qi27);(try clear c28);(try clear c28b0);(try clear p28);(try clear q28);(try clear hx28);(try clear qi28);(try clear c29);(try clear c31);(try clear c33);(try clear c34);(try clear c34b0);(try clear c34b1);(try clear c35);(try clear c37);(try clear hcz12_0);(try clear hcz12_1);(try clear hcz16_0);(try clear hcz16_1);(try clear hcz17_0);(try clear hcz17_1);(try clear hcz18_0);(try clear hcz18_1);(try clear hcz26_0);(try clear hcz26_1);(try clear hcz30_0);(try clear hcz30_1);(try clear hcz32_0);(try clear hcz32_1);(try clear hcz36_0);(try clear hcz36_1);(try clear hcz38_0);(try clear hcz38_1);(try clear hfz12_0);(try clear hfz12_1);(try clear hfz16_0);(try clear hfz16_1);(try clear hfz17_0);(try clear hfz17_1);(try clear hfz18_0);(try clear hfz18_1);(try clear hfz26_0);(try clear hfz26_1);(try clear hfz30_0);(try clear hfz30_1);(try clear hfz32_0);(try clear hfz32_1);(try clear hfz36_0);(try clear hfz36_1);(try clear hfz38_0);(try clear hfz38_1);(try clear hx279_0);(try clear hx279_1);(try clear hx280_0);(try clear hx280_1);(try clear hx281_0);(try clear hx281_1);(try clear hx283_0);(try clear hx284_0);(try clear hx284_1);(try clear p2);(try clear p27);(try clear p279);(try clear p28);(try clear p280);(try clear p281);(try clear p283);(try clear p284);(try clear q2);(try clear q27);(try clear q279);(try clear q28);(try clear q280);(try clear q281);(try clear q283);(try clear q284);obtain ⟨x75_6,rfl,HA,HK6,BK282,BK285,HB⟩:=hrel
                     cases gk with
                     |zero=>exact absurd HA.out (by simp [impl_ClassesOk.l1])
                     | succ k6 =>
                      have H:=HA.out;clear HA;simp only [impl_ClassesOk.l1] at H;by_cases c39:x75_6<(((rd_T53 l0 x50_4).f1).length:Int)
                      ·rw [if_pos c39] at H
                       have c39b0:decide (x75_6<(((rd_T53 l0 x50_4).f1).length:Int))=true:=decide_eq_true c39
                       clear c39;by_cases c40:0≤x75_6
                       ·rw [if_pos c40] at H
                        have c40b0:decide (0≤x75_6)=true:=decide_eq_true c40
                        clear c40;by_cases c41:x75_6<(((rd_T53 l0 x50_4).f1).length:Int)
                        ·rw [if_pos c41] at H
                         have c41b0:decide (x75_6<(((rd_T53 l0 x50_4).f1).length:Int))=true:=decide_eq_true c41
                         clear c41;replace H:=Option.bind_eq_some_iff.mp H;obtain ⟨t287,A420,H⟩:=H;(try dsimp only at H);have A42:=aK A420;clear A420;by_cases c43:t287=true
                         ·subst c43
                          rw [if_pos rfl] at H;have H':=aK H;clear H;have p286:0≤(x75_6:Int):=of_decide_eq_true zz3
                          have q286:x75_6<(((rd_T53 l0 x50_4).f1).length:Int):=of_decide_eq_true zz3
                          obtain ⟨ad286,e286,hx286_0⟩:=Kd.at_int HR284_1.out x75_6 p286 q286
                          cases e286
                          replace hx286_0:=(HB.out.cell (World.block_lt_of_cell? w _ hx286_0)).trans hx286_0;replace p286:=eq_true p286;replace q286:=eq_true q286
                          go_wp2_with (first|((with_reducible refine gate_callee (f:=94) rfl ?_);refine goesL_ (some 82) rfl rfl Try.func94 (by kernel_rfl) rfl #[.int .i64 (l0.length:Int),.int .i64 (rd ((rd_T53 l0 x50_4).f1) x75_6)] rfl zz2 ?_;(with_reducible refine (impl_fieldType.calls (l0.length:Int) (rd ((rd_T53 l0 x50_4).f1) x75_6) true _ A42.out).mono ?_);rintro e w' ⟨rfl,⟨nd,rfl⟩⟩;refine ⟨_,rfl,?_⟩))
                          go_roundg k6
                          case measure=>have:=HJ1.out;have:=HJ4.out;have:=HJ9.out;have:=HK4.out;have:=HJ22.out;have:=HK6.out;omega
                          case rel=>exact ⟨(wrap64 (x75_6+1)),zz5,H',⟨by have:=HJ1.out;have:=HJ4.out;have:=HJ9.out;have:=HK4.out;have:=HJ22.out;have:=HK6.out;omega⟩,⟨by (with_reducible repeat (first|refine blk_drewN ?_ _|refine blk_drew ?_|refine blk_alloc ?_ _));exact BK282.out⟩,⟨by (with_reducible repeat (first|refine blk_drewN ?_ _|refine blk_drew ?_|refine blk_alloc ?_ _));exact BK285.out⟩,⟨by repeat (first|(with_reducible first|exact HB.out|apply below_alloc|apply pw_below_drewN|apply below_drew1|refine below_set ?_ GE282.out|refine below_set ?_ GE285.out)|exact HB.out)⟩⟩
                         ·replace c43 := Bool.eq_false_iff.mpr c43
                          subst c43;rw [if_neg (show¬(false=true) by decide)] at H;obtain rfl:=Option.some.inj H;have p286:0≤(x75_6:Int):=of_decide_eq_true zz3
                          have q286:x75_6<(((rd_T53 l0 x50_4).f1).length:Int):=of_decide_eq_true zz3
                          obtain ⟨ad286,e286,hx286_0⟩:=Kd.at_int HR284_1.out x75_6 p286 q286
                          cases e286
                          replace hx286_0:=(HB.out.cell (World.block_lt_of_cell? w _ hx286_0)).trans hx286_0;replace p286:=eq_true p286;replace q286:=eq_true q286
                          go_wp2_with (first|((with_reducible refine gate_callee (f:=94) rfl ?_);refine goesL_ (some 82) rfl rfl Try.func94 (by kernel_rfl) rfl #[.int .i64 (l0.length:Int),.int .i64 (rd ((rd_T53 l0 x50_4).f1) x75_6)] rfl zz2 ?_;(with_reducible refine (impl_fieldType.calls (l0.length:Int) (rd ((rd_T53 l0 x50_4).f1) x75_6) false _ A42.out).mono ?_);rintro e w' ⟨rfl,⟨nd,rfl⟩⟩;refine ⟨_,rfl,?_⟩))
                          go_ret;exact ⟨zz6,zz51⟩
                        ·rw [if_neg c41] at H
                         exact absurd H (by simp)
                       ·rw [if_neg c40] at H
                        exact absurd H (by simp)
                      ·rw [if_neg c39] at H
                       have c39b0:decide (x75_6<(((rd_T53 l0 x50_4).f1).length:Int))=false:=decide_eq_false c39
                       clear c39;have H':=aK H;clear H;go_wp2
                       go_roundg k6
                       case measure=>have:=HJ1.out;have:=HJ4.out;have:=HJ9.out;have:=HK4.out;have:=HJ22.out;have:=HK6.out;omega
                       case rel=>exact ⟨(wrap64 (x50_4+1)),zz5,H',⟨by have:=HJ1.out;have:=HJ4.out;have:=HJ9.out;have:=HK4.out;have:=HJ22.out;have:=HK6.out;omega⟩,⟨by (with_reducible repeat (first|refine blk_drewN ?_ _|refine blk_drew ?_|refine blk_alloc ?_ _));exact BK282.out⟩,⟨by repeat (first|(with_reducible first|exact HB.out|apply below_alloc|apply pw_below_drewN|apply below_drew1|refine below_set ?_ GE282.out|refine below_set ?_ GE285.out)|exact HB.out)⟩⟩
               ·rw [if_neg c22] at H
                exact absurd H (by simp)
              ·rw [if_neg c21] at H
               exact absurd H (by simp)
             ·rw [if_neg c20] at H
              have c20b0:decide (x50_4<(l0.length:Int))=false:=decide_eq_false c20
              clear c20;obtain rfl:=Option.some.inj H;go_wp2;go_ret;exact ⟨zz6,zz37⟩
       ·rw [if_neg c9] at H
        exact absurd H (by simp)
end Go.Proofs.Ytbaklikaoleplaa.K
namespace Go.Proofs.Ytbaklikaoleplaa.K
open Go.RowKit Go.Proofs.YtbaklikaoleplaaW.PrintWords Go.Proofs.YtbaklikaoleplaaW.PrintLast Go.Proofs.YtbaklikaoleplaaW.PrintMore
attribute [local go_sem] max2_int min2_int max_two min_two max_three min_three max_four min_four
set_option linter.unusedVariables false
set_option linter.unusedSimpArgs false
theorem impl_partsOk1.calls (x:Int) (w:World):Calls Try.prog 95 #[.int .i64 x] w fun e w'=>e= .returned (.bool (x==0))∧Below w.heap.size w w':=by
 go_enter Try.func95,Try.ntmps95;go_wp2;go_ret;exact ⟨rfl,by repeat (first|exact Below.refl _ _|apply below_drew1|apply pw_below_drewN)⟩
set_option maxHeartbeats 4000000 in
set_option maxRecDepth 100000 in
theorem impl_every.calls (A:Option Addr) (c:Nat) (l:List Int) (W:World) (hr:Kd.C (Kd.int .i64) W A l.length l) (hl:l.length≤281474976710656):
  Calls Try.prog 76 #[.slice A l.length c,.func (.func 95) #[] #[]] W fun e w'=>e= .returned (.bool (l.all (· ==0)))∧Below W.heap.size W w':=by
 have HR:=aK hr;have HL:=aK hl;clear hr hl;go_enter Try.func76,Try.ntmps76;go_wp2
 go_loopw [9] (fun i wr=> ∃k:Nat,k≤l.length∧i= .int .i64 k∧Aside0 ((l.drop k).all (· ==0)=l.all (· ==0))∧Aside0 (Below W.heap.size W wr)) (fun i _=>l.length - (intOf i).toNat)
 case atStart=>exact ⟨0,Nat.zero_le _,rfl,⟨by simp⟩,⟨Below.refl _ _⟩⟩
 case round=>
  obtain ⟨k,hk,rfl,HN,HB⟩:=hrel;by_cases hlt:k<l.length
  ·have hd := List.drop_eq_getElem_cons hlt
   have hg:l[k]=rd l k:=by unfold rd;rw [Int.toNat_natCast,List.getD_eq_getElem?_getD,List.getElem?_eq_getElem hlt];rfl
   obtain ⟨ad,e0,hcell⟩:=Kd.at_int (Kd.C_below HR.out HB.out) k (by omega) (by omega)
   cases e0
   rw [Int.toNat_natCast] at hcell;have HN2:=HN.out;rw [hd,hg,List.all_cons] at HN2;have HX:=aK HN2;clear hd hg HN HN2;generalize rd l k=x at*;by_cases hx:x=0
   ·have d1 : (x == 0) = true := beq_iff_eq.mpr hx
    have HY:=aK (show (l.drop (k+1)).all (· ==0)=l.all (· ==0) by have:=HX.out;rw [d1,Bool.true_and] at this;exact this);clear hx HX
    go_wp2_with fail
    refine (impl_partsOk1.calls x _).mono ?_;rw [d1];rintro e w2 ⟨rfl,hb2⟩;have HB2:=aK (below_step HB.out hb2);clear hb2;go_wp2
    go_roundw
    case rel=>exact ⟨k+1,by omega,by rw [show wrap64 ((k:Int)+1)=((k+1:Nat):Int) by have:=HL.out;unfold wrap64;omega],HY,HB2⟩
    case measure=>rw [show wrap64 ((k:Int)+1)=((k+1:Nat):Int) by have:=HL.out;unfold wrap64;omega];simp only [intOf,Int.toNat_natCast];omega
   ·have d1 : (x == 0) = false := beq_eq_false_iff_ne.mpr hx
    have HY:=aK (show l.all (· ==0)=false by have:=HX.out;rw [d1,Bool.false_and] at this;exact this.symm);clear hx HX
    go_wp2_with fail
    refine (impl_partsOk1.calls x _).mono ?_;rw [d1];rintro e w2 ⟨rfl,hb2⟩;have HB2:=aK (below_step HB.out hb2);clear hb2;go_wp2;go_ret;exact ⟨by rw [HY.out];rfl,HB2.out⟩
  ·have d0 : decide ((k : Int) < l.length) = false := decide_eq_false (by omega)
   have HY:=aK (show l.all (· ==0)=true by rw [←HN.out,List.drop_eq_nil_of_le (by omega)];rfl);go_wp2;go_ret;exact ⟨by rw [HY.out];rfl,HB.out⟩
end Go.Proofs.Ytbaklikaoleplaa.K
namespace Go.Proofs.Ytbaklikaoleplaa.K
open Go.RowKit Go.Proofs.YtbaklikaoleplaaW.PrintWords Go.Proofs.YtbaklikaoleplaaW.PrintLast Go.Proofs.YtbaklikaoleplaaW.PrintMore
attribute [local go_sem] max2_int min2_int max_two min_two max_three min_three max_four min_four
set_option linter.unusedVariables false
set_option linter.unusedSimpArgs false
def impl_within.f (a0:Int) (a1:Int) (a2:Int):Option (Bool):=if a0≤a1 then (some (decide (a1≤a2))) else (some false)
set_option maxHeartbeats 8000000 in
set_option maxRecDepth 100000 in
theorem impl_within.calls (a0:Int) (a1:Int) (a2:Int) (r:Bool) (w:World) (h:impl_within.f a0 a1 a2=some r):
  Calls Try.prog 96 #[.int .i64 a0,.int .i64 a1,.int .i64 a2] w fun e w'=>e= .returned (.bool r)∧Drawn0 w w':=by
 have H:(if a0≤a1 then (some (decide (a1≤a2))) else (some false))=some r:=h
 clear h;by_cases c4:a0≤a1
 ·rw [if_pos c4] at H
  have c4b0:decide (a0≤a1)=true:=decide_eq_true c4
  clear c4;obtain rfl:=Option.some.inj H;go_enter Try.func96,Try.ntmps96;go_wp2;go_ret;exact ⟨zz5,zz10⟩
 ·rw [if_neg c4] at H
  have c4b0:decide (a0≤a1)=false:=decide_eq_false c4
  clear c4;obtain rfl:=Option.some.inj H;go_enter Try.func96,Try.ntmps96;go_wp2;go_ret;exact ⟨zz5,zz10⟩
end Go.Proofs.Ytbaklikaoleplaa.K
namespace Go.Proofs.Ytbaklikaoleplaa.K
open Go.RowKit Go.Proofs.YtbaklikaoleplaaW.PrintWords Go.Proofs.YtbaklikaoleplaaW.PrintLast Go.Proofs.YtbaklikaoleplaaW.PrintMore
attribute [local go_sem] max2_int min2_int max_two min_two max_three min_three max_four min_four
set_option linter.unusedVariables false
set_option linter.unusedSimpArgs false
def impl_cardsOf.f (a0:Int):Option (Int):=some (wrap64 (Int.tdiv (wrap64 ((wrap64 (a0+4)) - 1)) 4))
set_option maxHeartbeats 8000000 in
set_option maxRecDepth 100000 in
theorem impl_cardsOf.calls (a0:Int) (r:Int) (w:World) (h:impl_cardsOf.f a0=some r):
  Calls Try.prog 97 #[.int .i64 a0] w fun e w'=>e= .returned (.int .i64 r)∧Drawn0 w w':=by
 have H:(some (wrap64 (Int.tdiv (wrap64 ((wrap64 (a0+4)) - 1)) 4)))=some r:=h
 clear h;obtain rfl:=Option.some.inj H;go_enter Try.func97,Try.ntmps97;go_wp2;go_ret;exact ⟨zz5,zz10⟩
end Go.Proofs.Ytbaklikaoleplaa.K
namespace Go.Proofs.Ytbaklikaoleplaa.K
open Go.RowKit Go.Proofs.YtbaklikaoleplaaW.PrintWords Go.Proofs.YtbaklikaoleplaaW.PrintLast Go.Proofs.YtbaklikaoleplaaW.PrintMore
attribute [local go_sem] max2_int min2_int max_two min_two max_three min_three max_four min_four
set_option linter.unusedVariables false
set_option linter.unusedSimpArgs false
set_option maxHeartbeats 4000000 in
set_option maxRecDepth 100000 in
theorem Mem_parts.calls (ad:Addr) (n c y:Nat) (a1 a2 a3:Int) (v4:Value) (h4:v4.oneCell'=true) (w:World) (hy:a1=(y:Int)) (h1:y≤n) (hc:n≤c):
  Calls Try.prog 98 #[.agg #[.slice (some ad) n c,.int .i64 a1,.int .i64 a2,.int .i64 a3,v4]] w fun e w'=>e= .returned (.agg #[.slice (some ad) y c,.slice (if c=y then some ad else some (ad.add y)) (n - y) (c - y)])∧Below w.heap.size w w':=by
 have p2:=eq_true (show a1≤(n:Int) by omega);have p1:=eq_true (show 0≤a1 by omega);have p3:=eq_true (show a1≤(c:Int) by omega);have p4:=eq_true (show y≤n by omega);have p5:=eq_true (show y≤c by omega);have p6:a1.toNat=y:=by omega
 go_enter Try.func98,Try.ntmps98;go_wp2
 go_region
 all_goals go_wp2
 all_goals refine bodyPost_ret (results_cell_row rfl _ _ (w.heap.size+1) 119 _ (0,0) _ rfl (blk_drew (heap_pair w _ _).2) Try.underlying119 rfl (by kernel_rfl)) rfl ?_
 ·refine ⟨by first | rfl | (simp; done) | (simp; rfl), ?_⟩
  exact below_drew1 (below_alloc (below_alloc (Below.refl _ _) _) _)
 ·refine ⟨?_, below_drew1 (below_alloc (below_alloc (Below.refl _ _) _) _)⟩
  first|rfl|(rw [if_neg (by omega)];rfl)
theorem Mem_parts.calls2 (ad ad2:Addr) (n c y z zc:Nat) (a1 a2 a3:Int) (v4:Value) (h4:v4.oneCell'=true) (w:World) (hy:a1=(y:Int)) (h1:y≤n) (hc:n≤c) (h2:(if c=y then some ad else some (ad.add y))=some ad2) (hz:n - y=z) (hzc:c - y=zc):
  Calls Try.prog 98 #[.agg #[.slice (some ad) n c,.int .i64 a1,.int .i64 a2,.int .i64 a3,v4]] w fun e w'=>e= .returned (.agg #[.slice (some ad) y c,.slice (some ad2) z zc])∧Below w.heap.size w w':=by
 subst hz hzc;rw [←h2];exact Mem_parts.calls ad n c y a1 a2 a3 v4 h4 w hy h1 hc
end Go.Proofs.Ytbaklikaoleplaa.K
