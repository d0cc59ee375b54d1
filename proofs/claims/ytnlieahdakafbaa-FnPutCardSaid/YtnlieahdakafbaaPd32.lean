import Derived.Test.YtnlieahdakafbaaPd24
import Derived.Test.YtnlieahdakafbaaPd30
import Derived.Test.YtnlieahdakafbaaPd27
import Derived.Test.YtnlieahdakafbaaPd31
import Derived.Test.YtnlieahdakafbaaPd25
import Derived.Test.YtnlieahdakafbaaPd29
namespace Go.Proofs.Ytnlieahdakafbaa.K
open Go.RowKit Go.Proofs.YtnlieahdakafbaaW.PrintWords Go.Proofs.YtnlieahdakafbaaW.PrintLast Go.Proofs.YtnlieahdakafbaaW.PrintMore
attribute [local go_sem] max2_int min2_int max_two min_two max_three min_three max_four min_four
set_option linter.unusedVariables false
set_option linter.unusedSimpArgs false
def spec_MemOk.l0:Nat→List (S112)→List Int→List Bool→Int→List Int→Int→Int→Int→List Bool→Option (Bool)
  |0,_,_,_,_,_,_,_,_,_=>none
  |k+1,x0,x5,x7,x8,x293000,x293001,x293002,x293003,x293004=>if x8<(x5.length:Int) then (if 0≤x8 then ((spec_l21Thing.f k x0 x293000 x293001 x293002 x293003 x293004 x7 (rd x5 x8)).bind fun t302=>(if t302=true then (spec_MemOk.l0 k x0 x5 x7 (wrap64 (x8+1)) x293000 x293001 x293002 x293003 x293004) else (some false))) else (none)) else (some true)
def spec_MemOk.f (k:Nat) (l0:List (S112)) (l1_0:List Int) (a1_1:Int) (a1_2:Int) (a1_3:Int) (l1_4:List Bool):Option (Bool):=(spec_l21Bounds.f k l0 l1_0 a1_1 a1_2 a1_3 l1_4).bind fun t293=>(if t293=true then ((spec_l21Walk.f k l0 l1_0 a1_1 a1_2 a1_3 l1_4).bind fun bt294=>(if bt294.2=true then ((spec_l21Starts.f k (l1_0.length:Int) bt294.1).bind fun t298=>(spec_MemOk.l0 k l0 bt294.1 t298 0 l1_0 a1_1 a1_2 a1_3 l1_4)) else (some false))) else (some false))
def spec_MemOk.T10:Bool×List (List Nat×List Nat):=(true,[([],[]),([],[]),([],[]),([],[]),([],[]),([3,4],[3,4]),([5],[5]),([0,1,2,6],[0,1,2,6]),([7],[7])])
def spec_MemOk.B10:List Nat:=[0,0,0,0,0,24,56,127,255]
theorem spec_MemOk.tab10:rtab .any (opsOf Try.f14 10)=spec_MemOk.T10:=by kernel_rfl
theorem spec_MemOk.bits10:waitsOk spec_MemOk.T10.2 spec_MemOk.B10=true:=by kernel_rfl
set_option maxHeartbeats 8000000 in
set_option maxRecDepth 100000 in
theorem spec_MemOk.calls (k : Nat) (A0 : Option Addr) (c0 : Nat) (l0 : List (S112)) (A1_0 : Option Addr) (c1_0 : Nat) (l1_0 : List Int) (a1_1 : Int) (a1_2 : Int) (a1_3 : Int) (A1_4 : Option Addr) (c1_4 : Nat) (l1_4 : List Bool) (r : Bool) (w : World) (hr0 : Kd.C k112 w A0 l0.length l0) (hc0 : l0.length ≤ c0) (hr1_0 : Kd.C (Kd.int .i64) w A1_0 l1_0.length l1_0) (hc1_0 : l1_0.length ≤ c1_0) (hr1_4 : Kd.C Kd.bool w A1_4 l1_4.length l1_4) (hc1_4 : l1_4.length ≤ c1_4) (h : spec_MemOk.f k l0 l1_0 a1_1 a1_2 a1_3 l1_4 = some r) :
  Calls Try.prog 14 #[.slice A0 l0.length c0,.agg #[.slice A1_0 l1_0.length c1_0,.int .i64 a1_1,.int .i64 a1_2,.int .i64 a1_3,.slice A1_4 l1_4.length c1_4]] w fun e w'=>e= .returned (.bool r)∧Below w.heap.size w w':=by
 have hu27:=Try.underlying27;have HR0:=aK hr0;have HC0:=aK hc0;clear hr0 hc0;have HR1_0:=aK hr1_0;have HC1_0:=aK hc1_0;clear hr1_0 hc1_0;have HR1_4:=aK hr1_4;have HC1_4:=aK hc1_4;clear hr1_4 hc1_4;have HB:=aK (Below.refl w.heap.size w);have H:((spec_l21Bounds.f k l0 l1_0 a1_1 a1_2 a1_3 l1_4).bind fun t293=>(if t293=true then ((spec_l21Walk.f k l0 l1_0 a1_1 a1_2 a1_3 l1_4).bind fun bt294=>(if bt294.2=true then ((spec_l21Starts.f k (l1_0.length:Int) bt294.1).bind fun t298=>(spec_MemOk.l0 k l0 bt294.1 t298 0 l1_0 a1_1 a1_2 a1_3 l1_4)) else (some false))) else (some false)))=some r:=h
 clear h;replace H:=Option.bind_eq_some_iff.mp H;obtain ⟨t293,A30,H⟩:=H;(try dsimp only at H);have A3:=aK A30;clear A30;by_cases c4:t293=true
 ·subst c4
  rw [if_pos rfl] at H;replace H:=Option.bind_eq_some_iff.mp H;obtain ⟨⟨t294,t297⟩,A50,H⟩:=H;(try dsimp only at H);have A5:=aK A50;clear A50;by_cases c6:t297=true
  ·subst c6
   rw [if_pos rfl] at H;replace H:=Option.bind_eq_some_iff.mp H;obtain ⟨t298,A70,H⟩:=H;(try dsimp only at H);have A7:=aK A70;clear A70;have H':=aK H;clear H;go_enter Try.func14,Try.ntmps14
   go_wp2_with (first|((with_reducible refine gate_dst (N:=3) rfl ?_);refine box_event ?hg (N:=3) ?hd (cs:= #[.slice A1_0 l1_0.length c1_0,.int .i64 a1_1,.int .i64 a1_2,.int .i64 a1_3,.slice A1_4 l1_4.length c1_4]) (t:=27) ?hr ?_;(case hd=>rfl);(case hg=>rfl);(case hr=>first|(go_simp;done)|(go_simp;rfl));intro gb292 hg w8 hbox hb;have BK292:=aK (hbox);have GW292:=aK ((by rw [hg];exact (below_size zz1):w.heap.size≤gb292));have GE292:=aK ((by rw [hg];exact (below_size zz1):w.heap.size≤gb292));replace HB:=aK (below_step zz1 hb);clear hb hbox hg;obtain ⟨hcz9_0,hcz9_1,hcz9_2,hcz9_3,hcz9_4,hfz9_0,hfz9_1,hfz9_2,hfz9_3,hfz9_4⟩:=cbf5 BK292)|((with_reducible refine gate_callee (f:=46) rfl ?_);refine goesL_ (some 11) rfl rfl Try.func46 (by kernel_rfl) rfl #[.slice A0 l0.length c0,.agg #[.slice A1_0 l1_0.length c1_0,.int .i64 a1_1,.int .i64 a1_2,.int .i64 a1_3,.slice A1_4 l1_4.length c1_4]] rfl zz2 ?_;(with_reducible refine (spec_l21Bounds.calls k _ _ l0 _ _ l1_0 a1_1 a1_2 a1_3 _ _ l1_4 true _ ?side1 ?side2 ?side3 ?side4 ?side5 ?side6 A3.out).mono ?_);(case side1=>exact zz4);(case side2=>exact HC0.out);(case side3=>exact zz6);(case side4=>exact HC1_0.out);(case side5=>exact zz12);(case side6=>exact HC1_4.out);rintro e w10 ⟨rfl,hb⟩;refine ⟨_,rfl,?_⟩;replace BK292:=aK (blk_below (g:=gb292) (o:= .cells #[.slice A1_0 l1_0.length c1_0,.int .i64 a1_1,.int .i64 a1_2,.int .i64 a1_3,.slice A1_4 l1_4.length c1_4] 27 (0,0)) zz35 hb);replace HB:=aK (below_step zz11 hb);(try clear hb);(try clear hb2);(try clear hk);(try clear hi);obtain ⟨hcz11_0,hcz11_1,hcz11_2,hcz11_3,hcz11_4,hfz11_0,hfz11_1,hfz11_2,hfz11_3,hfz11_4⟩:=cbf5 BK292)|((with_reducible refine gate_callee (f:=40) rfl ?_);refine goesL_ (some 16) rfl rfl Try.func40 (by kernel_rfl) rfl #[.slice A0 l0.length c0,.agg #[.slice A1_0 l1_0.length c1_0,.int .i64 a1_1,.int .i64 a1_2,.int .i64 a1_3,.slice A1_4 l1_4.length c1_4]] rfl zz2 ?_;(with_reducible refine (spec_l21Walk.calls k _ _ l0 _ _ l1_0 a1_1 a1_2 a1_3 _ _ l1_4 t294 true _ ?side1 ?side2 ?side3 ?side4 ?side5 ?side6 A5.out).mono ?_);(case side1=>exact zz4);(case side2=>exact HC0.out);(case side3=>exact zz6);(case side4=>exact HC1_0.out);(case side5=>exact zz12);(case side6=>exact HC1_4.out);rintro e w12 ⟨v295,rfl,ho0,hb⟩;refine ⟨_,rfl,?_⟩;have HO296:=aK (Kd.R_lower ho0 (below_size zz11));replace BK292:=aK (blk_below (g:=gb292) (o:= .cells #[.slice A1_0 l1_0.length c1_0,.int .i64 a1_1,.int .i64 a1_2,.int .i64 a1_3,.slice A1_4 l1_4.length c1_4] 27 (0,0)) zz35 hb);replace HB:=aK (below_step zz11 hb);(try clear hb);(try clear hb2);(try clear hk);(try clear hi);(try clear ho0);obtain ⟨hcz13_0,hcz13_1,hcz13_2,hcz13_3,hcz13_4,hfz13_0,hfz13_1,hfz13_2,hfz13_3,hfz13_4⟩:=cbf5 BK292;obtain ⟨Ao14,co14,eo14⟩:=Kd.R_slice HO296.out;subst eo14)|((with_reducible refine gate_callee (f:=42) rfl ?_);refine goesL_ (some 25) rfl rfl Try.func42 (by kernel_rfl) rfl #[.int .i64 (l1_0.length:Int),.slice Ao14 t294.length co14] rfl zz2 ?_;(with_reducible refine (spec_l21Starts.calls k (l1_0.length:Int) _ _ t294 t298 _ ?side1 ?side2 A7.out).mono ?_);(case side1=>exact (by repeat (first|exact (Kd.R_reads' HO296.out).2.2|(with_reducible refine Kd.C_alloc ?_ _)|(with_reducible refine Kd.C_drewN ?_ _)|(with_reducible refine Kd.C_drew ?_))));(case side2=>exact (Kd.R_reads' HO296.out).2.1);rintro e w15 ⟨v299,rfl,ho0,hb⟩;refine ⟨_,rfl,?_⟩;have HO300:=aK (Kd.R_lower ho0 (below_size zz11));replace HO296:=aK (Kd.R_below (by (with_reducible repeat (first|apply Kd.R_alloc|apply Kd.R_drewN|apply Kd.R_drew));exact HO296.out) hb);replace BK292:=aK (blk_below (g:=gb292) (o:= .cells #[.slice A1_0 l1_0.length c1_0,.int .i64 a1_1,.int .i64 a1_2,.int .i64 a1_3,.slice A1_4 l1_4.length c1_4] 27 (0,0)) zz35 hb);replace HB:=aK (below_step zz11 hb);(try clear hb);(try clear hb2);(try clear hk);(try clear hi);(try clear ho0)))
   go_loopg [8] k (fun kq v8 w'=> ∃(x8_1:Int),v8= .int .i64 x8_1∧Aside0 (spec_MemOk.l0 kq l0 t294 t298 x8_1 l1_0 a1_1 a1_2 a1_3 l1_4=some r)∧Aside0 (kq≤k)∧Aside0 (Kd.R (Kd.int .i64) 3 w' w.heap.size (fun _=>True) (.slice Ao14 t294.length co14) t294)∧Aside0 (Kd.R Kd.bool 4 w' w.heap.size (fun _=>True) v299 t298)∧Aside0 (w'.heap[gb292]? =some (.cells #[(.slice A1_0 l1_0.length c1_0),.int .i64 a1_1,.int .i64 a1_2,.int .i64 a1_3,(.slice A1_4 l1_4.length c1_4)] 27 (0,0)))∧Aside0 (Below w.heap.size w w'))
   case atStart=>exact ⟨(0),zz7,H',⟨Nat.le_refl _⟩,⟨by (with_reducible repeat (first|apply Kd.R_alloc|apply Kd.R_drewN|apply Kd.R_drew));exact HO296.out⟩,⟨by (with_reducible repeat (first|apply Kd.R_alloc|apply Kd.R_drewN|apply Kd.R_drew));exact HO300.out⟩,⟨by (with_reducible repeat (first|refine blk_drewN ?_ _|refine blk_drew ?_|refine blk_alloc ?_ _));exact BK292.out⟩,⟨by repeat (first|(with_reducible first|exact HB.out|apply below_alloc|apply pw_below_drewN|apply below_drew1|refine below_set ?_ GE292.out)|exact HB.out)⟩⟩
   case round =>
    clear H';(try clear c1);(try clear p2);(try clear c4);(try clear c6);(try clear c14);(try clear hcz11_0);(try clear hcz11_1);(try clear hcz11_2);(try clear hcz11_3);(try clear hcz11_4);(try clear hcz13_0);(try clear hcz13_1);(try clear hcz13_2);(try clear hcz13_3);(try clear hcz13_4);(try clear hcz9_0);(try clear hcz9_1);(try clear hcz9_2);(try clear hcz9_3);(try clear hcz9_4);(try clear hfz11_0);(try clear hfz11_1);(try clear hfz11_2);(try clear hfz11_3);(try clear hfz11_4);(try clear hfz13_0);(try clear hfz13_1);(try clear hfz13_2);(try clear hfz13_3);(try clear hfz13_4);(try clear hfz9_0);(try clear hfz9_1);(try clear hfz9_2);(try clear hfz9_3);(try clear hfz9_4);obtain ⟨x8_1,rfl,HA,HK1,HO_5,HO_7,BK292,HB⟩:=hrel
    cases gk with
    |zero=>exact absurd HA.out (by simp [spec_MemOk.l0])
    | succ k1 =>
     have H:=HA.out;clear HA;simp only [spec_MemOk.l0] at H;by_cases c16:x8_1<(t294.length:Int)
     ·rw [if_pos c16] at H
      have c16b0:decide (x8_1<(t294.length:Int))=true:=decide_eq_true c16
      clear c16;by_cases c17:0≤x8_1
      ·rw [if_pos c17] at H
       have c17b0:decide (0≤x8_1)=true:=decide_eq_true c17
       clear c17;replace H:=Option.bind_eq_some_iff.mp H;obtain ⟨t302,A180,H⟩:=H;(try dsimp only at H);have A18:=aK A180;clear A180;by_cases c19:t302=true
       ·subst c19
        rw [if_pos rfl] at H;have H':=aK H;clear H;try go_wp2
        have n0_:=aK (Kd.R_drew HO_5.out);have n1_:=aK (Kd.R_drew HO_7.out);have n2_:=aK (blk_drew BK292.out);have n3_:=aK (below_drew1 HB.out);clear HO_5;clear HO_7;clear BK292;clear HB;have HO_5:=n0_;have HO_7:=n1_;have BK292:=n2_;have HB:=n3_;clear n0_ n1_ n2_ n3_;have p301:0≤(x8_1:Int):=of_decide_eq_true zz3
        have q301:x8_1<(t294.length:Int):=of_decide_eq_true zz3
        obtain ⟨ad301,e301,hx301_0⟩:=Kd.at_int (Kd.R_reads' HO_5.out).2.2 x8_1 p301 q301
        cases e301
        replace p301:=eq_true p301;replace q301:=eq_true q301;obtain ⟨Ao21,co21,eo21⟩:=Kd.R_slice HO_7.out
        (first|subst eo21|(injection eo21 with f1_ f2_ f3_;have f4_:=f1_.symm;have f5_:=f3_.symm;clear f1_ f2_ f3_;subst f4_;subst f5_))
        refine sT 9 (S:=fun w'=>w'.cell? ⟨gb292,0,none⟩=some (.slice A1_0 l1_0.length c1_0)∧w'.cell? ⟨gb292,1,none⟩=some (.int .i64 a1_1)∧w'.cell? ⟨gb292,2,none⟩=some (.int .i64 a1_2)∧w'.cell? ⟨gb292,3,none⟩=some (.int .i64 a1_3)∧w'.cell? ⟨gb292,4,none⟩=some (.slice A1_4 l1_4.length c1_4)∧w'.cell? (ad301.add (x8_1).toNat)=some (.int .i64 (rd t294 x8_1))) (ds:=[]) ⟨(blk_cell BK292.out 0).trans rfl,(blk_cell BK292.out 1).trans rfl,(blk_cell BK292.out 2).trans rfl,(blk_cell BK292.out 3).trans rfl,(blk_cell BK292.out 4).trans rfl,hx301_0⟩ (fun hHeld=>?_);refine with_tabW spec_MemOk.tab10 spec_MemOk.bits10 (fun HT_ HW_=>?_);generalize wr.drew=w20 at HO_5 HO_7 BK292 HB hx301_0 hHeld ⊢;refine pT 0 32 #[true,false,false,false,false,false,false,false,false] HT_ ?_;refine pT 2 34 #[true,false,true,false,false,false,false,false,false] HT_ ?_;refine pT 3 35 #[true,false,true,true,false,false,false,false,false] HT_ ?_;refine pT 4 36 #[true,false,true,true,true,false,false,false,false] HT_ ?_;refine pT 5 37 #[true,false,true,true,true,true,false,false,false] HT_ ?_;refine tS 1 33 #[true,true,true,true,true,true,false,false,false] rfl rfl (take_ofW HT_.out HW_.out (by kernel_rfl)) hHeld zz5 ?_;refine tS 6 38 #[true,true,true,true,true,true,true,false,false] rfl rfl (take_ofW HT_.out HW_.out (by kernel_rfl)) hHeld zz5 ?_;refine one_ (i:=7) (N:=some 39) #[true,true,true,true,true,true,true,true,false] rfl rfl (one_of HT_.out (by kernel_rfl)) (by decide) (fun K hK=>?_);refine goes_ Try.func47 (by kernel_rfl) rfl #[.slice A0 l0.length c0,.agg #[.slice A1_0 l1_0.length c1_0,.int .i64 a1_1,.int .i64 a1_2,.int .i64 a1_3,.slice A1_4 l1_4.length c1_4],.slice Ao21 t298.length co21,.int .i64 (rd t294 x8_1)] (by rfl) rfl rfl zz2 ?_;(with_reducible refine (spec_l21Thing.calls k1 _ _ l0 _ _ l1_0 a1_1 a1_2 a1_3 _ _ l1_4 _ _ t298 (rd t294 x8_1) true _ ?side1 ?side2 ?side3 ?side4 ?side5 ?side6 ?side7 ?side8 A18.out).mono ?_)
        (case side1=>exact zz4)
        (case side2=>exact HC0.out)
        (case side3=>exact zz6)
        (case side4=>exact HC1_0.out)
        (case side5=>exact zz12)
        (case side6=>exact HC1_4.out)
        (case side7=>exact (by repeat (first|exact (Kd.R_reads' HO_7.out).2.2|(with_reducible refine Kd.C_alloc ?_ _)|(with_reducible refine Kd.C_drewN ?_ _)|(with_reducible refine Kd.C_drew ?_))))
        (case side8=>exact (Kd.R_reads' HO_7.out).2.1)
        rintro e w22 ⟨rfl,hb⟩;have HS5_:=(hb.cell (World.block_lt_of_cell? _ _ (hHeld.2.2.2.2.2))).trans (hHeld.2.2.2.2.2);refine ⟨_,rfl,?_⟩;have n0_:=aK (Kd.R_below (by (with_reducible repeat (first|apply Kd.R_alloc|apply Kd.R_drewN|apply Kd.R_drew));exact HO_5.out) hb);have n1_:=aK (Kd.R_below (by (with_reducible repeat (first|apply Kd.R_alloc|apply Kd.R_drewN|apply Kd.R_drew));exact HO_7.out) hb);have n2_:=aK (blk_below (g:=gb292) (o:= .cells #[.slice A1_0 l1_0.length c1_0,.int .i64 a1_1,.int .i64 a1_2,.int .i64 a1_3,.slice A1_4 l1_4.length c1_4] 27 (0,0)) zz35 hb);have n3_:=aK (below_step zz11 hb);clear HO_5;clear HO_7;clear BK292;clear HB;have HO_5:=n0_;have HO_7:=n1_;have BK292:=n2_;have HB:=n3_;clear n0_ n1_ n2_ n3_;(try clear hb);(try clear hb2);(try clear hk);(try clear hi);refine hK.out _ _ ⟨(blk_cell BK292.out 0).trans rfl,(blk_cell BK292.out 1).trans rfl,(blk_cell BK292.out 2).trans rfl,(blk_cell BK292.out 3).trans rfl,(blk_cell BK292.out 4).trans rfl,HS5_⟩ (fun hHeld=>?_);clear hK K;refine nS 39 ?_;refine pT 8 40 #[true,true,true,true,true,true,true,true,true] HT_ ?_;refine done_ (done_of HT_.out (by kernel_rfl)) ?_;try go_wp2
        go_roundg k1
        case measure=>have:=HK1.out;omega
        case rel=>exact ⟨(wrap64 (x8_1+1)),zz7,H',⟨by have:=HK1.out;omega⟩,⟨by (with_reducible repeat (first|apply Kd.R_alloc|apply Kd.R_drewN|apply Kd.R_drew));exact HO_5.out⟩,⟨by (with_reducible repeat (first|apply Kd.R_alloc|apply Kd.R_drewN|apply Kd.R_drew));exact HO_7.out⟩,⟨by (with_reducible repeat (first|refine blk_drewN ?_ _|refine blk_drew ?_|refine blk_alloc ?_ _));exact BK292.out⟩,⟨by repeat (first|(with_reducible first|exact HB.out|apply below_alloc|apply pw_below_drewN|apply below_drew1|refine below_set ?_ GE292.out)|exact HB.out)⟩⟩
       ·replace c19 := Bool.eq_false_iff.mpr c19
        subst c19;rw [if_neg (show¬(false=true) by decide)] at H;obtain rfl:=Option.some.inj H;try go_wp2
        have n0_:=aK (Kd.R_drew HO_5.out);have n1_:=aK (Kd.R_drew HO_7.out);have n2_:=aK (blk_drew BK292.out);have n3_:=aK (below_drew1 HB.out);clear HO_5;clear HO_7;clear BK292;clear HB;have HO_5:=n0_;have HO_7:=n1_;have BK292:=n2_;have HB:=n3_;clear n0_ n1_ n2_ n3_;have p301:0≤(x8_1:Int):=of_decide_eq_true zz3
        have q301:x8_1<(t294.length:Int):=of_decide_eq_true zz3
        obtain ⟨ad301,e301,hx301_0⟩:=Kd.at_int (Kd.R_reads' HO_5.out).2.2 x8_1 p301 q301
        cases e301
        replace p301:=eq_true p301;replace q301:=eq_true q301;obtain ⟨Ao24,co24,eo24⟩:=Kd.R_slice HO_7.out
        (first|subst eo24|(injection eo24 with f1_ f2_ f3_;have f4_:=f1_.symm;have f5_:=f3_.symm;clear f1_ f2_ f3_;subst f4_;subst f5_))
        refine sT 9 (S:=fun w'=>w'.cell? ⟨gb292,0,none⟩=some (.slice A1_0 l1_0.length c1_0)∧w'.cell? ⟨gb292,1,none⟩=some (.int .i64 a1_1)∧w'.cell? ⟨gb292,2,none⟩=some (.int .i64 a1_2)∧w'.cell? ⟨gb292,3,none⟩=some (.int .i64 a1_3)∧w'.cell? ⟨gb292,4,none⟩=some (.slice A1_4 l1_4.length c1_4)∧w'.cell? (ad301.add (x8_1).toNat)=some (.int .i64 (rd t294 x8_1))) (ds:=[]) ⟨(blk_cell BK292.out 0).trans rfl,(blk_cell BK292.out 1).trans rfl,(blk_cell BK292.out 2).trans rfl,(blk_cell BK292.out 3).trans rfl,(blk_cell BK292.out 4).trans rfl,hx301_0⟩ (fun hHeld=>?_);refine with_tabW spec_MemOk.tab10 spec_MemOk.bits10 (fun HT_ HW_=>?_);generalize wr.drew=w23 at HO_5 HO_7 BK292 HB hx301_0 hHeld ⊢;refine pT 0 32 #[true,false,false,false,false,false,false,false,false] HT_ ?_;refine pT 2 34 #[true,false,true,false,false,false,false,false,false] HT_ ?_;refine pT 3 35 #[true,false,true,true,false,false,false,false,false] HT_ ?_;refine pT 4 36 #[true,false,true,true,true,false,false,false,false] HT_ ?_;refine pT 5 37 #[true,false,true,true,true,true,false,false,false] HT_ ?_;refine tS 1 33 #[true,true,true,true,true,true,false,false,false] rfl rfl (take_ofW HT_.out HW_.out (by kernel_rfl)) hHeld zz5 ?_;refine tS 6 38 #[true,true,true,true,true,true,true,false,false] rfl rfl (take_ofW HT_.out HW_.out (by kernel_rfl)) hHeld zz5 ?_;refine one_ (i:=7) (N:=some 39) #[true,true,true,true,true,true,true,true,false] rfl rfl (one_of HT_.out (by kernel_rfl)) (by decide) (fun K hK=>?_);refine goes_ Try.func47 (by kernel_rfl) rfl #[.slice A0 l0.length c0,.agg #[.slice A1_0 l1_0.length c1_0,.int .i64 a1_1,.int .i64 a1_2,.int .i64 a1_3,.slice A1_4 l1_4.length c1_4],.slice Ao24 t298.length co24,.int .i64 (rd t294 x8_1)] (by rfl) rfl rfl zz2 ?_;(with_reducible refine (spec_l21Thing.calls k1 _ _ l0 _ _ l1_0 a1_1 a1_2 a1_3 _ _ l1_4 _ _ t298 (rd t294 x8_1) false _ ?side1 ?side2 ?side3 ?side4 ?side5 ?side6 ?side7 ?side8 A18.out).mono ?_)
        (case side1=>exact zz4)
        (case side2=>exact HC0.out)
        (case side3=>exact zz6)
        (case side4=>exact HC1_0.out)
        (case side5=>exact zz12)
        (case side6=>exact HC1_4.out)
        (case side7=>exact (by repeat (first|exact (Kd.R_reads' HO_7.out).2.2|(with_reducible refine Kd.C_alloc ?_ _)|(with_reducible refine Kd.C_drewN ?_ _)|(with_reducible refine Kd.C_drew ?_))))
        (case side8=>exact (Kd.R_reads' HO_7.out).2.1)
        rintro e w25 ⟨rfl,hb⟩;have HS5_:=(hb.cell (World.block_lt_of_cell? _ _ (hHeld.2.2.2.2.2))).trans (hHeld.2.2.2.2.2);refine ⟨_,rfl,?_⟩;have n0_:=aK (Kd.R_below (by (with_reducible repeat (first|apply Kd.R_alloc|apply Kd.R_drewN|apply Kd.R_drew));exact HO_5.out) hb);have n1_:=aK (Kd.R_below (by (with_reducible repeat (first|apply Kd.R_alloc|apply Kd.R_drewN|apply Kd.R_drew));exact HO_7.out) hb);have n2_:=aK (blk_below (g:=gb292) (o:= .cells #[.slice A1_0 l1_0.length c1_0,.int .i64 a1_1,.int .i64 a1_2,.int .i64 a1_3,.slice A1_4 l1_4.length c1_4] 27 (0,0)) zz35 hb);have n3_:=aK (below_step zz11 hb);clear HO_5;clear HO_7;clear BK292;clear HB;have HO_5:=n0_;have HO_7:=n1_;have BK292:=n2_;have HB:=n3_;clear n0_ n1_ n2_ n3_;(try clear hb);(try clear hb2);(try clear hk);(try clear hi);refine hK.out _ _ ⟨(blk_cell BK292.out 0).trans rfl,(blk_cell BK292.out 1).trans rfl,(blk_cell BK292.out 2).trans rfl,(blk_cell BK292.out 3).trans rfl,(blk_cell BK292.out 4).trans rfl,HS5_⟩ (fun hHeld=>?_);clear hK K;refine nS 39 ?_;refine pT 8 40 #[true,true,true,true,true,true,true,true,true] HT_ ?_;refine done_ (done_of HT_.out (by kernel_rfl)) ?_;try go_wp2
        go_ret;exact ⟨zz8,zz11⟩
      ·rw [if_neg c17] at H
       exact absurd H (by simp)
     ·rw [if_neg c16] at H
      have c16b0:decide (x8_1<(t294.length:Int))=false:=decide_eq_false c16
      clear c16;obtain rfl:=Option.some.inj H;go_wp2;go_ret;exact ⟨zz8,zz11⟩
  ·replace c6 := Bool.eq_false_iff.mpr c6
   subst c6;rw [if_neg (show¬(false=true) by decide)] at H;obtain rfl:=Option.some.inj H;go_enter Try.func14,Try.ntmps14
   go_wp2_with (first|((with_reducible refine gate_dst (N:=3) rfl ?_);refine box_event ?hg (N:=3) ?hd (cs:= #[.slice A1_0 l1_0.length c1_0,.int .i64 a1_1,.int .i64 a1_2,.int .i64 a1_3,.slice A1_4 l1_4.length c1_4]) (t:=27) ?hr ?_;(case hd=>rfl);(case hg=>rfl);(case hr=>first|(go_simp;done)|(go_simp;rfl));intro gb292 hg w26 hbox hb;have BK292:=aK (hbox);have GW292:=aK ((by rw [hg];exact (below_size zz1):w.heap.size≤gb292));have GE292:=aK ((by rw [hg];exact (below_size zz1):w.heap.size≤gb292));replace HB:=aK (below_step zz1 hb);clear hb hbox hg;obtain ⟨hcz27_0,hcz27_1,hcz27_2,hcz27_3,hcz27_4,hfz27_0,hfz27_1,hfz27_2,hfz27_3,hfz27_4⟩:=cbf5 BK292)|((with_reducible refine gate_callee (f:=46) rfl ?_);refine goesL_ (some 11) rfl rfl Try.func46 (by kernel_rfl) rfl #[.slice A0 l0.length c0,.agg #[.slice A1_0 l1_0.length c1_0,.int .i64 a1_1,.int .i64 a1_2,.int .i64 a1_3,.slice A1_4 l1_4.length c1_4]] rfl zz2 ?_;(with_reducible refine (spec_l21Bounds.calls k _ _ l0 _ _ l1_0 a1_1 a1_2 a1_3 _ _ l1_4 true _ ?side1 ?side2 ?side3 ?side4 ?side5 ?side6 A3.out).mono ?_);(case side1=>exact zz4);(case side2=>exact HC0.out);(case side3=>exact zz6);(case side4=>exact HC1_0.out);(case side5=>exact zz12);(case side6=>exact HC1_4.out);rintro e w28 ⟨rfl,hb⟩;refine ⟨_,rfl,?_⟩;replace BK292:=aK (blk_below (g:=gb292) (o:= .cells #[.slice A1_0 l1_0.length c1_0,.int .i64 a1_1,.int .i64 a1_2,.int .i64 a1_3,.slice A1_4 l1_4.length c1_4] 27 (0,0)) zz35 hb);replace HB:=aK (below_step zz11 hb);(try clear hb);(try clear hb2);(try clear hk);(try clear hi);obtain ⟨hcz29_0,hcz29_1,hcz29_2,hcz29_3,hcz29_4,hfz29_0,hfz29_1,hfz29_2,hfz29_3,hfz29_4⟩:=cbf5 BK292)|((with_reducible refine gate_callee (f:=40) rfl ?_);refine goesL_ (some 16) rfl rfl Try.func40 (by kernel_rfl) rfl #[.slice A0 l0.length c0,.agg #[.slice A1_0 l1_0.length c1_0,.int .i64 a1_1,.int .i64 a1_2,.int .i64 a1_3,.slice A1_4 l1_4.length c1_4]] rfl zz2 ?_;(with_reducible refine (spec_l21Walk.calls k _ _ l0 _ _ l1_0 a1_1 a1_2 a1_3 _ _ l1_4 t294 false _ ?side1 ?side2 ?side3 ?side4 ?side5 ?side6 A5.out).mono ?_);(case side1=>exact zz4);(case side2=>exact HC0.out);(case side3=>exact zz6);(case side4=>exact HC1_0.out);(case side5=>exact zz12);(case side6=>exact HC1_4.out);rintro e w30 ⟨v295,rfl,ho0,hb⟩;refine ⟨_,rfl,?_⟩;have HO296:=aK (Kd.R_lower ho0 (below_size zz11));replace BK292:=aK (blk_below (g:=gb292) (o:= .cells #[.slice A1_0 l1_0.length c1_0,.int .i64 a1_1,.int .i64 a1_2,.int .i64 a1_3,.slice A1_4 l1_4.length c1_4] 27 (0,0)) zz35 hb);replace HB:=aK (below_step zz11 hb);(try clear hb);(try clear hb2);(try clear hk);(try clear hi);(try clear ho0)))
   go_ret;exact ⟨zz8,zz11⟩
 ·replace c4 := Bool.eq_false_iff.mpr c4
  subst c4;rw [if_neg (show¬(false=true) by decide)] at H;obtain rfl:=Option.some.inj H;go_enter Try.func14,Try.ntmps14
  go_wp2_with (first|((with_reducible refine gate_dst (N:=3) rfl ?_);refine box_event ?hg (N:=3) ?hd (cs:= #[.slice A1_0 l1_0.length c1_0,.int .i64 a1_1,.int .i64 a1_2,.int .i64 a1_3,.slice A1_4 l1_4.length c1_4]) (t:=27) ?hr ?_;(case hd=>rfl);(case hg=>rfl);(case hr=>first|(go_simp;done)|(go_simp;rfl));intro gb292 hg w31 hbox hb;have BK292:=aK (hbox);have GW292:=aK ((by rw [hg];exact (below_size zz1):w.heap.size≤gb292));have GE292:=aK ((by rw [hg];exact (below_size zz1):w.heap.size≤gb292));replace HB:=aK (below_step zz1 hb);clear hb hbox hg;obtain ⟨hcz32_0,hcz32_1,hcz32_2,hcz32_3,hcz32_4,hfz32_0,hfz32_1,hfz32_2,hfz32_3,hfz32_4⟩:=cbf5 BK292)|((with_reducible refine gate_callee (f:=46) rfl ?_);refine goesL_ (some 11) rfl rfl Try.func46 (by kernel_rfl) rfl #[.slice A0 l0.length c0,.agg #[.slice A1_0 l1_0.length c1_0,.int .i64 a1_1,.int .i64 a1_2,.int .i64 a1_3,.slice A1_4 l1_4.length c1_4]] rfl zz2 ?_;(with_reducible refine (spec_l21Bounds.calls k _ _ l0 _ _ l1_0 a1_1 a1_2 a1_3 _ _ l1_4 false _ ?side1 ?side2 ?side3 ?side4 ?side5 ?side6 A3.out).mono ?_);(case side1=>exact zz4);(case side2=>exact HC0.out);(case side3=>exact zz6);(case side4=>exact HC1_0.out);(case side5=>exact zz12);(case side6=>exact HC1_4.out);rintro e w33 ⟨rfl,hb⟩;refine ⟨_,rfl,?_⟩;replace BK292:=aK (blk_below (g:=gb292) (o:= .cells #[.slice A1_0 l1_0.length c1_0,.int .i64 a1_1,.int .i64 a1_2,.int .i64 a1_3,.slice A1_4 l1_4.length c1_4] 27 (0,0)) zz35 hb);replace HB:=aK (below_step zz11 hb);(try clear hb);(try clear hb2);(try clear hk);(try clear hi)))
  go_ret;exact ⟨zz8,zz11⟩
def spec_MemWalk.l0:Nat→List Int→List Int→Int→Option (List Int)
  |0,_,_,_=>none
  |k+1,x5,x6,x8=>if x8<(x6.length:Int) then (if 0≤x8 then (if x5.length<17592186044416 then (spec_MemWalk.l0 k (x5++[wrap64 ((rd x6 x8)+1)]) x6 (wrap64 (x8+1))) else (none)) else (none)) else (some x5)
def spec_MemWalk.f (k:Nat) (l0:List (S112)) (l1_0:List Int) (a1_1:Int) (a1_2:Int) (a1_3:Int) (l1_4:List Bool):Option (List Int):=(some (([]:List Int):List Int)).bind fun y304=>((spec_MemOk.f k l0 l1_0 a1_1 a1_2 a1_3 l1_4).bind fun t307=>(if t307=true then ((spec_l21Walk.f k l0 l1_0 a1_1 a1_2 a1_3 l1_4).bind fun bt308=>(spec_MemWalk.l0 k y304 bt308.1 0)) else (some y304)))
set_option maxHeartbeats 8000000 in
set_option maxRecDepth 100000 in
theorem spec_MemWalk.calls (k:Nat) (A0:Option Addr) (c0:Nat) (l0:List (S112)) (A1_0:Option Addr) (c1_0:Nat) (l1_0:List Int) (a1_1:Int) (a1_2:Int) (a1_3:Int) (A1_4:Option Addr) (c1_4:Nat) (l1_4:List Bool) (r:List Int) (w:World) (hr0:Kd.C k112 w A0 l0.length l0) (hc0:l0.length≤c0) (hr1_0:Kd.C (Kd.int .i64) w A1_0 l1_0.length l1_0) (hc1_0:l1_0.length≤c1_0) (hr1_4:Kd.C Kd.bool w A1_4 l1_4.length l1_4) (hc1_4:l1_4.length≤c1_4) (h:spec_MemWalk.f k l0 l1_0 a1_1 a1_2 a1_3 l1_4=some r):
  Calls Try.prog 64 #[.slice A0 l0.length c0,.agg #[.slice A1_0 l1_0.length c1_0,.int .i64 a1_1,.int .i64 a1_2,.int .i64 a1_3,.slice A1_4 l1_4.length c1_4]] w fun e w'=> ∃v0_:Value,e= .returned (v0_)∧Kd.R (Kd.int .i64) 3 w' w.heap.size (fun _=>True) v0_ r∧Below w.heap.size w w':=by
 have hu27:=Try.underlying27;have HR0:=aK hr0;have HC0:=aK hc0;clear hr0 hc0;have HR1_0:=aK hr1_0;have HC1_0:=aK hc1_0;clear hr1_0 hc1_0;have HR1_4:=aK hr1_4;have HC1_4:=aK hc1_4;clear hr1_4 hc1_4;have HB:=aK (Below.refl w.heap.size w);have H:((some (([]:List Int):List Int)).bind fun y304=>((spec_MemOk.f k l0 l1_0 a1_1 a1_2 a1_3 l1_4).bind fun t307=>(if t307=true then ((spec_l21Walk.f k l0 l1_0 a1_1 a1_2 a1_3 l1_4).bind fun bt308=>(spec_MemWalk.l0 k y304 bt308.1 0)) else (some y304))))=some r:=h
 clear h;obtain ⟨y304,hy304⟩: ∃y_:List Int,y_=(([]:List Int)):=⟨_,rfl⟩;replace H:((spec_MemOk.f k l0 l1_0 a1_1 a1_2 a1_3 l1_4).bind fun t307=>(if t307=true then ((spec_l21Walk.f k l0 l1_0 a1_1 a1_2 a1_3 l1_4).bind fun bt308=>(spec_MemWalk.l0 k y304 bt308.1 0)) else (some y304)))=some r:=by first|(rw [hy304];with_reducible exact H)|(have H2_:=(Option.bind_some _ _).symm.trans H;rw [hy304];with_reducible exact H2_)|(have H2_:=(Option.bind_some _ _).symm.trans H;with_reducible exact H2_)|with_reducible exact H|(rw [hy304];exact H)|exact H
 have Ny304:=aK hy304;clear hy304;replace H:=Option.bind_eq_some_iff.mp H;obtain ⟨t307,A30,H⟩:=H;(try dsimp only at H);have A3:=aK A30;clear A30;by_cases c4:t307=true
 ·subst c4
  rw [if_pos rfl] at H;replace H:=Option.bind_eq_some_iff.mp H;obtain ⟨⟨t308,t311⟩,A50,H⟩:=H;(try dsimp only at H);have A5:=aK A50;clear A50;have H':=aK H;clear H;go_enter Try.func64,Try.ntmps64
  go_wp2_with (first|((with_reducible refine gate_dst (N:=3) rfl ?_);refine box_event ?hg (N:=3) ?hd (cs:= #[.slice A1_0 l1_0.length c1_0,.int .i64 a1_1,.int .i64 a1_2,.int .i64 a1_3,.slice A1_4 l1_4.length c1_4]) (t:=27) ?hr ?_;(case hd=>rfl);(case hg=>rfl);(case hr=>first|(go_simp;done)|(go_simp;rfl));intro gb303 hg w6 hbox hb;have BK303:=aK (hbox);have GW303:=aK ((by rw [hg];exact (below_size zz1):w.heap.size≤gb303));have GE303:=aK ((by rw [hg];exact (below_size zz1):w.heap.size≤gb303));replace HB:=aK (below_step zz1 hb);clear hb hbox hg)|((with_reducible refine gate_dst (N:=9) rfl ?_);refine Kd.R_lit (Kd.int .i64) _ 3 ?hg (N:=9) ?hd (xs:=([]:List Int)) (inner:=[]) (ok:=fun _=>True) (okp:=fun _=>True) ?hr ?hp (fun _ hk=>hk) trivial (Below.refl _ _) (Nat.le_refl _) (by simp) ?_;(case hd=>rfl);(case hg=>rfl);(case hr=>first|(go_simp;done)|(go_simp;rfl));(case hp=>exact (Reps.none _ _));intro v305 w7 ho8 hb hg_ hnew_;clear hg_ hnew_;(first|rw [←Ny304.out] at ho8|(simp only [Int.reduceToNat] at ho8;rw [←Ny304.out] at ho8));have HO306:=aK (Kd.R_lower ho8 (below_size zz20));replace BK303:=aK (blk_below (g:=gb303) (o:= .cells #[.slice A1_0 l1_0.length c1_0,.int .i64 a1_1,.int .i64 a1_2,.int .i64 a1_3,.slice A1_4 l1_4.length c1_4] 27 (0,0)) zz40 hb);replace HB:=aK (below_step zz20 hb);clear hb ho8;obtain ⟨hcz9_0,hcz9_1,hcz9_2,hcz9_3,hcz9_4,hfz9_0,hfz9_1,hfz9_2,hfz9_3,hfz9_4⟩:=cbf5 BK303)|((with_reducible refine gate_callee (f:=14) rfl ?_);refine goesL_ (some 12) rfl rfl Try.func14 (by kernel_rfl) rfl #[.slice A0 l0.length c0,.agg #[.slice A1_0 l1_0.length c1_0,.int .i64 a1_1,.int .i64 a1_2,.int .i64 a1_3,.slice A1_4 l1_4.length c1_4]] rfl zz2 ?_;(with_reducible refine (spec_MemOk.calls k _ _ l0 _ _ l1_0 a1_1 a1_2 a1_3 _ _ l1_4 true _ ?side1 ?side2 ?side3 ?side4 ?side5 ?side6 A3.out).mono ?_);(case side1=>exact zz4);(case side2=>exact HC0.out);(case side3=>exact zz6);(case side4=>exact HC1_0.out);(case side5=>exact zz12);(case side6=>exact HC1_4.out);rintro e w10 ⟨rfl,hb⟩;refine ⟨_,rfl,?_⟩;replace HO306:=aK (Kd.R_below (by (with_reducible repeat (first|apply Kd.R_alloc|apply Kd.R_drewN|apply Kd.R_drew));exact HO306.out) hb);replace BK303:=aK (blk_below (g:=gb303) (o:= .cells #[.slice A1_0 l1_0.length c1_0,.int .i64 a1_1,.int .i64 a1_2,.int .i64 a1_3,.slice A1_4 l1_4.length c1_4] 27 (0,0)) zz40 hb);replace HB:=aK (below_step zz20 hb);(try clear hb);(try clear hb2);(try clear hk);(try clear hi);obtain ⟨hcz11_0,hcz11_1,hcz11_2,hcz11_3,hcz11_4,hfz11_0,hfz11_1,hfz11_2,hfz11_3,hfz11_4⟩:=cbf5 BK303)|((with_reducible refine gate_callee (f:=40) rfl ?_);refine goesL_ (some 18) rfl rfl Try.func40 (by kernel_rfl) rfl #[.slice A0 l0.length c0,.agg #[.slice A1_0 l1_0.length c1_0,.int .i64 a1_1,.int .i64 a1_2,.int .i64 a1_3,.slice A1_4 l1_4.length c1_4]] rfl zz2 ?_;(with_reducible refine (spec_l21Walk.calls k _ _ l0 _ _ l1_0 a1_1 a1_2 a1_3 _ _ l1_4 t308 t311 _ ?side1 ?side2 ?side3 ?side4 ?side5 ?side6 A5.out).mono ?_);(case side1=>exact zz4);(case side2=>exact HC0.out);(case side3=>exact zz6);(case side4=>exact HC1_0.out);(case side5=>exact zz12);(case side6=>exact HC1_4.out);rintro e w12 ⟨v309,rfl,ho0,hb⟩;refine ⟨_,rfl,?_⟩;have HO310:=aK (Kd.R_lower (Kd.R_new' ho0 (Kd.R_lt (by (with_reducible repeat (first|apply Kd.R_alloc|apply Kd.R_drewN|apply Kd.R_drew));exact HO306.out))) (below_size zz20));replace HO306:=aK (Kd.R_elder' (by (with_reducible repeat (first|apply Kd.R_alloc|apply Kd.R_drewN|apply Kd.R_drew));exact HO306.out) (Kd.R_base ho0) hb);replace BK303:=aK (blk_below (g:=gb303) (o:= .cells #[.slice A1_0 l1_0.length c1_0,.int .i64 a1_1,.int .i64 a1_2,.int .i64 a1_3,.slice A1_4 l1_4.length c1_4] 27 (0,0)) zz40 hb);replace HB:=aK (below_step zz20 hb);(try clear hb);(try clear hb2);(try clear hk);(try clear hi);(try clear ho0)))
  go_loopg [5,8] k (fun kq v5 v8 w'=> ∃(x5_1:List Int) (x8_1:Int),v8= .int .i64 x8_1∧Aside0 (spec_MemWalk.l0 kq x5_1 t308 x8_1=some r)∧Aside0 (kq≤k)∧Aside0 (Kd.R (Kd.int .i64) 3 w' w.heap.size (fun k_=>some k_≠(v309:Value).ownBlock) v5 x5_1)∧Aside0 (Kd.R (Kd.int .i64) 3 w' w.heap.size (fun k_=>some k_≠(v5:Value).ownBlock) v309 t308)∧Aside0 (w'.heap[gb303]? =some (.cells #[(.slice A1_0 l1_0.length c1_0),.int .i64 a1_1,.int .i64 a1_2,.int .i64 a1_3,(.slice A1_4 l1_4.length c1_4)] 27 (0,0)))∧Aside0 (Below w.heap.size w w'))
  case atStart=>exact ⟨(y304),(0),zz7,H',⟨Nat.le_refl _⟩,⟨by (with_reducible repeat (first|apply Kd.R_alloc|apply Kd.R_drewN|apply Kd.R_drew));exact Kd.R_mono HO306.out (fun _ hk=>hk.2)⟩,⟨by (with_reducible repeat (first|apply Kd.R_alloc|apply Kd.R_drewN|apply Kd.R_drew));exact Kd.R_mono HO310.out (fun _ hk=>hk.2)⟩,⟨by (with_reducible repeat (first|refine blk_drewN ?_ _|refine blk_drew ?_|refine blk_alloc ?_ _));exact BK303.out⟩,⟨by repeat (first|(with_reducible first|exact HB.out|apply below_alloc|apply pw_below_drewN|apply below_drew1|refine below_set ?_ GE303.out)|exact HB.out)⟩⟩
  case round =>
   clear H';(try clear c1);(try clear p2);(try clear c4);(try clear c6);(try clear hcz11_0);(try clear hcz11_1);(try clear hcz11_2);(try clear hcz11_3);(try clear hcz11_4);(try clear hcz9_0);(try clear hcz9_1);(try clear hcz9_2);(try clear hcz9_3);(try clear hcz9_4);(try clear hfz11_0);(try clear hfz11_1);(try clear hfz11_2);(try clear hfz11_3);(try clear hfz11_4);(try clear hfz9_0);(try clear hfz9_1);(try clear hfz9_2);(try clear hfz9_3);(try clear hfz9_4);obtain ⟨x5_1,x8_1,rfl,HA,HK1,HO_5,HO_6,BK303,HB⟩:=hrel
   cases gk with
   |zero=>exact absurd HA.out (by simp [spec_MemWalk.l0])
   | succ k1 =>
    have H:=HA.out;clear HA;simp only [spec_MemWalk.l0] at H;by_cases c13:x8_1<(t308.length:Int)
    ·rw [if_pos c13] at H
     have c13b0:decide (x8_1<(t308.length:Int))=true:=decide_eq_true c13
     clear c13;by_cases c14:0≤x8_1
     ·rw [if_pos c14] at H
      have c14b0:decide (0≤x8_1)=true:=decide_eq_true c14
      clear c14;by_cases c15:x5_1.length<17592186044416
      ·rw [if_pos c15] at H
       have LMc15:=aK c15;clear c15;obtain ⟨y313,hy313⟩: ∃y_:List Int,y_=(x5_1++[wrap64 ((rd t308 x8_1)+1)]):=⟨_,rfl⟩;replace H:(spec_MemWalk.l0 k1 y313 t308 (wrap64 (x8_1+1)))=some r:=by first|(rw [hy313];with_reducible exact H)|(have H2_:=(Option.bind_some _ _).symm.trans H;rw [hy313];with_reducible exact H2_)|(have H2_:=(Option.bind_some _ _).symm.trans H;with_reducible exact H2_)|with_reducible exact H|(rw [hy313];exact H)|exact H
       have Ny313:=aK hy313;clear hy313;have H':=aK H;clear H;obtain ⟨Ao16,co16,eo16⟩:=Kd.R_slice HO_6.out;subst eo16;have p312:0≤(x8_1:Int):=of_decide_eq_true zz3
       have q312:x8_1<(t308.length:Int):=of_decide_eq_true zz3
       obtain ⟨ad312,e312,hx312_0⟩:=Kd.at_int (Kd.R_reads' HO_6.out).2.2 x8_1 p312 q312
       cases e312
       replace p312:=eq_true p312;replace q312:=eq_true q312
       go_wp2_with (first|((with_reducible refine gate_builtin (b:= .append) (xs:= #[.tmp 27,.tmp 33]) rfl ?_);at_builtin;refine Kd.R_append (Kd.int .i64) (w0:=w) w.heap.size rfl (.tmp 27) (.tmp 33) 24 3 (.int .i64 0) 8 rfl Try.underlying24 info3 rfl (by decide) (by omega) u5 x5_1 (wrap64 ((rd t308 x8_1)+1)) [.int .i64 (wrap64 ((rd t308 x8_1)+1))] (fun k_=>some k_≠(.slice (some ad312) t308.length co16:Value).ownBlock) (fun _=>False) rfl rfl ?aP (fun _ hk=>hk.elim) ?aF ?aO ?aB ?aS ?aL ?_;(case aP=>exact rfl);(case aB=>exact zz20);(case aF=>exact (fun k_ hk=>Kd.fresh' (Kd.R_lt (by (with_reducible repeat (first|apply Kd.R_alloc|apply Kd.R_drewN|apply Kd.R_drew));exact HO_6.out)) k_ hk));(case aO=>exact (by (with_reducible repeat (first|apply Kd.R_alloc|apply Kd.R_drewN|apply Kd.R_drew));exact HO_5.out));(case aS=>exact (below_size zz20));(case aL=>have:=LMc15.out;omega);intro v314 w17 ho hb hg hat;rw [←Ny313.out] at ho;have n0_:=aK (Kd.R_after (ok:=(fun _=>True)) (by (with_reducible repeat (first|apply Kd.R_alloc|apply Kd.R_drewN|apply Kd.R_drew));exact Kd.R_mono HO_6.out (fun _ hk=>⟨trivial,hk⟩)) hg hat);have n1_:=aK (blk_grown (g:=gb303) (o:= .cells #[.slice A1_0 l1_0.length c1_0,.int .i64 a1_1,.int .i64 a1_2,.int .i64 a1_3,.slice A1_4 l1_4.length c1_4] 27 (0,0)) zz40 hg (Kd.R_ne HO_5.out BK303.out (by decide)));have n2_:=aK (hb);have n3_:=aK (ho);clear HO_6;clear BK303;clear HB;clear HO_5;have HO_6:=n0_;have BK303:=n1_;have HB:=n2_;have HO315:=n3_;clear n0_ n1_ n2_ n3_;clear ho hb hg hat))
       go_roundg k1
       case measure=>have:=HK1.out;omega
       case rel=>exact ⟨(y313),(wrap64 (x8_1+1)),zz7,H',⟨by have:=HK1.out;omega⟩,⟨by (with_reducible repeat (first|apply Kd.R_alloc|apply Kd.R_drewN|apply Kd.R_drew));exact HO315.out⟩,⟨by (with_reducible repeat (first|apply Kd.R_alloc|apply Kd.R_drewN|apply Kd.R_drew));exact Kd.R_mono HO_6.out (fun _ hk=>hk.2)⟩,⟨by (with_reducible repeat (first|refine blk_drewN ?_ _|refine blk_drew ?_|refine blk_alloc ?_ _));exact BK303.out⟩,⟨by repeat (first|(with_reducible first|exact HB.out|apply below_alloc|apply pw_below_drewN|apply below_drew1|refine below_set ?_ GE303.out)|exact HB.out)⟩⟩
      ·rw [if_neg c15] at H
       exact absurd H (by simp)
     ·rw [if_neg c14] at H
      exact absurd H (by simp)
    ·rw [if_neg c13] at H
     have c13b0:decide (x8_1<(t308.length:Int))=false:=decide_eq_false c13
     clear c13;obtain rfl:=Option.some.inj H;obtain ⟨Ao18,co18,eo18⟩:=Kd.R_slice HO_6.out;subst eo18;go_wp2;go_ret;exact ⟨_,by first|rfl|(simp [errW_none,errW_some]<;>rfl)|(simp [*,errW_none,errW_some]<;>rfl),by (with_reducible repeat (first|apply Kd.R_alloc|apply Kd.R_drewN|apply Kd.R_drew));exact Kd.R_mono HO_5.out (fun _ hk=>trivial),by repeat (first|(with_reducible first|exact HB.out|apply below_alloc|apply pw_below_drewN|apply below_drew1|refine below_set ?_ GE303.out)|exact HB.out)⟩
 ·replace c4 := Bool.eq_false_iff.mpr c4
  subst c4;rw [if_neg (show¬(false=true) by decide)] at H;obtain rfl:=Option.some.inj H;go_enter Try.func64,Try.ntmps64
  go_wp2_with (first|((with_reducible refine gate_dst (N:=3) rfl ?_);refine box_event ?hg (N:=3) ?hd (cs:= #[.slice A1_0 l1_0.length c1_0,.int .i64 a1_1,.int .i64 a1_2,.int .i64 a1_3,.slice A1_4 l1_4.length c1_4]) (t:=27) ?hr ?_;(case hd=>rfl);(case hg=>rfl);(case hr=>first|(go_simp;done)|(go_simp;rfl));intro gb303 hg w19 hbox hb;have BK303:=aK (hbox);have GW303:=aK ((by rw [hg];exact (below_size zz1):w.heap.size≤gb303));have GE303:=aK ((by rw [hg];exact (below_size zz1):w.heap.size≤gb303));replace HB:=aK (below_step zz1 hb);clear hb hbox hg)|((with_reducible refine gate_dst (N:=9) rfl ?_);refine Kd.R_lit (Kd.int .i64) _ 3 ?hg (N:=9) ?hd (xs:=([]:List Int)) (inner:=[]) (ok:=fun _=>True) (okp:=fun _=>True) ?hr ?hp (fun _ hk=>hk) trivial (Below.refl _ _) (Nat.le_refl _) (by simp) ?_;(case hd=>rfl);(case hg=>rfl);(case hr=>first|(go_simp;done)|(go_simp;rfl));(case hp=>exact (Reps.none _ _));intro v305 w20 ho21 hb hg_ hnew_;clear hg_ hnew_;(first|rw [←Ny304.out] at ho21|(simp only [Int.reduceToNat] at ho21;rw [←Ny304.out] at ho21));have HO306:=aK (Kd.R_lower ho21 (below_size zz20));replace BK303:=aK (blk_below (g:=gb303) (o:= .cells #[.slice A1_0 l1_0.length c1_0,.int .i64 a1_1,.int .i64 a1_2,.int .i64 a1_3,.slice A1_4 l1_4.length c1_4] 27 (0,0)) zz40 hb);replace HB:=aK (below_step zz20 hb);clear hb ho21;obtain ⟨hcz22_0,hcz22_1,hcz22_2,hcz22_3,hcz22_4,hfz22_0,hfz22_1,hfz22_2,hfz22_3,hfz22_4⟩:=cbf5 BK303)|((with_reducible refine gate_callee (f:=14) rfl ?_);refine goesL_ (some 12) rfl rfl Try.func14 (by kernel_rfl) rfl #[.slice A0 l0.length c0,.agg #[.slice A1_0 l1_0.length c1_0,.int .i64 a1_1,.int .i64 a1_2,.int .i64 a1_3,.slice A1_4 l1_4.length c1_4]] rfl zz2 ?_;(with_reducible refine (spec_MemOk.calls k _ _ l0 _ _ l1_0 a1_1 a1_2 a1_3 _ _ l1_4 false _ ?side1 ?side2 ?side3 ?side4 ?side5 ?side6 A3.out).mono ?_);(case side1=>exact zz4);(case side2=>exact HC0.out);(case side3=>exact zz6);(case side4=>exact HC1_0.out);(case side5=>exact zz12);(case side6=>exact HC1_4.out);rintro e w23 ⟨rfl,hb⟩;refine ⟨_,rfl,?_⟩;replace HO306:=aK (Kd.R_below (by (with_reducible repeat (first|apply Kd.R_alloc|apply Kd.R_drewN|apply Kd.R_drew));exact HO306.out) hb);replace BK303:=aK (blk_below (g:=gb303) (o:= .cells #[.slice A1_0 l1_0.length c1_0,.int .i64 a1_1,.int .i64 a1_2,.int .i64 a1_3,.slice A1_4 l1_4.length c1_4] 27 (0,0)) zz40 hb);replace HB:=aK (below_step zz20 hb);(try clear hb);(try clear hb2);(try clear hk);(try clear hi)))
  go_ret;exact ⟨_,by first|rfl|(simp [errW_none,errW_some]<;>rfl)|(simp [*,errW_none,errW_some]<;>rfl),by (with_reducible repeat (first|apply Kd.R_alloc|apply Kd.R_drewN|apply Kd.R_drew));exact HO306.out,by repeat (first|(with_reducible first|exact HB.out|apply below_alloc|apply pw_below_drewN|apply below_drew1|refine below_set ?_ GE303.out)|exact HB.out)⟩
end Go.Proofs.Ytnlieahdakafbaa.K
namespace Go.Proofs.Ytnlieahdakafbaa.K
open Go.RowKit Go.Proofs.YtnlieahdakafbaaW.PrintWords Go.Proofs.YtnlieahdakafbaaW.PrintLast Go.Proofs.YtnlieahdakafbaaW.PrintMore
attribute [local go_sem] max2_int min2_int max_two min_two max_three min_three max_four min_four
set_option linter.unusedVariables false
set_option linter.unusedSimpArgs false
open Go.Proofs.Ytnlieahdakafbaa.Pure
structure Dr (W:World) (ok:Nat→Prop) (A5:Option Addr) (c5:Nat) (A0:Option Addr) (c0:Nat) (A4:Option Addr) (c4:Nat) (cs:Cs) (ws:List Int) (cards:List Bool):Prop where
 h5:Kd.V k112 112 W 0 ok (.slice A5 cs.length c5) cs
 h0:Kd.V (Kd.int .i64) 3 W 0 ok (.slice A0 ws.length c0) ws
 h4:Kd.V Kd.bool 4 W 0 ok (.slice A4 cards.length c4) cards
 l5:1≤cs.length∧cs.length≤9∧∀x∈cs,x.f1.length≤3
 l0:1≤ws.length∧ws.length≤1000
 l4:cards.length≤1000
def DrawP5 (X:Value→Prop) (w:World) (e:Ending) (w':World):Prop:= ∃(A5:Option Addr) (c5:Nat) (A0:Option Addr) (c0:Nat) (A4:Option Addr) (c4:Nat) (cs:Cs) (ws:List Int) (y t o:Int) (cards:List Bool) (a b:Int) (x:Value),X x∧e= .returned (.tuple #[.slice A5 cs.length c5,.agg #[.slice A0 ws.length c0,.int .i64 y,.int .i64 t,.int .i64 o,.slice A4 cards.length c4],.int .i64 a,.int .i64 b,x])∧Dr w' (fun k=>w.heap.size≤k) A5 c5 A0 c0 A4 c4 cs ws cards∧Below w.heap.size w w'
section
variable {b0:Nat} {W w1:World} {A5 A0 A4:Option Addr} {c5 c0 c4:Nat} {v7:Value} {cs:Cs} {ws:List Int} {cards:List Bool} {rt:List Int} {ok ok' S:Nat→Prop}
theorem Dr.of (h:Dm W b0 ok (.slice A5 cs.length c5) (.slice A0 ws.length c0) (.slice A4 cards.length c4) v7 cs ws cards rt):Dr W ok A5 c5 A0 c0 A4 c4 cs ws cards:=⟨h.h5,h.h0,h.h4,h.l5,h.l0,h.l4⟩
theorem Dr.ch (h:Dr W ok A5 c5 A0 c0 A4 c4 cs ws cards) (hc:Ch S W w1) (hS: ∀k,ok k→¬S k):Dr w1 ok A5 c5 A0 c0 A4 c4 cs ws cards:=⟨Kd.V_kept h.h5 hc.kept hS,Kd.V_kept h.h0 hc.kept hS,Kd.V_kept h.h4 hc.kept hS,h.l5,h.l0,h.l4⟩
theorem Dr.below (h:Dr W ok A5 c5 A0 c0 A4 c4 cs ws cards) (hb:Below W.heap.size W w1):Dr w1 ok A5 c5 A0 c0 A4 c4 cs ws cards:=⟨Kd.V_below h.h5 hb,Kd.V_below h.h0 hb,Kd.V_below h.h4 hb,h.l5,h.l0,h.l4⟩
theorem Dr.mono (h:Dr W ok A5 c5 A0 c0 A4 c4 cs ws cards) (hS: ∀k,ok k→ok' k):Dr W ok' A5 c5 A0 c0 A4 c4 cs ws cards:=⟨Kd.V_mono h.h5 hS,Kd.V_mono h.h0 hS,Kd.V_mono h.h4 hS,h.l5,h.l0,h.l4⟩
theorem Dr.bound (h:Dr W ok A5 c5 A0 c0 A4 c4 cs ws cards):Dr W (fun k=>ok k∧k<W.heap.size) A5 c5 A0 c0 A4 c4 cs ws cards:=⟨Kd.V_bound h.h5,Kd.V_bound h.h0,Kd.V_bound h.h4,h.l5,h.l0,h.l4⟩
theorem Dr.C5 (h:Dr W ok A5 c5 A0 c0 A4 c4 cs ws cards):k112.C W A5 cs.length cs:=(Kd.V_reads' h.h5).2.2
theorem Dr.n5 (h:Dr W ok A5 c5 A0 c0 A4 c4 cs ws cards):cs.length≤c5:=(Kd.V_reads' h.h5).2.1
theorem Dr.C0 (h:Dr W ok A5 c5 A0 c0 A4 c4 cs ws cards):(Kd.int .i64).C W A0 ws.length ws:=(Kd.V_reads' h.h0).2.2
theorem Dr.n0 (h:Dr W ok A5 c5 A0 c0 A4 c4 cs ws cards):ws.length≤c0:=(Kd.V_reads' h.h0).2.1
theorem Dr.C4 (h:Dr W ok A5 c5 A0 c0 A4 c4 cs ws cards):Kd.bool.C W A4 cards.length cards:=(Kd.V_reads' h.h4).2.2
theorem Dr.n4 (h:Dr W ok A5 c5 A0 c0 A4 c4 cs ws cards):cards.length≤c4:=(Kd.V_reads' h.h4).2.1
end
end Go.Proofs.Ytnlieahdakafbaa.K
namespace Go.Proofs.Ytnlieahdakafbaa.K
open Go.RowKit Go.Proofs.YtnlieahdakafbaaW.PrintWords Go.Proofs.YtnlieahdakafbaaW.PrintLast Go.Proofs.YtnlieahdakafbaaW.PrintMore
attribute [local go_sem] max2_int min2_int max_two min_two max_three min_three max_four min_four
set_option linter.unusedVariables false
set_option linter.unusedSimpArgs false
set_option maxHeartbeats 4000000 in
set_option maxRecDepth 100000 in
theorem memory_thing.calls (g:Nat) (at_:Int) (w:World):
  Calls Try.prog 54 #[.pointer (some ⟨g,0,none⟩),.int .i64 at_] w fun e w'=>e= .returned (thV g at_)∧Below w.heap.size w w':=by
 unfold thV;go_enter Try.func54,Try.ntmps54;go_wp2;refine bodyPost_ret (results_cell_row rfl _ _ w.heap.size 86 #[.pointer (some ⟨g,0,none⟩),.int .i64 at_] (0,0) _ rfl (blk_new _ _) Try.underlying86 rfl (by kernel_rfl)) rfl ?_;exact ⟨rfl,below_alloc (Below.refl _ _) _⟩
def kndV (t:Int):Value:=
 if t=0 then .iface 132 (.agg #[])
 else if t=1 then .iface 127 (.agg #[])
 else if t=2 then .iface 133 (.agg #[])
 else if t=3 then .iface 129 (.agg #[.bool false])
 else if t=4 then .iface 129 (.agg #[.bool true])
 else .iface 131 (.agg #[.int .i64 (t - 8)])
def kv (t:Int):Prop:=(0≤t∧t≤4)∨8≤t
def kOk (n t:Int):Bool:=decide ((0≤t∧t≤4)∨(8≤t∧t<8+n))
def kndO (n t:Int):Value:=if kOk n t=true then kndV t else .nilIface
theorem kv_cases {t:Int} (h:kv t):t=0∨t=1∨t=2∨t=3∨t=4∨8≤t:=by unfold kv at h;omega
theorem kndV_cls {t:Int} (h:8≤t):kndV t= .iface 131 (.agg #[.int .i64 (t - 8)]):=by
  unfold kndV;rw [if_neg (by omega),if_neg (by omega),if_neg (by omega),if_neg (by omega),if_neg (by omega)]
theorem kind_int {s:Int} (hs:kv s) (W:World):(Instr.typeAssert (kndV s) 124 127 true).run Try.prog W= .ok (.tuple #[.agg #[],.bool (decide (s=1))]) W:=by
 rcases kv_cases hs with rfl|rfl|rfl|rfl|rfl|hs
 all_goals first
  |(rw [kndV_cls hs,decide_eq_false (by omega)];kernel_rfl)
  |kernel_rfl
theorem kind_arr {s:Int} (hs:kv s) (W:World):(Instr.typeAssert (kndV s) 124 129 true).run Try.prog W= .ok (.tuple #[.agg #[.bool (decide (s=4))],.bool (decide (s=3∨s=4))]) W:=by
 rcases kv_cases hs with rfl|rfl|rfl|rfl|rfl|hs
 all_goals first
  |(rw [kndV_cls hs,decide_eq_false (p:=s=4) (by omega),decide_eq_false (by omega)];kernel_rfl)
  |kernel_rfl
def clsOf (t:Int):Int:=if 8≤t then t - 8 else 0
theorem kind_class {s:Int} (hs:kv s) (W:World):(Instr.typeAssert (kndV s) 124 131 true).run Try.prog W= .ok (.tuple #[.agg #[.int .i64 (clsOf s)],.bool (decide (8≤s))]) W:=by
 rcases kv_cases hs with rfl|rfl|rfl|rfl|rfl|hs
 all_goals first
  |(rw [kndV_cls hs,decide_eq_true hs,show clsOf s=s - 8 from if_pos hs];kernel_rfl)
  |kernel_rfl
theorem nil_int (W:World):(Instr.typeAssert .nilIface 124 127 true).run Try.prog W= .ok (.tuple #[.agg #[],.bool false]) W:=by kernel_rfl
theorem nil_arr (W:World):(Instr.typeAssert .nilIface 124 129 true).run Try.prog W= .ok (.tuple #[.agg #[.bool false],.bool false]) W:=by kernel_rfl
theorem nil_class (W:World):(Instr.typeAssert .nilIface 124 131 true).run Try.prog W= .ok (.tuple #[.agg #[.int .i64 0],.bool false]) W:=by kernel_rfl
set_option maxHeartbeats 2000000 in
theorem impl_kindOf.calls (a0 a1:Int) (w:World) (h0:0≤a0) (h1:a0≤281474976710656):
  Calls Try.prog 111 #[.int .i64 a0,.int .i64 a1] w fun e w'=>e= .returned (kndO a0 a1)∧Drawn0 w w':=by
 by_cases c0:a1=0
 ·subst c0
  have HF:=aK (show kndO a0 0=kndV 0 from if_pos (by simp [kOk]));go_enter Try.func111,Try.ntmps111;go_wp2;go_ret;exact ⟨by rw [HF.out];rfl,Drawn0.refl _⟩
 by_cases c1:a1=1
 ·subst c1
  have HF:=aK (show kndO a0 1=kndV 1 from if_pos (by simp [kOk]));go_enter Try.func111,Try.ntmps111;go_wp2;go_ret;exact ⟨by rw [HF.out];rfl,Drawn0.refl _⟩
 by_cases c2:a1=2
 ·subst c2
  have HF:=aK (show kndO a0 2=kndV 2 from if_pos (by simp [kOk]));go_enter Try.func111,Try.ntmps111;go_wp2;go_ret;exact ⟨by rw [HF.out];rfl,Drawn0.refl _⟩
 by_cases c3:a1=3
 ·subst c3
  have HF:=aK (show kndO a0 3=kndV 3 from if_pos (by simp [kOk]));go_enter Try.func111,Try.ntmps111;go_wp2;go_ret;exact ⟨by rw [HF.out];rfl,Drawn0.refl _⟩
 by_cases c4:a1=4
 ·subst c4
  have HF:=aK (show kndO a0 4=kndV 4 from if_pos (by simp [kOk]));go_enter Try.func111,Try.ntmps111;go_wp2;go_ret;exact ⟨by rw [HF.out];rfl,Drawn0.refl _⟩
 have d0:(a1==0)=false:=beq_eq_false_iff_ne.2 c0
 have d1:(a1==1)=false:=beq_eq_false_iff_ne.2 c1
 have d2:(a1==2)=false:=beq_eq_false_iff_ne.2 c2
 have d3:(a1==3)=false:=beq_eq_false_iff_ne.2 c3
 have d4:(a1==4)=false:=beq_eq_false_iff_ne.2 c4
 by_cases c5:8≤a1
 ·by_cases c6 : a1 < 8 + a0
  ·have HF := aK (show kndO a0 a1 = .iface 131 (.agg #[.int .i64 (a1 - 8)]) from (if_pos (by simp [kOk]; omega)).trans (kndV_cls c5))
   have d5:decide (8≤a1)=true:=decide_eq_true c5
   have d6:decide (a1<8+a0)=true:=decide_eq_true c6
   clear c0 c1 c2 c3 c4;go_enter Try.func111,Try.ntmps111;go_wp2;go_ret;exact ⟨by rw [HF.out];rfl,Drawn0.refl _⟩
  ·have HF := aK (show kndO a0 a1 = .nilIface from if_neg (by simp [kOk]; omega))
   have d5:decide (8≤a1)=true:=decide_eq_true c5
   have d6:decide (a1<8+a0)=false:=decide_eq_false c6
   clear c0 c1 c2 c3 c4;go_enter Try.func111,Try.ntmps111;go_wp2;go_ret;exact ⟨by rw [HF.out];rfl,Drawn0.refl _⟩
 ·have HF := aK (show kndO a0 a1 = .nilIface from if_neg (by simp [kOk]; omega))
  have d5:decide (8≤a1)=false:=decide_eq_false c5
  clear c0 c1 c2 c3 c4;go_enter Try.func111,Try.ntmps111;go_wp2;go_ret;exact ⟨by rw [HF.out];rfl,Drawn0.refl _⟩
def kOkF.f (n t:Int):Option Bool:=if 0≤n∧n≤281474976710656 then some (kOk n t) else none
def impl_fieldType.f (a0 a1:Int):Option Bool:=if 0≤a0∧a0≤281474976710656 then some (kOk a0 a1&&decide (a1=1∨a1=3∨a1=4∨8≤a1)) else none
set_option maxHeartbeats 2000000 in
theorem impl_fieldType.calls (a0:Int) (a1:Int) (r:Bool) (w:World) (h:impl_fieldType.f a0 a1=some r):
  Calls Try.prog 98 #[.int .i64 a0,.int .i64 a1] w fun e w'=>e= .returned (.bool r)∧Drawn0 w w':=by
 unfold impl_fieldType.f at h
 split at h
 case isFalse=>simp at h
 case isTrue hb=>
  obtain ⟨h0,h1⟩:=hb;have HR:=aK (Option.some.inj h);clear h;by_cases hk:kOk a0 a1=true
  ·have hv : kv a1 := by simp [kOk] at hk; unfold kv; omega
   have HO:=aK (show kndO a0 a1=kndV a1 from if_pos hk);have t1:=kind_int hv;have t2:=kind_arr hv;have t3:=kind_class hv;have HK:=aK hk;clear hk hv;go_enter Try.func98,Try.ntmps98
   go_wp2_with (go_at_call 111;refine (impl_kindOf.calls a0 a1 _ h0 h1).mono ?_;rintro e w' ⟨rfl,⟨n,rfl⟩⟩;rw [HO.out])
   ·go_ret
    exact ⟨by show Ending.returned (.bool true)=_;rw [←HR.out,HK.out,decide_eq_true (by omega)];rfl,Drawn0.step (Drawn0.refl _) _⟩
   ·go_ret
    exact ⟨by show Ending.returned (.bool false)=_;rw [←HR.out,HK.out,decide_eq_false (by omega)];rfl,Drawn0.step (Drawn0.refl _) _⟩
  ·have HO := aK (show kndO a0 a1 = .nilIface from if_neg hk)
   have HK:=aK (Bool.not_eq_true _ |>.mp hk);have t1:=nil_int;have t2:=nil_arr;have t3:=nil_class;clear hk;go_enter Try.func98,Try.ntmps98
   go_wp2_with (go_at_call 111;refine (impl_kindOf.calls a0 a1 _ h0 h1).mono ?_;rintro e w' ⟨rfl,⟨n,rfl⟩⟩;rw [HO.out])
   go_ret;exact ⟨by show Ending.returned (.bool false)=_;rw [←HR.out,HK.out];rfl,Drawn0.step (Drawn0.refl _) _⟩
mutual
def impl_ClassesOk.j0:Nat→List (S112)→Bool→Option (Bool)
 |0,_,_=>none
 |k+1,x0,x15=>if x15=true then (some false) else (if 0<(x0.length:Int) then (if ((rd_T112 x0 0).f0)=(-1) then (impl_ClassesOk.j1 k x0 ((((rd_T112 x0 0).f1).length:Int) !=0)) else (impl_ClassesOk.j1 k x0 true)) else (none))
def impl_ClassesOk.j1:Nat→List (S112)→Bool→Option (Bool)
 |0,_,_=>none
 |k+1,x0,x28=>if x28=true then (some false) else (if 1<(x0.length:Int) then (if ((rd_T112 x0 1).f0)=0 then (if (((rd_T112 x0 1).f1).length:Int)=1 then (if 0<(((rd_T112 x0 1).f1).length:Int) then (impl_ClassesOk.j2 k x0 ((rd ((rd_T112 x0 1).f1) 0) !=1)) else (none)) else (impl_ClassesOk.j2 k x0 true)) else (impl_ClassesOk.j2 k x0 true)) else (none))
def impl_ClassesOk.j2:Nat→List (S112)→Bool→Option (Bool)
 |0,_,_=>none
 |k+1,x0,x47=>if x47=true then (some false) else (impl_ClassesOk.l0 k x0 x0 (x0.length:Int) 0)
def impl_ClassesOk.l0:Nat→List (S112)→List (S112)→Int→Int→Option (Bool)
 |0,_,_,_,_=>none
 |k+1,x0,x48,x49,x50=>if x50<x49 then (if 0≤x50 then (if x50<(x48.length:Int) then (if x50>1 then (if ((rd_T112 x48 x50).f0)<0 then (impl_ClassesOk.j4 k x0 x48 x49 x50 true ((rd_T112 x48 x50).f0) ((rd_T112 x48 x50).f1)) else (impl_ClassesOk.j4 k x0 x48 x49 x50 (decide (((rd_T112 x48 x50).f0)≥x50)) ((rd_T112 x48 x50).f0) ((rd_T112 x48 x50).f1))) else (impl_ClassesOk.j4 k x0 x48 x49 x50 false ((rd_T112 x48 x50).f0) ((rd_T112 x48 x50).f1))) else (none)) else (none)) else (some true)
def impl_ClassesOk.j4:Nat→List (S112)→List (S112)→Int→Int→Bool→Int→List Int→Option (Bool)
 |0,_,_,_,_,_,_,_=>none
 |k+1,x0,x48,x49,x50,x67,x323000,x323001=>if x67=true then (some false) else (if (x323001.length:Int)>2 then (some false) else (impl_ClassesOk.l1 k x0 x48 x49 x50 x323001 (x323001.length:Int) 0))
def impl_ClassesOk.l1:Nat→List (S112)→List (S112)→Int→Int→List Int→Int→Int→Option (Bool)
 |0,_,_,_,_,_,_,_=>none
 |k+1,x0,x48,x49,x50,x73,x74,x75=>if x75<x74 then (if 0≤x75 then (if x75<(x73.length:Int) then ((impl_fieldType.f (x0.length:Int) (rd x73 x75)).bind fun t324=>(if t324=true then (impl_ClassesOk.l1 k x0 x48 x49 x50 x73 x74 (wrap64 (x75+1))) else (some false))) else (none)) else (none)) else (impl_ClassesOk.l0 k x0 x48 x49 (wrap64 (x50+1)))
end
def impl_ClassesOk.f (k:Nat) (l0:List (S112)):Option (Bool):=if (l0.length:Int)<2 then (impl_ClassesOk.j0 k l0 true) else (impl_ClassesOk.j0 k l0 (decide ((l0.length:Int)>5)))
set_option maxHeartbeats 8000000 in
set_option maxRecDepth 100000 in
theorem impl_ClassesOk.calls (k : Nat) (A0 : Option Addr) (c0 : Nat) (l0 : List (S112)) (r : Bool) (w : World) (hr0 : Kd.C k112 w A0 l0.length l0) (hc0 : l0.length ≤ c0) (h : impl_ClassesOk.f k l0 = some r) :
  Calls Try.prog 65 #[.slice A0 l0.length c0] w fun e w'=>e= .returned (.bool r)∧Below w.heap.size w w':=by
 have hu112:=Try.underlying112;have HR0:=aK hr0;have HC0:=aK hc0;clear hr0 hc0;have HB:=aK (Below.refl w.heap.size w);have H:(if (l0.length:Int)<2 then (impl_ClassesOk.j0 k l0 true) else (impl_ClassesOk.j0 k l0 (decide ((l0.length:Int)>5))))=some r:=h
 clear h;have HC2:=aK H;clear H;go_enter Try.func65,Try.ntmps65
 go_upto_region 1 with (fail)
 go_cut [15] (fun v15 wc=> ∃(kq:Nat) (x15_1:Bool),v15= .bool x15_1∧Aside0 (impl_ClassesOk.j0 kq l0 x15_1=some r)∧Aside0 (kq≤k)∧Aside0 (Below w.heap.size w wc))
 case first=>
  have H:=HC2.out;clear HC2;by_cases c3:(l0.length:Int)<2
  ·rw [if_pos c3] at H
   have c3b0:decide ((l0.length:Int)<2)=true:=decide_eq_true c3
   have c3b1:decide (l0.length<2)=true:=decide_eq_true (by omega)
   clear c3
   (first|rw [c3b0]|(simp only [i64_w,i32_w];rw [c3b0])|skip)
   have H':=aK H;clear H;go_wp2;go_meet
   case rel=>exact ⟨_,(true),zz7,H',⟨by first|omega|exact Nat.le_refl _⟩,⟨by repeat (first|(with_reducible first|exact HB.out|apply below_alloc|apply pw_below_drewN|apply below_drew1)|exact HB.out)⟩⟩
  ·rw [if_neg c3] at H
   have c3b0:decide ((l0.length:Int)<2)=false:=decide_eq_false c3
   have c3b1:decide (l0.length<2)=false:=decide_eq_false (by omega)
   clear c3
   (first|rw [c3b0]|(simp only [i64_w,i32_w];rw [c3b0])|skip)
   have H':=aK H;clear H;go_wp2;go_meet
   case rel=>exact ⟨_,(decide ((l0.length:Int)>5)),zz7,H',⟨by first|omega|exact Nat.le_refl _⟩,⟨by repeat (first|(with_reducible first|exact HB.out|apply below_alloc|apply pw_below_drewN|apply below_drew1)|exact HB.out)⟩⟩
 case rest =>
  clear HC2;(try clear p2);(try clear c3);(try clear c3b0);(try clear c3b1);obtain ⟨kq,x15_1,rfl,HA,HJ1,HB⟩:=hcut
  cases kq with
  |zero=>exact absurd HA.out (by simp [impl_ClassesOk.j0])
  | succ kj1 =>
   have H:=HA.out;clear HA;simp only [impl_ClassesOk.j0] at H;by_cases c4:x15_1=true
   ·subst c4
    rw [if_pos rfl] at H;obtain rfl:=Option.some.inj H;go_wp2;go_ret;exact ⟨zz8,zz1⟩
   ·replace c4 := Bool.eq_false_iff.mpr c4
    subst c4;rw [if_neg (show¬(false=true) by decide)] at H;have HC5:=aK H;clear H
    go_upto_region 3 with (fail)
    go_cut [28] (fun v28 wc=> ∃(kq:Nat) (x28_4:Bool),v28= .bool x28_4∧Aside0 (impl_ClassesOk.j1 kq l0 x28_4=some r)∧Aside0 (kq≤kj1)∧Aside0 (Below w.heap.size w wc))
    case first=>
     have H:=HC5.out;clear HC5;by_cases c6:0<(l0.length:Int)
     ·rw [if_pos c6] at H
      have c6b0:decide (0<(l0.length:Int))=true:=decide_eq_true c6
      have c6b1:decide (0<l0.length)=true:=decide_eq_true (by omega)
      clear c6
      (first|rw [c6b0]|(simp only [i64_w,i32_w];rw [c6b0])|skip)
      by_cases c7:((rd_T112 l0 0).f0)=(-1)
      ·rw [if_pos c7] at H
       have c7b0:(((rd_T112 l0 0).f0)==(-1))=true:=beq_iff_eq.mpr c7
       have c7b1:(((rd_T112 l0 0).f0) !=(-1))=false:=bne_eq_false_iff_eq.mpr c7
       clear c7;have H':=aK H;clear H;have p316:0≤(0:Int):=(by omega)
       have q316:0<(l0.length:Int):=of_decide_eq_true zz3
       obtain ⟨ad316,A316_1,c316_1,e316,hx316_0,hx316_1,hl316_1,hi316_1⟩:=at_T112 HR0.out 0 p316 q316
       cases e316
       have qi316:(0<l0.length)=True:=eq_true (by omega)
       (try rw [show ((0:Int)).toNat=0 from rfl] at hx316_0)
       (try rw [show 0*2=0 from rfl] at hx316_0)
       (try rw [Addr.add_zero'] at hx316_0)
       (try rw [show ((0:Int)).toNat=0 from rfl] at hx316_1)
       (try rw [show 0*2=0 from rfl] at hx316_1)
       (try rw [Addr.add_zero'] at hx316_1)
       replace hx316_0:=(HB.out.cell (World.block_lt_of_cell? w _ hx316_0)).trans hx316_0;replace hx316_1:=(HB.out.cell (World.block_lt_of_cell? w _ hx316_1)).trans hx316_1;have HR316_1:=aK hi316_1;have HC316_1:=aK hl316_1;clear hi316_1 hl316_1;replace p316:=eq_true p316;replace q316:=eq_true q316;have p317:0≤(0:Int):=(by omega)
       have q317:0<(l0.length:Int):=of_decide_eq_true zz3
       obtain ⟨ad317,A317_1,c317_1,e317,hx317_0,hx317_1,hl317_1,hi317_1⟩:=at_T112 HR0.out 0 p317 q317;obtain rfl:ad316=ad317:=(by injection e317);have qi317:(0<l0.length)=True:=eq_true (by omega)
       (try rw [show ((0:Int)).toNat=0 from rfl] at hx317_0)
       (try rw [show 0*2=0 from rfl] at hx317_0)
       (try rw [Addr.add_zero'] at hx317_0)
       (try rw [show ((0:Int)).toNat=0 from rfl] at hx317_1)
       (try rw [show 0*2=0 from rfl] at hx317_1)
       (try rw [Addr.add_zero'] at hx317_1)
       replace hx317_0:=(HB.out.cell (World.block_lt_of_cell? w _ hx317_0)).trans hx317_0;replace hx317_1:=(HB.out.cell (World.block_lt_of_cell? w _ hx317_1)).trans hx317_1;have HR317_1:=aK hi317_1;have HC317_1:=aK hl317_1;clear hi317_1 hl317_1;replace p317:=eq_true p317;replace q317:=eq_true q317;have ea_:=Option.some.inj (hx316_1.symm.trans hx317_1);injection ea_ with ea_ en_ ec_;subst ea_;subst ec_;clear en_;go_wp2;go_meet
       case rel=>exact ⟨_,(((((rd_T112 l0 0).f1).length:Int) !=0)),zz7,H',⟨by have:=HJ1.out;first|omega|exact Nat.le_refl _⟩,⟨by repeat (first|(with_reducible first|exact HB.out|apply below_alloc|apply pw_below_drewN|apply below_drew1)|exact HB.out)⟩⟩
      ·rw [if_neg c7] at H
       have c7b0:(((rd_T112 l0 0).f0)==(-1))=false:=beq_eq_false_iff_ne.mpr c7
       have c7b1:(((rd_T112 l0 0).f0) !=(-1))=true:=bne_iff_ne.mpr c7
       have H':=aK H;clear H;have p316:0≤(0:Int):=(by omega)
       have q316:0<(l0.length:Int):=of_decide_eq_true zz3
       obtain ⟨ad316,A316_1,c316_1,e316,hx316_0,hx316_1,hl316_1,hi316_1⟩:=at_T112 HR0.out 0 p316 q316
       cases e316
       have qi316:(0<l0.length)=True:=eq_true (by omega)
       (try rw [show ((0:Int)).toNat=0 from rfl] at hx316_0)
       (try rw [show 0*2=0 from rfl] at hx316_0)
       (try rw [Addr.add_zero'] at hx316_0)
       (try rw [show ((0:Int)).toNat=0 from rfl] at hx316_1)
       (try rw [show 0*2=0 from rfl] at hx316_1)
       (try rw [Addr.add_zero'] at hx316_1)
       replace hx316_0:=(HB.out.cell (World.block_lt_of_cell? w _ hx316_0)).trans hx316_0;replace hx316_1:=(HB.out.cell (World.block_lt_of_cell? w _ hx316_1)).trans hx316_1;have HR316_1:=aK hi316_1;have HC316_1:=aK hl316_1;clear hi316_1 hl316_1;replace p316:=eq_true p316;replace q316:=eq_true q316;go_wp2;go_meet
       case rel=>exact ⟨_,(true),zz7,H',⟨by have:=HJ1.out;first|omega|exact Nat.le_refl _⟩,⟨by repeat (first|(with_reducible first|exact HB.out|apply below_alloc|apply pw_below_drewN|apply below_drew1)|exact HB.out)⟩⟩
     ·rw [if_neg c6] at H
      exact absurd H (by simp)
    case rest =>
     clear HC5;(try clear p2);(try clear c3);(try clear c3b0);(try clear c3b1);(try clear p3);(try clear q3);(try clear hx3);(try clear qi3);(try clear c4);(try clear c6);(try clear c6b0);(try clear c6b1);(try clear c7);(try clear c7b0);(try clear c7b1);(try clear hx316_0);(try clear hx316_1);(try clear hx317_0);(try clear hx317_1);(try clear p2);(try clear p316);(try clear p317);(try clear q316);(try clear q317);obtain ⟨kq,x28_4,rfl,HA,HJ4,HB⟩:=hcut
     cases kq with
     |zero=>exact absurd HA.out (by simp [impl_ClassesOk.j1])
     | succ kj4 =>
      have H:=HA.out;clear HA;simp only [impl_ClassesOk.j1] at H;by_cases c8:x28_4=true
      ·subst c8
       rw [if_pos rfl] at H;obtain rfl:=Option.some.inj H;go_wp2;go_ret;exact ⟨zz8,zz1⟩
      ·replace c8 := Bool.eq_false_iff.mpr c8
       subst c8;rw [if_neg (show¬(false=true) by decide)] at H;by_cases c9:1<(l0.length:Int)
       ·rw [if_pos c9] at H
        have c9b0:decide (1<(l0.length:Int))=true:=decide_eq_true c9
        have c9b1:decide (1<l0.length)=true:=decide_eq_true (by omega)
        clear c9;have HC10:=aK H;clear H;have p318:0≤(1:Int):=(by omega)
        have q318:1<(l0.length:Int):=of_decide_eq_true zz3
        obtain ⟨ad318,A318_1,c318_1,e318,hx318_0,hx318_1,hl318_1,hi318_1⟩:=at_T112 HR0.out 1 p318 q318
        cases e318
        (try simp only [show (1:Int).toNat=1 from rfl,Nat.reduceMul,Nat.reduceEqDiff,Go.Addr.add,↓reduceIte] at hx318_0)
        (try simp only [show (1:Int).toNat=1 from rfl,Nat.reduceMul,Nat.reduceEqDiff,Go.Addr.add,↓reduceIte] at hx318_1)
        have qi318:(1<l0.length)=True:=eq_true (by omega)
        (try rw [show ((1:Int)).toNat=1 from rfl] at hx318_0)
        (try rw [show 1*2=2 from rfl] at hx318_0)
        (try rw [show ((1:Int)).toNat=1 from rfl] at hx318_1)
        (try rw [show 1*2=2 from rfl] at hx318_1)
        replace hx318_0:=(HB.out.cell (World.block_lt_of_cell? w _ hx318_0)).trans hx318_0;replace hx318_1:=(HB.out.cell (World.block_lt_of_cell? w _ hx318_1)).trans hx318_1;have HR318_1:=aK hi318_1;have HC318_1:=aK hl318_1;clear hi318_1 hl318_1;replace p318:=eq_true p318;replace q318:=eq_true q318
        go_upto_region 6 with (first|((with_reducible refine gate_dst (N:=3) rfl ?_);(try (refine gate_guard (by rfl) ?_;dsimp only));refine box_event ?hg (N:=3) ?hd (cs:= #[.int .i64 0,.slice none 0 0]) (t:=112) ?hr ?_;(case hd=>rfl);(case hg=>rfl);(case hr=>first|(go_simp;done)|(go_simp;rfl));intro gb319 hg w11 hbox hb;have BK319:=aK (hbox);have GW319:=aK ((by rw [hg];exact (below_size zz1):w.heap.size≤gb319));have GE319:=aK ((by rw [hg];exact (below_size zz1):w.heap.size≤gb319));replace HB:=aK (below_step zz1 hb);clear hb hbox hg;obtain ⟨hcz12_0,hcz12_1,hfz12_0,hfz12_1⟩:=cbf2 BK319))
        (try simp only [Act.put,List.setIfInBounds_toArray,List.set_cons_zero,List.set_cons_succ])
        go_cut [47] (fun v47 wc=> ∃(kq:Nat) (x47_9:Bool),v47= .bool x47_9∧Aside0 (impl_ClassesOk.j2 kq l0 x47_9=some r)∧Aside0 (kq≤kj4)∧Aside0 (wc.heap[gb319]? =some (.cells #[.int .i64 ((rd_T112 l0 1).f0),(.slice A318_1 ((rd_T112 l0 1).f1).length c318_1)] 112 (0,0)))∧Aside0 (Below w.heap.size w wc))
        case first=>
         have H:=HC10.out;clear HC10;by_cases c13:((rd_T112 l0 1).f0)=0
         ·rw [if_pos c13] at H
          have c13b0:(((rd_T112 l0 1).f0)==0)=true:=beq_iff_eq.mpr c13
          have c13b1:(((rd_T112 l0 1).f0) !=0)=false:=bne_eq_false_iff_eq.mpr c13
          clear c13
          (first|rw [c13b0]|(simp only [i64_w,i32_w];rw [c13b0])|skip)
          by_cases c14:(((rd_T112 l0 1).f1).length:Int)=1
          ·rw [if_pos c14] at H
           have c14b0:((((rd_T112 l0 1).f1).length:Int)==1)=true:=beq_iff_eq.mpr c14
           have c14b1:((((rd_T112 l0 1).f1).length:Int) !=1)=false:=bne_eq_false_iff_eq.mpr c14
           clear c14;by_cases c15:0<(((rd_T112 l0 1).f1).length:Int)
           ·rw [if_pos c15] at H
            have c15b0:decide (0<(((rd_T112 l0 1).f1).length:Int))=true:=decide_eq_true c15
            have c15b1:decide (0<((rd_T112 l0 1).f1).length)=true:=decide_eq_true (by omega)
            clear c15;have H':=aK H;clear H;obtain ⟨hcz16_0,hcz16_1,hfz16_0,hfz16_1⟩:=cbf2 BK319;have p320:0≤(0:Int):=(by omega)
            have q320:0<(((rd_T112 l0 1).f1).length:Int):=of_decide_eq_true zz3
            obtain ⟨ad320,e320,hx320_0⟩:=Kd.at_int HR318_1.out 0 p320 q320
            cases e320
            have qi320:(0<((rd_T112 l0 1).f1).length)=True:=eq_true (by omega)
            (try rw [show ((0:Int)).toNat=0 from rfl] at hx320_0)
            (try rw [Addr.add_zero'] at hx320_0)
            have hn320_0:ad320.block≠gb319:=Nat.ne_of_lt (Nat.lt_of_lt_of_le (by have:=World.block_lt_of_cell? _ _ hx320_0;first|rwa [add_block] at this|exact this) GW319.out)
            have hn320_1:ad320.block≠gb319:=Nat.ne_of_lt (Nat.lt_of_lt_of_le (by have:=World.block_lt_of_cell? _ _ hx320_0;first|rwa [add_block] at this|exact this) GW319.out)
            replace hx320_0:=(HB.out.cell (World.block_lt_of_cell? w _ hx320_0)).trans hx320_0;replace hx320_0:=(cell_far (p:=⟨gb319,0,none⟩) (by first|(rw [add_block];exact hn320_0)|(show (Addr.add _ _).block≠_;rw [add_block];exact hn320_0)|exact hn320_0) (.int .i64 ((rd_T112 l0 1).f0))).trans hx320_0;replace hx320_0:=(cell_far (p:=⟨gb319,1,none⟩) (by first|(rw [add_block];exact hn320_1)|(show (Addr.add _ _).block≠_;rw [add_block];exact hn320_1)|exact hn320_1) (.slice (some ad320) ((rd_T112 l0 1).f1).length c318_1)).trans hx320_0;clear hn320_0;clear hn320_1;replace p320:=eq_true p320;replace q320:=eq_true q320;go_wp2;go_meet
            case rel=>exact ⟨_,(((rd ((rd_T112 l0 1).f1) 0) !=1)),zz7,H',⟨by have:=HJ1.out;have:=HJ4.out;first|omega|exact Nat.le_refl _⟩,⟨by (with_reducible repeat (first|refine blk_drewN ?_ _|refine blk_drew ?_|refine blk_alloc ?_ _));refine blk_put (cs:= #[.int .i64 ((rd_T112 l0 1).f0),.slice none 0 0]) ?_ 1 _ rfl;(with_reducible repeat (first|refine blk_drewN ?_ _|refine blk_drew ?_|refine blk_alloc ?_ _));refine blk_put (cs:= #[.int .i64 0,.slice none 0 0]) ?_ 0 _ rfl;(with_reducible repeat (first|refine blk_drewN ?_ _|refine blk_drew ?_|refine blk_alloc ?_ _));exact BK319.out⟩,⟨by repeat (first|(with_reducible first|exact HB.out|apply below_alloc|apply pw_below_drewN|apply below_drew1|refine below_set ?_ GE319.out)|exact HB.out)⟩⟩
           ·rw [if_neg c15] at H
            exact absurd H (by simp)
          ·rw [if_neg c14] at H
           have c14b0:((((rd_T112 l0 1).f1).length:Int)==1)=false:=beq_eq_false_iff_ne.mpr c14
           have c14b1:((((rd_T112 l0 1).f1).length:Int) !=1)=true:=bne_iff_ne.mpr c14
           have H':=aK H;clear H;obtain ⟨hcz17_0,hcz17_1,hfz17_0,hfz17_1⟩:=cbf2 BK319;go_wp2;go_meet
           case rel=>exact ⟨_,(true),zz7,H',⟨by have:=HJ1.out;have:=HJ4.out;first|omega|exact Nat.le_refl _⟩,⟨by (with_reducible repeat (first|refine blk_drewN ?_ _|refine blk_drew ?_|refine blk_alloc ?_ _));refine blk_put (cs:= #[.int .i64 ((rd_T112 l0 1).f0),.slice none 0 0]) ?_ 1 _ rfl;(with_reducible repeat (first|refine blk_drewN ?_ _|refine blk_drew ?_|refine blk_alloc ?_ _));refine blk_put (cs:= #[.int .i64 0,.slice none 0 0]) ?_ 0 _ rfl;(with_reducible repeat (first|refine blk_drewN ?_ _|refine blk_drew ?_|refine blk_alloc ?_ _));exact BK319.out⟩,⟨by repeat (first|(with_reducible first|exact HB.out|apply below_alloc|apply pw_below_drewN|apply below_drew1|refine below_set ?_ GE319.out)|exact HB.out)⟩⟩
         ·rw [if_neg c13] at H
          have c13b0:(((rd_T112 l0 1).f0)==0)=false:=beq_eq_false_iff_ne.mpr c13
          have c13b1:(((rd_T112 l0 1).f0) !=0)=true:=bne_iff_ne.mpr c13
          (first|rw [c13b0]|(simp only [i64_w,i32_w];rw [c13b0])|skip)
          have H':=aK H;clear H;obtain ⟨hcz18_0,hcz18_1,hfz18_0,hfz18_1⟩:=cbf2 BK319;go_wp2;go_meet
          case rel=>exact ⟨_,(true),zz7,H',⟨by have:=HJ1.out;have:=HJ4.out;first|omega|exact Nat.le_refl _⟩,⟨by (with_reducible repeat (first|refine blk_drewN ?_ _|refine blk_drew ?_|refine blk_alloc ?_ _));refine blk_put (cs:= #[.int .i64 ((rd_T112 l0 1).f0),.slice none 0 0]) ?_ 1 _ rfl;(with_reducible repeat (first|refine blk_drewN ?_ _|refine blk_drew ?_|refine blk_alloc ?_ _));refine blk_put (cs:= #[.int .i64 0,.slice none 0 0]) ?_ 0 _ rfl;(with_reducible repeat (first|refine blk_drewN ?_ _|refine blk_drew ?_|refine blk_alloc ?_ _));exact BK319.out⟩,⟨by repeat (first|(with_reducible first|exact HB.out|apply below_alloc|apply pw_below_drewN|apply below_drew1|refine below_set ?_ GE319.out)|exact HB.out)⟩⟩
        case rest =>
         clear HC10;(try clear c1);(try clear p2);(try clear c3);(try clear c3b0);(try clear c3b1);(try clear p3);(try clear q3);(try clear hx3);(try clear qi3);(try clear c4);(try clear c6);(try clear c6b0);(try clear c6b1);(try clear c7);(try clear c7b0);(try clear c7b1);(try clear c8);(try clear c9);(try clear c9b0);(try clear c9b1);(try clear c13);(try clear c13b0);(try clear c13b1);(try clear c14);(try clear c14b0);(try clear c14b1);(try clear c15);(try clear c15b0);(try clear c15b1);(try clear hcz12_0);(try clear hcz12_1);(try clear hcz16_0);(try clear hcz16_1);(try clear hcz17_0);(try clear hcz17_1);(try clear hcz18_0);(try clear hcz18_1);(try clear hfz12_0);(try clear hfz12_1);(try clear hfz16_0);(try clear hfz16_1);(try clear hfz17_0);(try clear hfz17_1);(try clear hfz18_0);(try clear hfz18_1);(try clear hx316_0);(try clear hx316_1);(try clear hx317_0);(try clear hx317_1);(try clear hx318_0);(try clear hx318_1);(try clear hx320_0);(try clear p2);(try clear p3);(try clear p316);(try clear p317);(try clear p318);(try clear p320);(try clear q3);(try clear q316);(try clear q317);(try clear q318);(try clear q320);obtain ⟨kq,x47_9,rfl,HA,HJ9,BK319,HB⟩:=hcut
         cases kq with
         |zero=>exact absurd HA.out (by simp [impl_ClassesOk.j2])
         | succ kj9 =>
          have H:=HA.out;clear HA;simp only [impl_ClassesOk.j2] at H;by_cases c19:x47_9=true
          ·subst c19
           rw [if_pos rfl] at H;obtain rfl:=Option.some.inj H;go_wp2;go_ret;exact ⟨zz8,zz36⟩
          ·replace c19 := Bool.eq_false_iff.mpr c19
           subst c19;rw [if_neg (show¬(false=true) by decide)] at H;have H':=aK H;clear H;go_wp2
           go_loopg [50] kj9 (fun kq v50 w'=> ∃(x50_4:Int),v50= .int .i64 x50_4∧Aside0 (impl_ClassesOk.l0 kq l0 l0 (l0.length:Int) x50_4=some r)∧Aside0 (kq≤kj9)∧Aside0 (w'.heap[gb319]? =some (.cells #[.int .i64 ((rd_T112 l0 1).f0),(.slice A318_1 ((rd_T112 l0 1).f1).length c318_1)] 112 (0,0)))∧Aside0 (Below w.heap.size w w'))
           case atStart=>exact ⟨(0),zz7,H',⟨Nat.le_refl _⟩,⟨by (with_reducible repeat (first|refine blk_drewN ?_ _|refine blk_drew ?_|refine blk_alloc ?_ _));exact BK319.out⟩,⟨by repeat (first|(with_reducible first|exact HB.out|apply below_alloc|apply pw_below_drewN|apply below_drew1|refine below_set ?_ GE319.out)|exact HB.out)⟩⟩
           case round =>
            clear H';(try clear c1);(try clear p2);(try clear c3);(try clear c3b0);(try clear c3b1);(try clear p3);(try clear q3);(try clear hx3);(try clear qi3);(try clear c4);(try clear c6);(try clear c6b0);(try clear c6b1);(try clear c7);(try clear c7b0);(try clear c7b1);(try clear c8);(try clear c9);(try clear c9b0);(try clear c9b1);(try clear c13);(try clear c13b0);(try clear c13b1);(try clear c14);(try clear c14b0);(try clear c14b1);(try clear c15);(try clear c15b0);(try clear c15b1);(try clear c19);(try clear hcz12_0);(try clear hcz12_1);(try clear hcz16_0);(try clear hcz16_1);(try clear hcz17_0);(try clear hcz17_1);(try clear hcz18_0);(try clear hcz18_1);(try clear hfz12_0);(try clear hfz12_1);(try clear hfz16_0);(try clear hfz16_1);(try clear hfz17_0);(try clear hfz17_1);(try clear hfz18_0);(try clear hfz18_1);(try clear hx316_0);(try clear hx316_1);(try clear hx317_0);(try clear hx317_1);(try clear hx318_0);(try clear hx318_1);(try clear hx320_0);(try clear p2);(try clear p3);(try clear p316);(try clear p317);(try clear p318);(try clear p320);(try clear q3);(try clear q316);(try clear q317);(try clear q318);(try clear q320);obtain ⟨x50_4,rfl,HA,HK4,BK319,HB⟩:=hrel
            cases gk with
            |zero=>exact absurd HA.out (by simp [impl_ClassesOk.l0])
            | succ k4 =>
             have H:=HA.out;clear HA;simp only [impl_ClassesOk.l0] at H;by_cases c20:x50_4<(l0.length:Int)
             ·rw [if_pos c20] at H
              have c20b0:decide (x50_4<(l0.length:Int))=true:=decide_eq_true c20
              clear c20;by_cases c21:0≤x50_4
              ·rw [if_pos c21] at H
               have c21b0:decide (0≤x50_4)=true:=decide_eq_true c21
               clear c21;by_cases c22:x50_4<(l0.length:Int)
               ·rw [if_pos c22] at H
                have c22b0:decide (x50_4<(l0.length:Int))=true:=decide_eq_true c22
                clear c22;have HC23:=aK H;clear H;have p321:0≤(x50_4:Int):=of_decide_eq_true zz3
                have q321:x50_4<(l0.length:Int):=of_decide_eq_true zz3
                obtain ⟨ad321,A321_1,c321_1,e321,hx321_0,hx321_1,hl321_1,hi321_1⟩:=at_T112 HR0.out x50_4 p321 q321;obtain rfl:ad318=ad321:=(by injection e321);replace hx321_0:=(HB.out.cell (World.block_lt_of_cell? w _ hx321_0)).trans hx321_0;replace hx321_1:=(HB.out.cell (World.block_lt_of_cell? w _ hx321_1)).trans hx321_1;have HR321_1:=aK hi321_1;have HC321_1:=aK hl321_1;clear hi321_1 hl321_1;replace p321:=eq_true p321;replace q321:=eq_true q321
                go_upto_region 11 with (first|((with_reducible refine gate_dst (N:=5) rfl ?_);(try (refine gate_guard (by rfl) ?_;dsimp only));refine box_event ?hg (N:=5) ?hd (cs:= #[.int .i64 0,.slice none 0 0]) (t:=112) ?hr ?_;(case hd=>rfl);(case hg=>rfl);(case hr=>first|(go_simp;done)|(go_simp;rfl));intro gb322 hg w24 hbox hb;have BK322:=aK (hbox);have GW322:=aK ((by rw [hg];exact (below_size zz36):w.heap.size≤gb322));have GE322:=aK ((by rw [hg];exact (below_size zz36):w.heap.size≤gb322));have NB319_322:=aK ((by rw [hg];exact Nat.ne_of_lt (blk_lt (g:=gb319) (o:= .cells #[.int .i64 ((rd_T112 l0 1).f0),.slice A318_1 ((rd_T112 l0 1).f1).length c318_1] 112 (0,0)) (by (with_reducible repeat (first|refine blk_drewN ?_ _|refine blk_drew ?_|refine blk_alloc ?_ _));exact BK319.out)):gb319≠gb322));have NB322_319:=aK ((by rw [hg];exact Nat.ne_of_gt (blk_lt (g:=gb319) (o:= .cells #[.int .i64 ((rd_T112 l0 1).f0),.slice A318_1 ((rd_T112 l0 1).f1).length c318_1] 112 (0,0)) (by (with_reducible repeat (first|refine blk_drewN ?_ _|refine blk_drew ?_|refine blk_alloc ?_ _));exact BK319.out)):gb322≠gb319));replace BK319:=aK (blk_below (g:=gb319) (o:= .cells #[.int .i64 ((rd_T112 l0 1).f0),.slice A318_1 ((rd_T112 l0 1).f1).length c318_1] 112 (0,0)) (by (with_reducible repeat (first|refine blk_drewN ?_ _|refine blk_drew ?_|refine blk_alloc ?_ _));exact BK319.out) hb);replace HB:=aK (below_step zz36 hb);clear hb hbox hg;have hnb25:=NB322_319.out;have hnc25:=NB319_322.out;obtain ⟨hcz26_0,hcz26_1,hfz26_0,hfz26_1⟩:=cbf2 BK322))
                (try simp only [Act.put,List.setIfInBounds_toArray,List.set_cons_zero,List.set_cons_succ])
                go_cut [67] (fun v67 wc=> ∃(kq:Nat) (x67_22:Bool),v67= .bool x67_22∧Aside0 (impl_ClassesOk.j4 kq l0 l0 (l0.length:Int) x50_4 x67_22 ((rd_T112 l0 x50_4).f0) ((rd_T112 l0 x50_4).f1)=some r)∧Aside0 (kq≤k4)∧Aside0 (wc.heap[gb319]? =some (.cells #[.int .i64 ((rd_T112 l0 1).f0),(.slice A318_1 ((rd_T112 l0 1).f1).length c318_1)] 112 (0,0)))∧Aside0 (wc.heap[gb322]? =some (.cells #[.int .i64 ((rd_T112 l0 x50_4).f0),(.slice A321_1 ((rd_T112 l0 x50_4).f1).length c321_1)] 112 (0,0)))∧Aside0 (Below w.heap.size w wc))
                case first=>
                 have H:=HC23.out;clear HC23;by_cases c27:x50_4>1
                 ·rw [if_pos c27] at H
                  have c27b0:decide (1<x50_4)=true:=decide_eq_true c27
                  clear c27
                  (first|rw [c27b0]|(simp only [i64_w,i32_w];rw [c27b0])|skip)
                  by_cases c28:((rd_T112 l0 x50_4).f0)<0
                  ·rw [if_pos c28] at H
                   have c28b0:decide (((rd_T112 l0 x50_4).f0)<0)=true:=decide_eq_true c28
                   clear c28;have H':=aK H;clear H;have hnb29:=NB322_319.out;have hnc29:=NB319_322.out;obtain ⟨hcz30_0,hcz30_1,hfz30_0,hfz30_1⟩:=cbf2 BK322;go_wp2;go_meet
                   case rel=>exact ⟨_,(true),zz7,H',⟨by have:=HJ1.out;have:=HJ4.out;have:=HJ9.out;have:=HK4.out;first|omega|exact Nat.le_refl _⟩,⟨by (with_reducible repeat (first|refine blk_drewN ?_ _|refine blk_drew ?_|refine blk_alloc ?_ _));refine blk_far ?_ NB319_322.out _;(with_reducible repeat (first|refine blk_drewN ?_ _|refine blk_drew ?_|refine blk_alloc ?_ _));refine blk_far ?_ NB319_322.out _;(with_reducible repeat (first|refine blk_drewN ?_ _|refine blk_drew ?_|refine blk_alloc ?_ _));exact BK319.out⟩,⟨by (with_reducible repeat (first|refine blk_drewN ?_ _|refine blk_drew ?_|refine blk_alloc ?_ _));refine blk_put (cs:= #[.int .i64 ((rd_T112 l0 x50_4).f0),.slice none 0 0]) ?_ 1 _ rfl;(with_reducible repeat (first|refine blk_drewN ?_ _|refine blk_drew ?_|refine blk_alloc ?_ _));refine blk_put (cs:= #[.int .i64 0,.slice none 0 0]) ?_ 0 _ rfl;(with_reducible repeat (first|refine blk_drewN ?_ _|refine blk_drew ?_|refine blk_alloc ?_ _));exact BK322.out⟩,⟨by repeat (first|(with_reducible first|exact HB.out|apply below_alloc|apply pw_below_drewN|apply below_drew1|refine below_set ?_ GE319.out|refine below_set ?_ GE322.out)|exact HB.out)⟩⟩
                  ·rw [if_neg c28] at H
                   have c28b0:decide (((rd_T112 l0 x50_4).f0)<0)=false:=decide_eq_false c28
                   clear c28;have H':=aK H;clear H;have hnb31:=NB322_319.out;have hnc31:=NB319_322.out;obtain ⟨hcz32_0,hcz32_1,hfz32_0,hfz32_1⟩:=cbf2 BK322;go_wp2;go_meet
                   case rel=>exact ⟨_,(decide (((rd_T112 l0 x50_4).f0)≥x50_4)),zz7,H',⟨by have:=HJ1.out;have:=HJ4.out;have:=HJ9.out;have:=HK4.out;first|omega|exact Nat.le_refl _⟩,⟨by (with_reducible repeat (first|refine blk_drewN ?_ _|refine blk_drew ?_|refine blk_alloc ?_ _));refine blk_far ?_ NB319_322.out _;(with_reducible repeat (first|refine blk_drewN ?_ _|refine blk_drew ?_|refine blk_alloc ?_ _));refine blk_far ?_ NB319_322.out _;(with_reducible repeat (first|refine blk_drewN ?_ _|refine blk_drew ?_|refine blk_alloc ?_ _));exact BK319.out⟩,⟨by (with_reducible repeat (first|refine blk_drewN ?_ _|refine blk_drew ?_|refine blk_alloc ?_ _));refine blk_put (cs:= #[.int .i64 ((rd_T112 l0 x50_4).f0),.slice none 0 0]) ?_ 1 _ rfl;(with_reducible repeat (first|refine blk_drewN ?_ _|refine blk_drew ?_|refine blk_alloc ?_ _));refine blk_put (cs:= #[.int .i64 0,.slice none 0 0]) ?_ 0 _ rfl;(with_reducible repeat (first|refine blk_drewN ?_ _|refine blk_drew ?_|refine blk_alloc ?_ _));exact BK322.out⟩,⟨by repeat (first|(with_reducible first|exact HB.out|apply below_alloc|apply pw_below_drewN|apply below_drew1|refine below_set ?_ GE319.out|refine below_set ?_ GE322.out)|exact HB.out)⟩⟩
                 ·rw [if_neg c27] at H
                  have c27b0:decide (1<x50_4)=false:=decide_eq_false c27
                  clear c27
                  (first|rw [c27b0]|(simp only [i64_w,i32_w];rw [c27b0])|skip)
                  have H':=aK H;clear H;go_wp2;go_meet
                  case rel=>exact ⟨_,(false),zz7,H',⟨by have:=HJ1.out;have:=HJ4.out;have:=HJ9.out;have:=HK4.out;first|omega|exact Nat.le_refl _⟩,⟨by (with_reducible repeat (first|refine blk_drewN ?_ _|refine blk_drew ?_|refine blk_alloc ?_ _));refine blk_far ?_ NB319_322.out _;(with_reducible repeat (first|refine blk_drewN ?_ _|refine blk_drew ?_|refine blk_alloc ?_ _));refine blk_far ?_ NB319_322.out _;(with_reducible repeat (first|refine blk_drewN ?_ _|refine blk_drew ?_|refine blk_alloc ?_ _));exact BK319.out⟩,⟨by (with_reducible repeat (first|refine blk_drewN ?_ _|refine blk_drew ?_|refine blk_alloc ?_ _));refine blk_put (cs:= #[.int .i64 ((rd_T112 l0 x50_4).f0),.slice none 0 0]) ?_ 1 _ rfl;(with_reducible repeat (first|refine blk_drewN ?_ _|refine blk_drew ?_|refine blk_alloc ?_ _));refine blk_put (cs:= #[.int .i64 0,.slice none 0 0]) ?_ 0 _ rfl;(with_reducible repeat (first|refine blk_drewN ?_ _|refine blk_drew ?_|refine blk_alloc ?_ _));exact BK322.out⟩,⟨by repeat (first|(with_reducible first|exact HB.out|apply below_alloc|apply pw_below_drewN|apply below_drew1|refine below_set ?_ GE319.out|refine below_set ?_ GE322.out)|exact HB.out)⟩⟩
                case rest =>
                 clear HC23;(try clear c1);(try clear c2);(try clear p2);(try clear c3);(try clear c3b0);(try clear c3b1);(try clear p3);(try clear q3);(try clear hx3);(try clear qi3);(try clear c4);(try clear c6);(try clear c6b0);(try clear c6b1);(try clear c7);(try clear c7b0);(try clear c7b1);(try clear c8);(try clear c9);(try clear c9b0);(try clear c9b1);(try clear c13);(try clear c13b0);(try clear c13b1);(try clear c14);(try clear c14b0);(try clear c14b1);(try clear c15);(try clear c15b0);(try clear c15b1);(try clear c19);(try clear c20);(try clear c20b0);(try clear c21);(try clear c21b0);(try clear c22);(try clear c22b0);(try clear c25);(try clear c27);(try clear c27b0);(try clear c28);(try clear c28b0);(try clear c29);(try clear c31);(try clear p31);(try clear q31);(try clear hx31);(try clear qi31);(try clear c32);(try clear p32);(try clear q32);(try clear hx32);(try clear qi32);(try clear hcz12_0);(try clear hcz12_1);(try clear hcz16_0);(try clear hcz16_1);(try clear hcz17_0);(try clear hcz17_1);(try clear hcz18_0);(try clear hcz18_1);(try clear hcz26_0);(try clear hcz26_1);(try clear hcz30_0);(try clear hcz30_1);(try clear hcz32_0);(try clear hcz32_1);(try clear hfz12_0);(try clear hfz12_1);(try clear hfz16_0);(try clear hfz16_1);(try clear hfz17_0);(try clear hfz17_1);(try clear hfz18_0);(try clear hfz18_1);(try clear hfz26_0);(try clear hfz26_1);(try clear hfz30_0);(try clear hfz30_1);(try clear hfz32_0);(try clear hfz32_1);(try clear hx316_0);(try clear hx316_1);(try clear hx317_0);(try clear hx317_1);(try clear hx318_0);(try clear hx318_1);(try clear hx320_0);(try clear hx321_0);(try clear hx321_1);(try clear p2);(try clear p3);(try clear p316);(try clear p317);(try clear p318);(try clear p320);(try clear p321);(try clear q3);(try clear q316);(try clear q317);(try clear q318);(try clear q320);(try clear q321);obtain ⟨kq,x67_22,rfl,HA,HJ22,BK319,BK322,HB⟩:=hcut
                 cases kq with
                 |zero=>exact absurd HA.out (by simp [impl_ClassesOk.j4])
                 | succ kj22 =>
                  have H:=HA.out;clear HA;simp only [impl_ClassesOk.j4] at H;by_cases c33:x67_22=true
                  ·subst c33
                   rw [if_pos rfl] at H;obtain rfl:=Option.some.inj H;go_wp2;go_ret;exact ⟨zz8,zz54⟩
                  ·replace c33 := Bool.eq_false_iff.mpr c33
                   subst c33;rw [if_neg (show¬(false=true) by decide)] at H;by_cases c34:(((rd_T112 l0 x50_4).f1).length:Int)>2
                   ·rw [if_pos c34] at H
                    have c34b0:decide (2<(((rd_T112 l0 x50_4).f1).length:Int))=true:=decide_eq_true c34
                    have c34b1:decide (2<((rd_T112 l0 x50_4).f1).length)=true:=decide_eq_true (by omega)
                    clear c34;obtain rfl:=Option.some.inj H;have hnb35:=NB322_319.out;have hnc35:=NB319_322.out;obtain ⟨hcz36_0,hcz36_1,hfz36_0,hfz36_1⟩:=cbf2 BK322;go_wp2;go_ret;exact ⟨zz8,zz54⟩
                   ·rw [if_neg c34] at H
                    have c34b0:decide (2<(((rd_T112 l0 x50_4).f1).length:Int))=false:=decide_eq_false c34
                    have c34b1:decide (2<((rd_T112 l0 x50_4).f1).length)=false:=decide_eq_false (by omega)
                    clear c34;have H':=aK H;clear H;have hnb37:=NB322_319.out;have hnc37:=NB319_322.out;obtain ⟨hcz38_0,hcz38_1,hfz38_0,hfz38_1⟩:=cbf2 BK322;go_wp2
                    go_loopg [75] kj22 (fun kq v75 w'=> ∃(x75_6:Int),v75= .int .i64 x75_6∧Aside0 (impl_ClassesOk.l1 kq l0 l0 (l0.length:Int) x50_4 ((rd_T112 l0 x50_4).f1) (((rd_T112 l0 x50_4).f1).length:Int) x75_6=some r)∧Aside0 (kq≤kj22)∧Aside0 (w'.heap[gb319]? =some (.cells #[.int .i64 ((rd_T112 l0 1).f0),(.slice A318_1 ((rd_T112 l0 1).f1).length c318_1)] 112 (0,0)))∧Aside0 (w'.heap[gb322]? =some (.cells #[.int .i64 ((rd_T112 l0 x50_4).f0),(.slice A321_1 ((rd_T112 l0 x50_4).f1).length c321_1)] 112 (0,0)))∧Aside0 (Below w.heap.size w w'))
                    case atStart=>exact ⟨(0),zz7,H',⟨Nat.le_refl _⟩,⟨by (with_reducible repeat (first|refine blk_drewN ?_ _|refine blk_drew ?_|refine blk_alloc ?_ _));exact BK319.out⟩,⟨by (with_reducible repeat (first|refine blk_drewN ?_ _|refine blk_drew ?_|refine blk_alloc ?_ _));exact BK322.out⟩,⟨by repeat (first|(with_reducible first|exact HB.out|apply below_alloc|apply pw_below_drewN|apply below_drew1|refine below_set ?_ GE319.out|refine below_set ?_ GE322.out)|exact HB.out)⟩⟩
                    case round =>
                     clear H';(try clear c1);(try clear c2);(try clear p2);(try clear c3);(try clear c3b0);(try clear c3b1);(try clear p3);(try clear q3);(try clear hx3);(try clear qi3);(try clear c4);(try clear c6);(try clear c6b0);(try clear c6b1);(try clear c7);(try clear c7b0);(try clear c7b1);(try clear c8);(try clear c9);(try clear c9b0);(try clear c9b1);(try clear c13);(try clear c13b0);(try clear c13b1);(try clear c14);(try clear c14b0);(try clear c14b1);(try clear c15);(try clear c15b0);(try clear c15b1);(try clear c19);(try clear c20);(try clear c20b0);(try clear c21);(try clear c21b0);(try clear c22);(try clear c22b0);(try clear c25);(try clear c27);(try clear c27b0);(try clear c28);(try clear c28b0);(try clear c29);(try clear c31);(try clear p31);(try clear q31);(try clear hx31);(try clear qi31);(try clear c32);(try clear p32);(try clear q32);(try clear hx32);(try clear qi32);(try clear c33);(try clear c34);(try clear c34b0);(try clear c34b1);(try clear c35);(try clear c37);(try clear hcz12_0);(try clear hcz12_1);(try clear hcz16_0);(try clear hcz16_1);(try clear hcz17_0);(try clear hcz17_1);(try clear hcz18_0);(try clear hcz18_1);(try clear hcz26_0);(try clear hcz26_1);(try clear hcz30_0);(try clear hcz30_1);(try clear hcz32_0);(try clear hcz32_1);(try clear hcz36_0);(try clear hcz36_1);(try clear hcz38_0);(try clear hcz38_1);(try clear hfz12_0);(try clear hfz12_1);(try clear hfz16_0);(try clear hfz16_1);(try clear hfz17_0);(try clear hfz17_1);(try clear hfz18_0);(try clear hfz18_1);(try clear hfz26_0);(try clear hfz26_1);(try clear hfz30_0);(try clear hfz30_1);(try clear hfz32_0);(try clear hfz32_1);(try clear hfz36_0);(try clear hfz36_1);(try clear hfz38_0);(try clear hfz38_1);(try clear hx316_0);(try clear hx316_1);(try clear hx317_0);(try clear hx317_1);(try clear hx318_0);(try clear hx318_1);(try clear hx320_0);(try clear hx321_0);(try clear hx321_1);(try clear p2);(try clear p3);(try clear p31);(try clear p316);(try clear p317);(try clear p318);(try clear p32);(try clear p320);(try clear p321);(try clear q3);(try clear q31);(try clear q316);(try clear q317);(try clear q318);(try clear q32);(try clear q320);(try clear q321);obtain ⟨x75_6,rfl,HA,HK6,BK319,BK322,HB⟩:=hrel
                     cases gk with
                     |zero=>exact absurd HA.out (by simp [impl_ClassesOk.l1])
                     | succ k6 =>
                      have H:=HA.out;clear HA;simp only [impl_ClassesOk.l1] at H;by_cases c39:x75_6<(((rd_T112 l0 x50_4).f1).length:Int)
                      ·rw [if_pos c39] at H
                       have c39b0:decide (x75_6<(((rd_T112 l0 x50_4).f1).length:Int))=true:=decide_eq_true c39
                       clear c39;by_cases c40:0≤x75_6
                       ·rw [if_pos c40] at H
                        have c40b0:decide (0≤x75_6)=true:=decide_eq_true c40
                        clear c40;by_cases c41:x75_6<(((rd_T112 l0 x50_4).f1).length:Int)
                        ·rw [if_pos c41] at H
                         have c41b0:decide (x75_6<(((rd_T112 l0 x50_4).f1).length:Int))=true:=decide_eq_true c41
                         clear c41;replace H:=Option.bind_eq_some_iff.mp H;obtain ⟨t324,A420,H⟩:=H;(try dsimp only at H);have A42:=aK A420;clear A420;by_cases c43:t324=true
                         ·subst c43
                          rw [if_pos rfl] at H;have H':=aK H;clear H;have p323:0≤(x75_6:Int):=of_decide_eq_true zz3
                          have q323:x75_6<(((rd_T112 l0 x50_4).f1).length:Int):=of_decide_eq_true zz3
                          obtain ⟨ad323,e323,hx323_0⟩:=Kd.at_int HR321_1.out x75_6 p323 q323
                          cases e323
                          replace hx323_0:=(HB.out.cell (World.block_lt_of_cell? w _ hx323_0)).trans hx323_0;replace p323:=eq_true p323;replace q323:=eq_true q323
                          go_wp2_with (first|((with_reducible refine gate_callee (f:=98) rfl ?_);refine goesL_ (some 82) rfl rfl Try.func98 (by kernel_rfl) rfl #[.int .i64 (l0.length:Int),.int .i64 (rd ((rd_T112 l0 x50_4).f1) x75_6)] rfl zz2 ?_;(with_reducible refine (impl_fieldType.calls (l0.length:Int) (rd ((rd_T112 l0 x50_4).f1) x75_6) true _ A42.out).mono ?_);rintro e w' ⟨rfl,⟨nd,rfl⟩⟩;refine ⟨_,rfl,?_⟩))
                          go_roundg k6
                          case measure=>have:=HJ1.out;have:=HJ4.out;have:=HJ9.out;have:=HK4.out;have:=HJ22.out;have:=HK6.out;omega
                          case rel=>exact ⟨(wrap64 (x75_6+1)),zz7,H',⟨by have:=HJ1.out;have:=HJ4.out;have:=HJ9.out;have:=HK4.out;have:=HJ22.out;have:=HK6.out;omega⟩,⟨by (with_reducible repeat (first|refine blk_drewN ?_ _|refine blk_drew ?_|refine blk_alloc ?_ _));exact BK319.out⟩,⟨by (with_reducible repeat (first|refine blk_drewN ?_ _|refine blk_drew ?_|refine blk_alloc ?_ _));exact BK322.out⟩,⟨by repeat (first|(with_reducible first|exact HB.out|apply below_alloc|apply pw_below_drewN|apply below_drew1|refine below_set ?_ GE319.out|refine below_set ?_ GE322.out)|exact HB.out)⟩⟩
                         ·replace c43 := Bool.eq_false_iff.mpr c43
                          subst c43;rw [if_neg (show¬(false=true) by decide)] at H;obtain rfl:=Option.some.inj H;have p323:0≤(x75_6:Int):=of_decide_eq_true zz3
                          have q323:x75_6<(((rd_T112 l0 x50_4).f1).length:Int):=of_decide_eq_true zz3
                          obtain ⟨ad323,e323,hx323_0⟩:=Kd.at_int HR321_1.out x75_6 p323 q323
                          cases e323
                          replace hx323_0:=(HB.out.cell (World.block_lt_of_cell? w _ hx323_0)).trans hx323_0;replace p323:=eq_true p323;replace q323:=eq_true q323
                          go_wp2_with (first|((with_reducible refine gate_callee (f:=98) rfl ?_);refine goesL_ (some 82) rfl rfl Try.func98 (by kernel_rfl) rfl #[.int .i64 (l0.length:Int),.int .i64 (rd ((rd_T112 l0 x50_4).f1) x75_6)] rfl zz2 ?_;(with_reducible refine (impl_fieldType.calls (l0.length:Int) (rd ((rd_T112 l0 x50_4).f1) x75_6) false _ A42.out).mono ?_);rintro e w' ⟨rfl,⟨nd,rfl⟩⟩;refine ⟨_,rfl,?_⟩))
                          go_ret;exact ⟨zz8,zz54⟩
                        ·rw [if_neg c41] at H
                         exact absurd H (by simp)
                       ·rw [if_neg c40] at H
                        exact absurd H (by simp)
                      ·rw [if_neg c39] at H
                       have c39b0:decide (x75_6<(((rd_T112 l0 x50_4).f1).length:Int))=false:=decide_eq_false c39
                       clear c39;have H':=aK H;clear H;go_wp2
                       go_roundg k6
                       case measure=>have:=HJ1.out;have:=HJ4.out;have:=HJ9.out;have:=HK4.out;have:=HJ22.out;have:=HK6.out;omega
                       case rel=>exact ⟨(wrap64 (x50_4+1)),zz7,H',⟨by have:=HJ1.out;have:=HJ4.out;have:=HJ9.out;have:=HK4.out;have:=HJ22.out;have:=HK6.out;omega⟩,⟨by (with_reducible repeat (first|refine blk_drewN ?_ _|refine blk_drew ?_|refine blk_alloc ?_ _));exact BK319.out⟩,⟨by repeat (first|(with_reducible first|exact HB.out|apply below_alloc|apply pw_below_drewN|apply below_drew1|refine below_set ?_ GE319.out|refine below_set ?_ GE322.out)|exact HB.out)⟩⟩
               ·rw [if_neg c22] at H
                exact absurd H (by simp)
              ·rw [if_neg c21] at H
               exact absurd H (by simp)
             ·rw [if_neg c20] at H
              have c20b0:decide (x50_4<(l0.length:Int))=false:=decide_eq_false c20
              clear c20;obtain rfl:=Option.some.inj H;go_wp2;go_ret;exact ⟨zz8,zz36⟩
       ·rw [if_neg c9] at H
        exact absurd H (by simp)
end Go.Proofs.Ytnlieahdakafbaa.K
