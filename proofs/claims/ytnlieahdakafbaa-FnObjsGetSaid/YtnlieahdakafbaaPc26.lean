import Derived.Test.YtnlieahdakafbaaPc24
import Derived.Test.YtnlieahdakafbaaPc25
import Derived.BigQuiet
namespace Go.Proofs.Ytnlieahdakafbaa.K
open Go.RowKit Go.Proofs.YtnlieahdakafbaaW.PrintWords Go.Proofs.YtnlieahdakafbaaW.PrintLast Go.Proofs.YtnlieahdakafbaaW.PrintMore
attribute [local go_sem] max2_int min2_int max_two min_two max_three min_three max_four min_four
set_option linter.unusedVariables false
set_option linter.unusedSimpArgs false
mutual
def spec_l21Thing.l0:Nat→List Bool→Int→List Bool→Int→List Int→Int→Int→Int→List Bool→Option (Bool)
 |0,_,_,_,_,_,_,_,_,_=>none
 |k+1,x2,x3,x9,x10,x278000,x278001,x278002,x278003,x278004=>if x10<(x9.length:Int) then (if 0≤(wrap64 (x3+x10)) then (if (wrap64 (x3+x10))<(x278000.length:Int) then (if 0≤x10 then (if rdOf false x9 x10=true then ((spec_l21Lead.f x2 (rd x278000 (wrap64 (x3+x10)))).bind fun t285=>(if t285=true then (spec_l21Thing.j1 k x2 x3 x9 x10 (rd x278000 (wrap64 (x3+x10))) false x278000 x278001 x278002 x278003 x278004) else (spec_l21Thing.j1 k x2 x3 x9 x10 (rd x278000 (wrap64 (x3+x10))) true x278000 x278001 x278002 x278003 x278004))) else ((spec_l1Word.f (rd x278000 (wrap64 (x3+x10)))).bind fun t288=>(spec_l21Thing.j1 k x2 x3 x9 x10 (rd x278000 (wrap64 (x3+x10))) (!t288) x278000 x278001 x278002 x278003 x278004))) else (none)) else (none)) else (none)) else (some true)
def spec_l21Thing.j1:Nat→List Bool→Int→List Bool→Int→Int→Bool→List Int→Int→Int→Int→List Bool→Option (Bool)
 |0,_,_,_,_,_,_,_,_,_,_,_=>none
 |k+1,x2,x3,x9,x10,x11,x57,x278000,x278001,x278002,x278003,x278004=>if x57=true then (some false) else (if 0≤x10 then (if x10<(x9.length:Int) then (if rdOf false x9 x10=true then (if x3≥x278001 then ((spec_l6In.f x11 1 x278001).bind fun t290=>(if t290=true then (if 0≤(wrap64 (Int.tdiv (wrap64 ((wrap64 (x3+x10)) - x278001)) 4)) then (if (wrap64 (Int.tdiv (wrap64 ((wrap64 (x3+x10)) - x278001)) 4))<(x278004.length:Int) then (if (rdOf false x278004 (wrap64 (Int.tdiv (wrap64 ((wrap64 (x3+x10)) - x278001)) 4))=true) then (spec_l21Thing.l0 k x2 x3 x9 (wrap64 (x10+1)) x278000 x278001 x278002 x278003 x278004) else (some false)) else (none)) else (none)) else (spec_l21Thing.l0 k x2 x3 x9 (wrap64 (x10+1)) x278000 x278001 x278002 x278003 x278004))) else (spec_l21Thing.l0 k x2 x3 x9 (wrap64 (x10+1)) x278000 x278001 x278002 x278003 x278004)) else (spec_l21Thing.l0 k x2 x3 x9 (wrap64 (x10+1)) x278000 x278001 x278002 x278003 x278004)) else (none)) else (none))
end
def spec_l21Thing.f (k:Nat) (l0:List (S112)) (l1_0:List Int) (a1_1:Int) (a1_2:Int) (a1_3:Int) (l1_4:List Bool) (l2:List Bool) (a3:Int):Option (Bool):=(spec_l21Refs.f k l0 l1_0 a3).bind fun t278=>(if 0≤a3 then (if a3<(l1_0.length:Int) then ((spec_l21Head.f (rd l1_0 a3)).bind fun t282=>(spec_l21Thing.l0 k l2 a3 t278 t282 l1_0 a1_1 a1_2 a1_3 l1_4)) else (none)) else (none))
set_option maxHeartbeats 8000000 in
set_option maxRecDepth 100000 in
theorem spec_l21Thing.calls (k : Nat) (A0 : Option Addr) (c0 : Nat) (l0 : List (S112)) (A1_0 : Option Addr) (c1_0 : Nat) (l1_0 : List Int) (a1_1 : Int) (a1_2 : Int) (a1_3 : Int) (A1_4 : Option Addr) (c1_4 : Nat) (l1_4 : List Bool) (A2 : Option Addr) (c2 : Nat) (l2 : List Bool) (a3 : Int) (r : Bool) (w : World) (hr0 : Kd.C k112 w A0 l0.length l0) (hc0 : l0.length ≤ c0) (hr1_0 : Kd.C (Kd.int .i64) w A1_0 l1_0.length l1_0) (hc1_0 : l1_0.length ≤ c1_0) (hr1_4 : Kd.C Kd.bool w A1_4 l1_4.length l1_4) (hc1_4 : l1_4.length ≤ c1_4) (hr2 : Kd.C Kd.bool w A2 l2.length l2) (hc2 : l2.length ≤ c2) (h : spec_l21Thing.f k l0 l1_0 a1_1 a1_2 a1_3 l1_4 l2 a3 = some r) :
  Calls Try.prog 47 #[.slice A0 l0.length c0,.agg #[.slice A1_0 l1_0.length c1_0,.int .i64 a1_1,.int .i64 a1_2,.int .i64 a1_3,.slice A1_4 l1_4.length c1_4],.slice A2 l2.length c2,.int .i64 a3] w fun e w'=>e= .returned (.bool r)∧Below w.heap.size w w':=by
 have hu27:=Try.underlying27;have HR0:=aK hr0;have HC0:=aK hc0;clear hr0 hc0;have HR1_0:=aK hr1_0;have HC1_0:=aK hc1_0;clear hr1_0 hc1_0;have HR1_4:=aK hr1_4;have HC1_4:=aK hc1_4;clear hr1_4 hc1_4;have HR2:=aK hr2;have HC2:=aK hc2;clear hr2 hc2;have HB:=aK (Below.refl w.heap.size w);have H:((spec_l21Refs.f k l0 l1_0 a3).bind fun t278=>(if 0≤a3 then (if a3<(l1_0.length:Int) then ((spec_l21Head.f (rd l1_0 a3)).bind fun t282=>(spec_l21Thing.l0 k l2 a3 t278 t282 l1_0 a1_1 a1_2 a1_3 l1_4)) else (none)) else (none)))=some r:=h
 clear h;replace H:=Option.bind_eq_some_iff.mp H;obtain ⟨t278,A50,H⟩:=H;(try dsimp only at H);have A5:=aK A50;clear A50;by_cases c6:0≤a3
 ·rw [if_pos c6] at H
  have c6b0:decide (0≤a3)=true:=decide_eq_true c6
  clear c6;by_cases c7:a3<(l1_0.length:Int)
  ·rw [if_pos c7] at H
   have c7b0:decide (a3<(l1_0.length:Int))=true:=decide_eq_true c7
   clear c7;replace H:=Option.bind_eq_some_iff.mp H;obtain ⟨t282,A80,H⟩:=H;(try dsimp only at H);have A8:=aK A80;clear A80;have H':=aK H;clear H;go_enter Try.func47,Try.ntmps47
   go_wp2_with (first|((with_reducible refine gate_dst (N:=5) rfl ?_);refine box_event ?hg (N:=5) ?hd (cs:= #[.slice A1_0 l1_0.length c1_0,.int .i64 a1_1,.int .i64 a1_2,.int .i64 a1_3,.slice A1_4 l1_4.length c1_4]) (t:=27) ?hr ?_;(case hd=>rfl);(case hg=>rfl);(case hr=>first|(go_simp;done)|(go_simp;rfl));intro gb277 hg w9 hbox hb;have BK277:=aK (hbox);have GW277:=aK ((by rw [hg];exact (below_size zz1):w.heap.size≤gb277));have GE277:=aK ((by rw [hg];exact (below_size zz1):w.heap.size≤gb277));replace HB:=aK (below_step zz1 hb);clear hb hbox hg;obtain ⟨hcz10_0,hcz10_1,hcz10_2,hcz10_3,hcz10_4,hfz10_0,hfz10_1,hfz10_2,hfz10_3,hfz10_4⟩:=cbf5 BK277)|((with_reducible refine gate_callee (f:=39) rfl ?_);refine goesL_ (some 16) rfl rfl Try.func39 (by kernel_rfl) rfl #[.slice A0 l0.length c0,.slice A1_0 l1_0.length c1_0,.int .i64 a3] rfl zz2 ?_;(with_reducible refine (spec_l21Refs.calls k _ _ l0 _ _ l1_0 a3 t278 _ ?side1 ?side2 ?side3 ?side4 A5.out).mono ?_);(case side1=>exact zz5);(case side2=>exact HC0.out);(case side3=>exact zz10);(case side4=>exact HC1_0.out);rintro e w11 ⟨v279,rfl,ho0,hb⟩;refine ⟨_,rfl,?_⟩;have HO280:=aK (Kd.R_lower ho0 (below_size zz40));replace BK277:=aK (blk_below (g:=gb277) (o:= .cells #[.slice A1_0 l1_0.length c1_0,.int .i64 a1_1,.int .i64 a1_2,.int .i64 a1_3,.slice A1_4 l1_4.length c1_4] 27 (0,0)) (by (with_reducible repeat (first|refine blk_drewN ?_ _|refine blk_drew ?_|refine blk_alloc ?_ _));exact BK277.out) hb);replace HB:=aK (below_step zz40 hb);(try clear hb);(try clear hb2);(try clear hk);(try clear hi);(try clear ho0);obtain ⟨hcz12_0,hcz12_1,hcz12_2,hcz12_3,hcz12_4,hfz12_0,hfz12_1,hfz12_2,hfz12_3,hfz12_4⟩:=cbf5 BK277;have p281:0≤(a3:Int):=of_decide_eq_true zz3;have q281:a3<(l1_0.length:Int):=of_decide_eq_true zz3;obtain ⟨ad281,e281,hx281_0⟩:=Kd.at_int HR1_0.out a3 p281 q281;cases e281;replace hx281_0:=(HB.out.cell (World.block_lt_of_cell? w _ hx281_0)).trans hx281_0;replace p281:=eq_true p281;replace q281:=eq_true q281)|((with_reducible refine gate_callee (f:=78) rfl ?_);refine goesL_ (some 22) rfl rfl Try.func78 (by kernel_rfl) rfl #[.int .i64 (rd l1_0 a3)] rfl zz2 ?_;(with_reducible refine (spec_l21Head.calls (rd l1_0 a3) t282 _ A8.out).mono ?_);rintro e w' ⟨rfl,⟨nd,rfl⟩⟩;refine ⟨_,rfl,?_⟩))
   go_loopg [10] k (fun kq v10 w'=> ∃(x10_1:Int),v10= .int .i64 x10_1∧Aside0 (spec_l21Thing.l0 kq l2 a3 t278 x10_1 l1_0 a1_1 a1_2 a1_3 l1_4=some r)∧Aside0 (kq≤k)∧Aside0 (Kd.R Kd.bool 4 w' w.heap.size (fun _=>True) v279 t278)∧Aside0 (w'.heap[gb277]? =some (.cells #[(.slice (some ad281) l1_0.length c1_0),.int .i64 a1_1,.int .i64 a1_2,.int .i64 a1_3,(.slice A1_4 l1_4.length c1_4)] 27 (0,0)))∧Aside0 (Below w.heap.size w w'))
   case atStart=>exact ⟨(t282),zz6,H',⟨Nat.le_refl _⟩,⟨by (with_reducible repeat (first|apply Kd.R_alloc|apply Kd.R_drewN|apply Kd.R_drew));exact HO280.out⟩,⟨by (with_reducible repeat (first|refine blk_drewN ?_ _|refine blk_drew ?_|refine blk_alloc ?_ _));exact BK277.out⟩,⟨by repeat (first|(with_reducible first|exact HB.out|apply below_alloc|apply pw_below_drewN|apply below_drew1|refine below_set ?_ GE277.out)|exact HB.out)⟩⟩
   case round =>
    clear H';(try clear c1);(try clear c2);(try clear p2);(try clear q2);(try clear hx2);(try clear c3);(try clear c4);(try clear c6);(try clear c6b0);(try clear c7);(try clear c7b0);(try clear hcz10_0);(try clear hcz10_1);(try clear hcz10_2);(try clear hcz10_3);(try clear hcz10_4);(try clear hcz12_0);(try clear hcz12_1);(try clear hcz12_2);(try clear hcz12_3);(try clear hcz12_4);(try clear hfz10_0);(try clear hfz10_1);(try clear hfz10_2);(try clear hfz10_3);(try clear hfz10_4);(try clear hfz12_0);(try clear hfz12_1);(try clear hfz12_2);(try clear hfz12_3);(try clear hfz12_4);(try clear hx281_0);(try clear p281);(try clear q281);obtain ⟨x10_1,rfl,HA,HK1,HO_9,BK277,HB⟩:=hrel
    cases gk with
    |zero=>exact absurd HA.out (by simp [spec_l21Thing.l0])
    | succ k1 =>
     have H:=HA.out;clear HA;simp only [spec_l21Thing.l0] at H;by_cases c13:x10_1<(t278.length:Int)
     ·rw [if_pos c13] at H
      have c13b0:decide (x10_1<(t278.length:Int))=true:=decide_eq_true c13
      clear c13;obtain ⟨ji14,hji14⟩: ∃j_:Int,(wrap64 (a3+x10_1))=j_:=⟨_,rfl⟩;replace H:(if 0≤(ji14) then (if (ji14)<(l1_0.length:Int) then (if 0≤x10_1 then (if rdOf false t278 x10_1=true then ((spec_l21Lead.f l2 (rd l1_0 (ji14))).bind fun t285=>(if t285=true then (spec_l21Thing.j1 k1 l2 a3 t278 x10_1 (rd l1_0 (ji14)) false l1_0 a1_1 a1_2 a1_3 l1_4) else (spec_l21Thing.j1 k1 l2 a3 t278 x10_1 (rd l1_0 (ji14)) true l1_0 a1_1 a1_2 a1_3 l1_4))) else ((spec_l1Word.f (rd l1_0 (ji14))).bind fun t288=>(spec_l21Thing.j1 k1 l2 a3 t278 x10_1 (rd l1_0 (ji14)) (!t288) l1_0 a1_1 a1_2 a1_3 l1_4))) else (none)) else (none)) else (none))=some r:=by first|(rw [hji14] at H;exact H)|(simp only [hji14] at H ⊢;exact H)
      have hji14w:(IntKind.i64.wrap (a3+x10_1))=ji14:=(i64_w _).trans hji14
      by_cases c15:0≤(ji14)
      ·rw [if_pos c15] at H
       have c15b0:decide (0≤(ji14))=true:=decide_eq_true c15
       clear c15;by_cases c16:(ji14)<(l1_0.length:Int)
       ·rw [if_pos c16] at H
        have c16b0:decide ((ji14)<(l1_0.length:Int))=true:=decide_eq_true c16
        clear c16;have HC17:=aK H;clear H;obtain ⟨Ao18,co18,eo18⟩:=Kd.R_slice HO_9.out;subst eo18;obtain ⟨hcz19_0,hcz19_1,hcz19_2,hcz19_3,hcz19_4,hfz19_0,hfz19_1,hfz19_2,hfz19_3,hfz19_4⟩:=cbf5 BK277;have p283:0≤((ji14):Int):=of_decide_eq_true zz3
        have q283:(ji14)<(l1_0.length:Int):=of_decide_eq_true zz3
        obtain ⟨ad283,e283,hx283_0⟩:=Kd.at_int HR1_0.out (ji14) p283 q283;obtain rfl:ad281=ad283:=(by injection e283);replace hx283_0:=(HB.out.cell (World.block_lt_of_cell? w _ hx283_0)).trans hx283_0;replace p283:=eq_true p283;replace q283:=eq_true q283
        go_upto_region 6 with (fail)
        go_cut [57] (fun v57 wc=> ∃(kq:Nat) (x57_16:Bool),v57= .bool x57_16∧Aside0 (spec_l21Thing.j1 kq l2 a3 t278 x10_1 (rd l1_0 (ji14)) x57_16 l1_0 a1_1 a1_2 a1_3 l1_4=some r)∧Aside0 (kq≤k1)∧Aside0 (Kd.R Kd.bool 4 wc w.heap.size (fun _=>True) (.slice Ao18 t278.length co18) t278)∧Aside0 (wc.heap[gb277]? =some (.cells #[(.slice (some ad281) l1_0.length c1_0),.int .i64 a1_1,.int .i64 a1_2,.int .i64 a1_3,(.slice A1_4 l1_4.length c1_4)] 27 (0,0)))∧Aside0 (Below w.heap.size w wc))
        case first=>
         have H:=HC17.out;clear HC17;by_cases c20:0≤x10_1
         ·rw [if_pos c20] at H
          have c20b0:decide (0≤x10_1)=true:=decide_eq_true c20
          clear c20
          (first|rw [c20b0]|(simp only [i64_w,i32_w];rw [c20b0])|skip)
          obtain ⟨bq21,hbq21⟩: ∃b_:Bool,b_=(rdOf false t278 x10_1):=⟨_,rfl⟩;replace H:(if bq21=true then ((spec_l21Lead.f l2 (rd l1_0 (ji14))).bind fun t285=>(if t285=true then (spec_l21Thing.j1 k1 l2 a3 t278 x10_1 (rd l1_0 (ji14)) false l1_0 a1_1 a1_2 a1_3 l1_4) else (spec_l21Thing.j1 k1 l2 a3 t278 x10_1 (rd l1_0 (ji14)) true l1_0 a1_1 a1_2 a1_3 l1_4))) else ((spec_l1Word.f (rd l1_0 (ji14))).bind fun t288=>(spec_l21Thing.j1 k1 l2 a3 t278 x10_1 (rd l1_0 (ji14)) (!t288) l1_0 a1_1 a1_2 a1_3 l1_4)))=some r:=by rw [←hbq21] at H;exact H
          have Nbq21:=aK hbq21;clear hbq21;by_cases c22:bq21=true
          ·subst c22
           rw [if_pos rfl] at H;replace H:=Option.bind_eq_some_iff.mp H;obtain ⟨t285,A230,H⟩:=H;(try dsimp only at H);have A23:=aK A230;clear A230;by_cases c24:t285=true
           ·subst c24
            rw [if_pos rfl] at H;have H':=aK H;clear H;have p284:0≤(x10_1:Int):=of_decide_eq_true zz3
            have q284:x10_1<(t278.length:Int):=of_decide_eq_true zz3
            obtain ⟨ad284,e284,hx284_0⟩:=Kd.at_bool (Kd.R_reads' HO_9.out).2.2 x10_1 p284 q284
            (try rw [←Nbq21.out] at hx284_0)
            cases e284
            replace p284:=eq_true p284;replace q284:=eq_true q284
            go_wp2_with (first|(go_at_call 41;(with_reducible refine (spec_l21Lead.calls _ _ l2 (rd l1_0 (ji14)) true _ ?side1 ?side2 A23.out).mono ?_);(case side1=>exact (by repeat (first|exact (Kd.C_below HR2.out HB.out)|(with_reducible refine Kd.C_alloc ?_ _)|(with_reducible refine Kd.C_drewN ?_ _)|(with_reducible refine Kd.C_drew ?_))));(case side2=>exact HC2.out);rintro e w' ⟨rfl,⟨nd,rfl⟩⟩;have p286:0≤(x10_1:Int):=of_decide_eq_true zz3;have q286:x10_1<(t278.length:Int):=of_decide_eq_true zz3;obtain ⟨ad286,e286,hx286_0⟩:=Kd.at_bool (Kd.R_reads' HO_9.out).2.2 x10_1 p286 q286;(try rw [←Nbq21.out] at hx286_0);obtain rfl:ad284=ad286:=(by injection e286);replace p286:=eq_true p286;replace q286:=eq_true q286))
            go_meet
            case rel=>exact ⟨_,(false),zz6,H',⟨by have:=HK1.out;first|omega|exact Nat.le_refl _⟩,⟨by (with_reducible repeat (first|apply Kd.R_alloc|apply Kd.R_drewN|apply Kd.R_drew));exact HO_9.out⟩,⟨by (with_reducible repeat (first|refine blk_drewN ?_ _|refine blk_drew ?_|refine blk_alloc ?_ _));exact BK277.out⟩,⟨by repeat (first|(with_reducible first|exact HB.out|apply below_alloc|apply pw_below_drewN|apply below_drew1|refine below_set ?_ GE277.out)|exact HB.out)⟩⟩
           ·replace c24 := Bool.eq_false_iff.mpr c24
            subst c24;rw [if_neg (show¬(false=true) by decide)] at H;have H':=aK H;clear H;have p284:0≤(x10_1:Int):=of_decide_eq_true zz3
            have q284:x10_1<(t278.length:Int):=of_decide_eq_true zz3
            obtain ⟨ad284,e284,hx284_0⟩:=Kd.at_bool (Kd.R_reads' HO_9.out).2.2 x10_1 p284 q284
            (try rw [←Nbq21.out] at hx284_0)
            cases e284
            replace p284:=eq_true p284;replace q284:=eq_true q284
            go_wp2_with (first|(go_at_call 41;(with_reducible refine (spec_l21Lead.calls _ _ l2 (rd l1_0 (ji14)) false _ ?side1 ?side2 A23.out).mono ?_);(case side1=>exact (by repeat (first|exact (Kd.C_below HR2.out HB.out)|(with_reducible refine Kd.C_alloc ?_ _)|(with_reducible refine Kd.C_drewN ?_ _)|(with_reducible refine Kd.C_drew ?_))));(case side2=>exact HC2.out);rintro e w' ⟨rfl,⟨nd,rfl⟩⟩))
            go_meet
            case rel=>exact ⟨_,(true),zz6,H',⟨by have:=HK1.out;first|omega|exact Nat.le_refl _⟩,⟨by (with_reducible repeat (first|apply Kd.R_alloc|apply Kd.R_drewN|apply Kd.R_drew));exact HO_9.out⟩,⟨by (with_reducible repeat (first|refine blk_drewN ?_ _|refine blk_drew ?_|refine blk_alloc ?_ _));exact BK277.out⟩,⟨by repeat (first|(with_reducible first|exact HB.out|apply below_alloc|apply pw_below_drewN|apply below_drew1|refine below_set ?_ GE277.out)|exact HB.out)⟩⟩
          ·replace c22 := Bool.eq_false_iff.mpr c22
           subst c22;rw [if_neg (show¬(false=true) by decide)] at H;replace H:=Option.bind_eq_some_iff.mp H;obtain ⟨t288,A250,H⟩:=H;(try dsimp only at H);have A25:=aK A250;clear A250;have H':=aK H;clear H;have p284:0≤(x10_1:Int):=of_decide_eq_true zz3
           have q284:x10_1<(t278.length:Int):=of_decide_eq_true zz3
           obtain ⟨ad284,e284,hx284_0⟩:=Kd.at_bool (Kd.R_reads' HO_9.out).2.2 x10_1 p284 q284
           (try rw [←Nbq21.out] at hx284_0)
           cases e284
           replace p284:=eq_true p284;replace q284:=eq_true q284;have p287:0≤(x10_1:Int):=of_decide_eq_true zz3
           have q287:x10_1<(t278.length:Int):=of_decide_eq_true zz3
           obtain ⟨ad287,e287,hx287_0⟩:=Kd.at_bool (Kd.R_reads' HO_9.out).2.2 x10_1 p287 q287
           (try rw [←Nbq21.out] at hx287_0)
           obtain rfl:ad284=ad287:=(by injection e287);replace p287:=eq_true p287;replace q287:=eq_true q287
           go_wp2_with (first|(go_at_call 43;(with_reducible refine (spec_l1Word.calls (rd l1_0 (ji14)) t288 _ A25.out).mono ?_);rintro e w' ⟨rfl,⟨nd,rfl⟩⟩))
           go_meet
           case rel=>exact ⟨_,(!t288),zz6,H',⟨by have:=HK1.out;first|omega|exact Nat.le_refl _⟩,⟨by (with_reducible repeat (first|apply Kd.R_alloc|apply Kd.R_drewN|apply Kd.R_drew));exact HO_9.out⟩,⟨by (with_reducible repeat (first|refine blk_drewN ?_ _|refine blk_drew ?_|refine blk_alloc ?_ _));exact BK277.out⟩,⟨by repeat (first|(with_reducible first|exact HB.out|apply below_alloc|apply pw_below_drewN|apply below_drew1|refine below_set ?_ GE277.out)|exact HB.out)⟩⟩
         ·rw [if_neg c20] at H
          exact absurd H (by simp)
        case rest =>
         clear HC17;(try clear c1);(try clear c2);(try clear p2);(try clear q2);(try clear hx2);(try clear c3);(try clear c4);(try clear c6);(try clear c6b0);(try clear p6);(try clear c7);(try clear c7b0);(try clear c13);(try clear c13b0);(try clear c15);(try clear c15b0);(try clear c16);(try clear c16b0);(try clear c20);(try clear c20b0);(try clear q21);(try clear c22);(try clear c24);(try clear hcz10_0);(try clear hcz10_1);(try clear hcz10_2);(try clear hcz10_3);(try clear hcz10_4);(try clear hcz12_0);(try clear hcz12_1);(try clear hcz12_2);(try clear hcz12_3);(try clear hcz12_4);(try clear hcz19_0);(try clear hcz19_1);(try clear hcz19_2);(try clear hcz19_3);(try clear hcz19_4);(try clear hfz10_0);(try clear hfz10_1);(try clear hfz10_2);(try clear hfz10_3);(try clear hfz10_4);(try clear hfz12_0);(try clear hfz12_1);(try clear hfz12_2);(try clear hfz12_3);(try clear hfz12_4);(try clear hfz19_0);(try clear hfz19_1);(try clear hfz19_2);(try clear hfz19_3);(try clear hfz19_4);(try clear hx281_0);(try clear hx283_0);(try clear hx284_0);(try clear hx286_0);(try clear hx287_0);(try clear p2);(try clear p281);(try clear p283);(try clear p284);(try clear p286);(try clear p287);(try clear q2);(try clear q281);(try clear q283);(try clear q284);(try clear q286);(try clear q287);obtain ⟨kq,x57_16,rfl,HA,HJ16,HO_9,BK277,HB⟩:=hcut
         cases kq with
         |zero=>exact absurd HA.out (by simp [spec_l21Thing.j1])
         | succ kj16 =>
          have H:=HA.out;clear HA;simp only [spec_l21Thing.j1] at H;by_cases c26:x57_16=true
          ·subst c26
           rw [if_pos rfl] at H;obtain rfl:=Option.some.inj H;go_wp2;go_ret;exact ⟨(by first|rfl|(simp [errW_none,errW_some]<;>rfl)|(simp only [←hji14];first|rfl|(simp [errW_none,errW_some]<;>rfl))|(simp [*,errW_none,errW_some]<;>rfl)),zz40⟩
          ·replace c26 := Bool.eq_false_iff.mpr c26
           subst c26;rw [if_neg (show¬(false=true) by decide)] at H;by_cases c27:0≤x10_1
           ·rw [if_pos c27] at H
            have c27b0:decide (0≤x10_1)=true:=decide_eq_true c27
            clear c27;by_cases c28:x10_1<(t278.length:Int)
            ·rw [if_pos c28] at H
             have c28b0:decide (x10_1<(t278.length:Int))=true:=decide_eq_true c28
             clear c28;obtain ⟨bq29,hbq29⟩: ∃b_:Bool,b_=(rdOf false t278 x10_1):=⟨_,rfl⟩;replace H:(if bq29=true then (if a3≥a1_1 then ((spec_l6In.f (rd l1_0 (ji14)) 1 a1_1).bind fun t290=>(if t290=true then (if 0≤(wrap64 (Int.tdiv (wrap64 ((wrap64 (a3+x10_1)) - a1_1)) 4)) then (if (wrap64 (Int.tdiv (wrap64 ((wrap64 (a3+x10_1)) - a1_1)) 4))<(l1_4.length:Int) then (if (rdOf false l1_4 (wrap64 (Int.tdiv (wrap64 ((wrap64 (a3+x10_1)) - a1_1)) 4))=true) then (spec_l21Thing.l0 kj16 l2 a3 t278 (wrap64 (x10_1+1)) l1_0 a1_1 a1_2 a1_3 l1_4) else (some false)) else (none)) else (none)) else (spec_l21Thing.l0 kj16 l2 a3 t278 (wrap64 (x10_1+1)) l1_0 a1_1 a1_2 a1_3 l1_4))) else (spec_l21Thing.l0 kj16 l2 a3 t278 (wrap64 (x10_1+1)) l1_0 a1_1 a1_2 a1_3 l1_4)) else (spec_l21Thing.l0 kj16 l2 a3 t278 (wrap64 (x10_1+1)) l1_0 a1_1 a1_2 a1_3 l1_4))=some r:=by rw [←hbq29] at H;exact H
             have Nbq29:=aK hbq29;clear hbq29;by_cases c30:bq29=true
             ·subst c30
              rw [if_pos rfl] at H;by_cases c31:a3≥a1_1
              ·rw [if_pos c31] at H
               have c31b0:decide (a1_1≤a3)=true:=decide_eq_true c31
               clear c31;replace H:=Option.bind_eq_some_iff.mp H;obtain ⟨t290,A320,H⟩:=H;(try dsimp only at H);have A32:=aK A320;clear A320;by_cases c33:t290=true
               ·subst c33
                rw [if_pos rfl] at H;obtain ⟨ji34,hji34⟩: ∃j_:Int,(wrap64 (Int.tdiv (wrap64 ((wrap64 (a3+x10_1)) - a1_1)) 4))=j_:=⟨_,rfl⟩;replace H:(if 0≤(ji34) then (if (ji34)<(l1_4.length:Int) then (if (rdOf false l1_4 (ji34)=true) then (spec_l21Thing.l0 kj16 l2 a3 t278 (wrap64 (x10_1+1)) l1_0 a1_1 a1_2 a1_3 l1_4) else (some false)) else (none)) else (none))=some r:=by first|(rw [hji34] at H;exact H)|(simp only [hji34] at H ⊢;exact H)
                (try rw [hji34] at A32)
                have hji34w:(IntKind.i64.wrap (Int.tdiv (wrap64 ((wrap64 (a3+x10_1)) - a1_1)) 4))=ji34:=(i64_w _).trans hji34
                (try rw [hji14] at hji34w)
                by_cases c35:0≤(ji34)
                ·rw [if_pos c35] at H
                 have c35b0:decide (0≤(ji34))=true:=decide_eq_true c35
                 clear c35;by_cases c36:(ji34)<(l1_4.length:Int)
                 ·rw [if_pos c36] at H
                  have c36b0:decide ((ji34)<(l1_4.length:Int))=true:=decide_eq_true c36
                  clear c36;obtain ⟨bq37,hbq37⟩: ∃b_:Bool,b_=(rdOf false l1_4 (ji34)):=⟨_,rfl⟩;replace H:(if (bq37=true) then (spec_l21Thing.l0 kj16 l2 a3 t278 (wrap64 (x10_1+1)) l1_0 a1_1 a1_2 a1_3 l1_4) else (some false))=some r:=by rw [←hbq37] at H;exact H
                  have Nbq37:=aK hbq37;clear hbq37;by_cases c38:(bq37=true)
                  ·subst c38
                   rw [if_pos rfl] at H;have H':=aK H;clear H;have p289:0≤(x10_1:Int):=of_decide_eq_true zz3
                   have q289:x10_1<(t278.length:Int):=of_decide_eq_true zz3
                   obtain ⟨ad289,e289,hx289_0⟩:=Kd.at_bool (Kd.R_reads' HO_9.out).2.2 x10_1 p289 q289
                   (try rw [←Nbq29.out] at hx289_0)
                   (try rw [←Nbq37.out] at hx289_0)
                   cases e289
                   replace p289:=eq_true p289;replace q289:=eq_true q289;obtain ⟨hcz39_0,hcz39_1,hcz39_2,hcz39_3,hcz39_4,hfz39_0,hfz39_1,hfz39_2,hfz39_3,hfz39_4⟩:=cbf5 BK277
                   go_wp2_with (first|(go_at_call 79;(with_reducible refine (spec_l6In.calls (rd l1_0 (ji14)) 1 a1_1 true _ A32.out).mono ?_);rintro e w' ⟨rfl,⟨nd,rfl⟩⟩;have p291:0≤((ji34):Int):=of_decide_eq_true zz3;have q291:(ji34)<(l1_4.length:Int):=of_decide_eq_true zz3;obtain ⟨ad291,e291,hx291_0⟩:=Kd.at_bool HR1_4.out (ji34) p291 q291;(try rw [←Nbq29.out] at hx291_0);(try rw [←Nbq37.out] at hx291_0);cases e291;replace hx291_0:=(HB.out.cell (World.block_lt_of_cell? w _ hx291_0)).trans hx291_0;replace p291:=eq_true p291;replace q291:=eq_true q291))
                   go_roundg kj16
                   case measure=>have:=HK1.out;have:=HJ16.out;omega
                   case rel=>exact ⟨(wrap64 (x10_1+1)),zz6,H',⟨by have:=HK1.out;have:=HJ16.out;omega⟩,⟨by (with_reducible repeat (first|apply Kd.R_alloc|apply Kd.R_drewN|apply Kd.R_drew));exact HO_9.out⟩,⟨by (with_reducible repeat (first|refine blk_drewN ?_ _|refine blk_drew ?_|refine blk_alloc ?_ _));exact BK277.out⟩,⟨by repeat (first|(with_reducible first|exact HB.out|apply below_alloc|apply pw_below_drewN|apply below_drew1|refine below_set ?_ GE277.out)|exact HB.out)⟩⟩
                  ·replace c38 := Bool.eq_false_iff.mpr c38
                   subst c38;rw [if_neg (show¬(false=true) by decide)] at H;obtain rfl:=Option.some.inj H;have p289:0≤(x10_1:Int):=of_decide_eq_true zz3
                   have q289:x10_1<(t278.length:Int):=of_decide_eq_true zz3
                   obtain ⟨ad289,e289,hx289_0⟩:=Kd.at_bool (Kd.R_reads' HO_9.out).2.2 x10_1 p289 q289
                   (try rw [←Nbq29.out] at hx289_0)
                   (try rw [←Nbq37.out] at hx289_0)
                   cases e289
                   replace p289:=eq_true p289;replace q289:=eq_true q289;obtain ⟨hcz40_0,hcz40_1,hcz40_2,hcz40_3,hcz40_4,hfz40_0,hfz40_1,hfz40_2,hfz40_3,hfz40_4⟩:=cbf5 BK277
                   go_wp2_with (first|(go_at_call 79;(with_reducible refine (spec_l6In.calls (rd l1_0 (ji14)) 1 a1_1 true _ A32.out).mono ?_);rintro e w' ⟨rfl,⟨nd,rfl⟩⟩;have p291:0≤((ji34):Int):=of_decide_eq_true zz3;have q291:(ji34)<(l1_4.length:Int):=of_decide_eq_true zz3;obtain ⟨ad291,e291,hx291_0⟩:=Kd.at_bool HR1_4.out (ji34) p291 q291;(try rw [←Nbq29.out] at hx291_0);(try rw [←Nbq37.out] at hx291_0);cases e291;replace hx291_0:=(HB.out.cell (World.block_lt_of_cell? w _ hx291_0)).trans hx291_0;replace p291:=eq_true p291;replace q291:=eq_true q291))
                   go_ret;exact ⟨(by first|rfl|(simp [errW_none,errW_some]<;>rfl)|(simp only [←hji14,←hji34];first|rfl|(simp [errW_none,errW_some]<;>rfl))|(simp [*,errW_none,errW_some]<;>rfl)),zz40⟩
                 ·rw [if_neg c36] at H
                  exact absurd H (by simp)
                ·rw [if_neg c35] at H
                 exact absurd H (by simp)
               ·replace c33 := Bool.eq_false_iff.mpr c33
                subst c33;rw [if_neg (show¬(false=true) by decide)] at H;have H':=aK H;clear H;have p289:0≤(x10_1:Int):=of_decide_eq_true zz3
                have q289:x10_1<(t278.length:Int):=of_decide_eq_true zz3
                obtain ⟨ad289,e289,hx289_0⟩:=Kd.at_bool (Kd.R_reads' HO_9.out).2.2 x10_1 p289 q289
                (try rw [←Nbq29.out] at hx289_0)
                cases e289
                replace p289:=eq_true p289;replace q289:=eq_true q289;obtain ⟨hcz41_0,hcz41_1,hcz41_2,hcz41_3,hcz41_4,hfz41_0,hfz41_1,hfz41_2,hfz41_3,hfz41_4⟩:=cbf5 BK277
                go_wp2_with (first|(go_at_call 79;(with_reducible refine (spec_l6In.calls (rd l1_0 (ji14)) 1 a1_1 false _ A32.out).mono ?_);rintro e w' ⟨rfl,⟨nd,rfl⟩⟩))
                go_roundg kj16
                case measure=>have:=HK1.out;have:=HJ16.out;omega
                case rel=>exact ⟨(wrap64 (x10_1+1)),zz6,H',⟨by have:=HK1.out;have:=HJ16.out;omega⟩,⟨by (with_reducible repeat (first|apply Kd.R_alloc|apply Kd.R_drewN|apply Kd.R_drew));exact HO_9.out⟩,⟨by (with_reducible repeat (first|refine blk_drewN ?_ _|refine blk_drew ?_|refine blk_alloc ?_ _));exact BK277.out⟩,⟨by repeat (first|(with_reducible first|exact HB.out|apply below_alloc|apply pw_below_drewN|apply below_drew1|refine below_set ?_ GE277.out)|exact HB.out)⟩⟩
              ·rw [if_neg c31] at H
               have c31b0:decide (a1_1≤a3)=false:=decide_eq_false c31
               clear c31;have H':=aK H;clear H;have p289:0≤(x10_1:Int):=of_decide_eq_true zz3
               have q289:x10_1<(t278.length:Int):=of_decide_eq_true zz3
               obtain ⟨ad289,e289,hx289_0⟩:=Kd.at_bool (Kd.R_reads' HO_9.out).2.2 x10_1 p289 q289
               (try rw [←Nbq29.out] at hx289_0)
               cases e289
               replace p289:=eq_true p289;replace q289:=eq_true q289;obtain ⟨hcz42_0,hcz42_1,hcz42_2,hcz42_3,hcz42_4,hfz42_0,hfz42_1,hfz42_2,hfz42_3,hfz42_4⟩:=cbf5 BK277;go_wp2
               go_roundg kj16
               case measure=>have:=HK1.out;have:=HJ16.out;omega
               case rel=>exact ⟨(wrap64 (x10_1+1)),zz6,H',⟨by have:=HK1.out;have:=HJ16.out;omega⟩,⟨by (with_reducible repeat (first|apply Kd.R_alloc|apply Kd.R_drewN|apply Kd.R_drew));exact HO_9.out⟩,⟨by (with_reducible repeat (first|refine blk_drewN ?_ _|refine blk_drew ?_|refine blk_alloc ?_ _));exact BK277.out⟩,⟨by repeat (first|(with_reducible first|exact HB.out|apply below_alloc|apply pw_below_drewN|apply below_drew1|refine below_set ?_ GE277.out)|exact HB.out)⟩⟩
             ·replace c30 := Bool.eq_false_iff.mpr c30
              subst c30;rw [if_neg (show¬(false=true) by decide)] at H;have H':=aK H;clear H;have p289:0≤(x10_1:Int):=of_decide_eq_true zz3
              have q289:x10_1<(t278.length:Int):=of_decide_eq_true zz3
              obtain ⟨ad289,e289,hx289_0⟩:=Kd.at_bool (Kd.R_reads' HO_9.out).2.2 x10_1 p289 q289
              (try rw [←Nbq29.out] at hx289_0)
              cases e289
              replace p289:=eq_true p289;replace q289:=eq_true q289;go_wp2
              go_roundg kj16
              case measure=>have:=HK1.out;have:=HJ16.out;omega
              case rel=>exact ⟨(wrap64 (x10_1+1)),zz6,H',⟨by have:=HK1.out;have:=HJ16.out;omega⟩,⟨by (with_reducible repeat (first|apply Kd.R_alloc|apply Kd.R_drewN|apply Kd.R_drew));exact HO_9.out⟩,⟨by (with_reducible repeat (first|refine blk_drewN ?_ _|refine blk_drew ?_|refine blk_alloc ?_ _));exact BK277.out⟩,⟨by repeat (first|(with_reducible first|exact HB.out|apply below_alloc|apply pw_below_drewN|apply below_drew1|refine below_set ?_ GE277.out)|exact HB.out)⟩⟩
            ·rw [if_neg c28] at H
             exact absurd H (by simp)
           ·rw [if_neg c27] at H
            exact absurd H (by simp)
       ·rw [if_neg c16] at H
        exact absurd H (by simp)
      ·rw [if_neg c15] at H
       exact absurd H (by simp)
     ·rw [if_neg c13] at H
      have c13b0:decide (x10_1<(t278.length:Int))=false:=decide_eq_false c13
      clear c13;obtain rfl:=Option.some.inj H;obtain ⟨Ao43,co43,eo43⟩:=Kd.R_slice HO_9.out;subst eo43;go_wp2;go_ret;exact ⟨zz7,zz40⟩
  ·rw [if_neg c7] at H
   exact absurd H (by simp)
 ·rw [if_neg c6] at H
  exact absurd H (by simp)
end Go.Proofs.Ytnlieahdakafbaa.K
namespace Go.Proofs.Ytnlieahdakafbaa.K
open Go.RowKit Go.Proofs.YtnlieahdakafbaaW.PrintWords Go.Proofs.YtnlieahdakafbaaW.PrintLast Go.Proofs.YtnlieahdakafbaaW.PrintMore
attribute [local go_sem] max2_int min2_int max_two min_two max_three min_three max_four min_four
set_option linter.unusedVariables false
set_option linter.unusedSimpArgs false
def spec_MemOk.l0:Nat→List (S112)→List Int→List Bool→Int→List Int→Int→Int→Int→List Bool→Option (Bool)
  |0,_,_,_,_,_,_,_,_,_=>none
  |k+1,x0,x5,x7,x8,x293000,x293001,x293002,x293003,x293004=>if x8<(x5.length:Int) then (if 0≤x8 then ((spec_l21Thing.f k x0 x293000 x293001 x293002 x293003 x293004 x7 (rd x5 x8)).bind fun t302=>(if t302=true then (spec_MemOk.l0 k x0 x5 x7 (wrap64 (x8+1)) x293000 x293001 x293002 x293003 x293004) else (some false))) else (none)) else (some true)
def spec_MemOk.f (k:Nat) (l0:List (S112)) (l1_0:List Int) (a1_1:Int) (a1_2:Int) (a1_3:Int) (l1_4:List Bool):Option (Bool):=(spec_l21Bounds.f k l0 l1_0 a1_1 a1_2 a1_3 l1_4).bind fun t293=>(if t293=true then ((spec_l21Walk.f k l0 l1_0 a1_1 a1_2 a1_3 l1_4).bind fun bt294=>(if bt294.2=true then ((spec_l21Starts.f k (l1_0.length:Int) bt294.1).bind fun t298=>(spec_MemOk.l0 k l0 bt294.1 t298 0 l1_0 a1_1 a1_2 a1_3 l1_4)) else (some false))) else (some false))
def spec_MemOk.T10:Bool×List (List Nat×List Nat):=(true,[([],[]),([],[]),([],[]),([],[]),([],[]),([3,4],[3,4]),([5],[5]),([0,1,2,6],[0,1,2,6]),([7],[7])])
def spec_MemOk.B10:List Nat:=[0,0,0,0,0,24,56,127,255]
theorem spec_MemOk.tab10:rtab .any (opsOf Try.f14 10)=spec_MemOk.T10:=by kernel_rfl
theorem spec_MemOk.bits10:waitsOk spec_MemOk.T10.2 spec_MemOk.B10=true:=by kernel_rfl
set_option maxHeartbeats 8000000 in
set_option maxRecDepth 100000 in
theorem spec_MemOk.calls (k : Nat) (A0 : Option Addr) (c0 : Nat) (l0 : List (S112)) (A1_0 : Option Addr) (c1_0 : Nat) (l1_0 : List Int) (a1_1 : Int) (a1_2 : Int) (a1_3 : Int) (A1_4 : Option Addr) (c1_4 : Nat) (l1_4 : List Bool) (r : Bool) (w : World) (hr0 : Kd.C k112 w A0 l0.length l0) (hc0 : l0.length ≤ c0) (hr1_0 : Kd.C (Kd.int .i64) w A1_0 l1_0.length l1_0) (hc1_0 : l1_0.length ≤ c1_0) (hr1_4 : Kd.C Kd.bool w A1_4 l1_4.length l1_4) (hc1_4 : l1_4.length ≤ c1_4) (h : spec_MemOk.f k l0 l1_0 a1_1 a1_2 a1_3 l1_4 = some r) :
  Calls Try.prog 14 #[.slice A0 l0.length c0,.agg #[.slice A1_0 l1_0.length c1_0,.int .i64 a1_1,.int .i64 a1_2,.int .i64 a1_3,.slice A1_4 l1_4.length c1_4]] w fun e w'=>e= .returned (.bool r)∧Below w.heap.size w w':=by
 have hu27:=Try.underlying27;have HR0:=aK hr0;have HC0:=aK hc0;clear hr0 hc0;have HR1_0:=aK hr1_0;have HC1_0:=aK hc1_0;clear hr1_0 hc1_0;have HR1_4:=aK hr1_4;have HC1_4:=aK hc1_4;clear hr1_4 hc1_4;have HB:=aK (Below.refl w.heap.size w);have H:((spec_l21Bounds.f k l0 l1_0 a1_1 a1_2 a1_3 l1_4).bind fun t293=>(if t293=true then ((spec_l21Walk.f k l0 l1_0 a1_1 a1_2 a1_3 l1_4).bind fun bt294=>(if bt294.2=true then ((spec_l21Starts.f k (l1_0.length:Int) bt294.1).bind fun t298=>(spec_MemOk.l0 k l0 bt294.1 t298 0 l1_0 a1_1 a1_2 a1_3 l1_4)) else (some false))) else (some false)))=some r:=h
 clear h;replace H:=Option.bind_eq_some_iff.mp H;obtain ⟨t293,A30,H⟩:=H;(try dsimp only at H);have A3:=aK A30;clear A30;by_cases c4:t293=true
 ·subst c4
  rw [if_pos rfl] at H;replace H:=Option.bind_eq_some_iff.mp H;obtain ⟨⟨t294,t297⟩,A50,H⟩:=H;(try dsimp only at H);have A5:=aK A50;clear A50;by_cases c6:t297=true
  ·subst c6
   rw [if_pos rfl] at H;replace H:=Option.bind_eq_some_iff.mp H;obtain ⟨t298,A70,H⟩:=H;(try dsimp only at H);have A7:=aK A70;clear A70;have H':=aK H;clear H;go_enter Try.func14,Try.ntmps14
   go_wp2_with (first|((with_reducible refine gate_dst (N:=3) rfl ?_);refine box_event ?hg (N:=3) ?hd (cs:= #[.slice A1_0 l1_0.length c1_0,.int .i64 a1_1,.int .i64 a1_2,.int .i64 a1_3,.slice A1_4 l1_4.length c1_4]) (t:=27) ?hr ?_;(case hd=>rfl);(case hg=>rfl);(case hr=>first|(go_simp;done)|(go_simp;rfl));intro gb292 hg w8 hbox hb;have BK292:=aK (hbox);have GW292:=aK ((by rw [hg];exact (below_size zz1):w.heap.size≤gb292));have GE292:=aK ((by rw [hg];exact (below_size zz1):w.heap.size≤gb292));replace HB:=aK (below_step zz1 hb);clear hb hbox hg;obtain ⟨hcz9_0,hcz9_1,hcz9_2,hcz9_3,hcz9_4,hfz9_0,hfz9_1,hfz9_2,hfz9_3,hfz9_4⟩:=cbf5 BK292)|((with_reducible refine gate_callee (f:=46) rfl ?_);refine goesL_ (some 11) rfl rfl Try.func46 (by kernel_rfl) rfl #[.slice A0 l0.length c0,.agg #[.slice A1_0 l1_0.length c1_0,.int .i64 a1_1,.int .i64 a1_2,.int .i64 a1_3,.slice A1_4 l1_4.length c1_4]] rfl zz2 ?_;(with_reducible refine (spec_l21Bounds.calls k _ _ l0 _ _ l1_0 a1_1 a1_2 a1_3 _ _ l1_4 true _ ?side1 ?side2 ?side3 ?side4 ?side5 ?side6 A3.out).mono ?_);(case side1=>exact zz5);(case side2=>exact HC0.out);(case side3=>exact zz10);(case side4=>exact HC1_0.out);(case side5=>exact zz13);(case side6=>exact HC1_4.out);rintro e w10 ⟨rfl,hb⟩;refine ⟨_,rfl,?_⟩;replace BK292:=aK (blk_below (g:=gb292) (o:= .cells #[.slice A1_0 l1_0.length c1_0,.int .i64 a1_1,.int .i64 a1_2,.int .i64 a1_3,.slice A1_4 l1_4.length c1_4] 27 (0,0)) zz35 hb);replace HB:=aK (below_step zz11 hb);(try clear hb);(try clear hb2);(try clear hk);(try clear hi);obtain ⟨hcz11_0,hcz11_1,hcz11_2,hcz11_3,hcz11_4,hfz11_0,hfz11_1,hfz11_2,hfz11_3,hfz11_4⟩:=cbf5 BK292)|((with_reducible refine gate_callee (f:=40) rfl ?_);refine goesL_ (some 16) rfl rfl Try.func40 (by kernel_rfl) rfl #[.slice A0 l0.length c0,.agg #[.slice A1_0 l1_0.length c1_0,.int .i64 a1_1,.int .i64 a1_2,.int .i64 a1_3,.slice A1_4 l1_4.length c1_4]] rfl zz2 ?_;(with_reducible refine (spec_l21Walk.calls k _ _ l0 _ _ l1_0 a1_1 a1_2 a1_3 _ _ l1_4 t294 true _ ?side1 ?side2 ?side3 ?side4 ?side5 ?side6 A5.out).mono ?_);(case side1=>exact zz5);(case side2=>exact HC0.out);(case side3=>exact zz10);(case side4=>exact HC1_0.out);(case side5=>exact zz13);(case side6=>exact HC1_4.out);rintro e w12 ⟨v295,rfl,ho0,hb⟩;refine ⟨_,rfl,?_⟩;have HO296:=aK (Kd.R_lower ho0 (below_size zz11));replace BK292:=aK (blk_below (g:=gb292) (o:= .cells #[.slice A1_0 l1_0.length c1_0,.int .i64 a1_1,.int .i64 a1_2,.int .i64 a1_3,.slice A1_4 l1_4.length c1_4] 27 (0,0)) zz35 hb);replace HB:=aK (below_step zz11 hb);(try clear hb);(try clear hb2);(try clear hk);(try clear hi);(try clear ho0);obtain ⟨hcz13_0,hcz13_1,hcz13_2,hcz13_3,hcz13_4,hfz13_0,hfz13_1,hfz13_2,hfz13_3,hfz13_4⟩:=cbf5 BK292;obtain ⟨Ao14,co14,eo14⟩:=Kd.R_slice HO296.out;subst eo14)|((with_reducible refine gate_callee (f:=42) rfl ?_);refine goesL_ (some 25) rfl rfl Try.func42 (by kernel_rfl) rfl #[.int .i64 (l1_0.length:Int),.slice Ao14 t294.length co14] rfl zz2 ?_;(with_reducible refine (spec_l21Starts.calls k (l1_0.length:Int) _ _ t294 t298 _ ?side1 ?side2 A7.out).mono ?_);(case side1=>exact (by repeat (first|exact (Kd.R_reads' HO296.out).2.2|(with_reducible refine Kd.C_alloc ?_ _)|(with_reducible refine Kd.C_drewN ?_ _)|(with_reducible refine Kd.C_drew ?_))));(case side2=>exact (Kd.R_reads' HO296.out).2.1);rintro e w15 ⟨v299,rfl,ho0,hb⟩;refine ⟨_,rfl,?_⟩;have HO300:=aK (Kd.R_lower ho0 (below_size zz11));replace HO296:=aK (Kd.R_below (by (with_reducible repeat (first|apply Kd.R_alloc|apply Kd.R_drewN|apply Kd.R_drew));exact HO296.out) hb);replace BK292:=aK (blk_below (g:=gb292) (o:= .cells #[.slice A1_0 l1_0.length c1_0,.int .i64 a1_1,.int .i64 a1_2,.int .i64 a1_3,.slice A1_4 l1_4.length c1_4] 27 (0,0)) zz35 hb);replace HB:=aK (below_step zz11 hb);(try clear hb);(try clear hb2);(try clear hk);(try clear hi);(try clear ho0)))
   go_loopg [8] k (fun kq v8 w'=> ∃(x8_1:Int),v8= .int .i64 x8_1∧Aside0 (spec_MemOk.l0 kq l0 t294 t298 x8_1 l1_0 a1_1 a1_2 a1_3 l1_4=some r)∧Aside0 (kq≤k)∧Aside0 (Kd.R (Kd.int .i64) 3 w' w.heap.size (fun _=>True) (.slice Ao14 t294.length co14) t294)∧Aside0 (Kd.R Kd.bool 4 w' w.heap.size (fun _=>True) v299 t298)∧Aside0 (w'.heap[gb292]? =some (.cells #[(.slice A1_0 l1_0.length c1_0),.int .i64 a1_1,.int .i64 a1_2,.int .i64 a1_3,(.slice A1_4 l1_4.length c1_4)] 27 (0,0)))∧Aside0 (Below w.heap.size w w'))
   case atStart=>exact ⟨(0),zz6,H',⟨Nat.le_refl _⟩,⟨by (with_reducible repeat (first|apply Kd.R_alloc|apply Kd.R_drewN|apply Kd.R_drew));exact HO296.out⟩,⟨by (with_reducible repeat (first|apply Kd.R_alloc|apply Kd.R_drewN|apply Kd.R_drew));exact HO300.out⟩,⟨by (with_reducible repeat (first|refine blk_drewN ?_ _|refine blk_drew ?_|refine blk_alloc ?_ _));exact BK292.out⟩,⟨by repeat (first|(with_reducible first|exact HB.out|apply below_alloc|apply pw_below_drewN|apply below_drew1|refine below_set ?_ GE292.out)|exact HB.out)⟩⟩
   case round =>
    clear H';(try clear c1);(try clear p2);(try clear c4);(try clear c6);(try clear c14);(try clear hcz11_0);(try clear hcz11_1);(try clear hcz11_2);(try clear hcz11_3);(try clear hcz11_4);(try clear hcz13_0);(try clear hcz13_1);(try clear hcz13_2);(try clear hcz13_3);(try clear hcz13_4);(try clear hcz9_0);(try clear hcz9_1);(try clear hcz9_2);(try clear hcz9_3);(try clear hcz9_4);(try clear hfz11_0);(try clear hfz11_1);(try clear hfz11_2);(try clear hfz11_3);(try clear hfz11_4);(try clear hfz13_0);(try clear hfz13_1);(try clear hfz13_2);(try clear hfz13_3);(try clear hfz13_4);(try clear hfz9_0);(try clear hfz9_1);(try clear hfz9_2);(try clear hfz9_3);(try clear hfz9_4);obtain ⟨x8_1,rfl,HA,HK1,HO_5,HO_7,BK292,HB⟩:=hrel
    cases gk with
    |zero=>exact absurd HA.out (by simp [spec_MemOk.l0])
    | succ k1 =>
     have H:=HA.out;clear HA;simp only [spec_MemOk.l0] at H;by_cases c16:x8_1<(t294.length:Int)
     ·rw [if_pos c16] at H
      have c16b0:decide (x8_1<(t294.length:Int))=true:=decide_eq_true c16
      clear c16;by_cases c17:0≤x8_1
      ·rw [if_pos c17] at H
       have c17b0:decide (0≤x8_1)=true:=decide_eq_true c17
       clear c17;replace H:=Option.bind_eq_some_iff.mp H;obtain ⟨t302,A180,H⟩:=H;(try dsimp only at H);have A18:=aK A180;clear A180;by_cases c19:t302=true
       ·subst c19
        rw [if_pos rfl] at H;have H':=aK H;clear H;try go_wp2
        have n0_:=aK (Kd.R_drew HO_5.out);have n1_:=aK (Kd.R_drew HO_7.out);have n2_:=aK (blk_drew BK292.out);have n3_:=aK (below_drew1 HB.out);clear HO_5;clear HO_7;clear BK292;clear HB;have HO_5:=n0_;have HO_7:=n1_;have BK292:=n2_;have HB:=n3_;clear n0_ n1_ n2_ n3_;have p301:0≤(x8_1:Int):=of_decide_eq_true zz3
        have q301:x8_1<(t294.length:Int):=of_decide_eq_true zz3
        obtain ⟨ad301,e301,hx301_0⟩:=Kd.at_int (Kd.R_reads' HO_5.out).2.2 x8_1 p301 q301
        cases e301
        replace p301:=eq_true p301;replace q301:=eq_true q301;obtain ⟨Ao21,co21,eo21⟩:=Kd.R_slice HO_7.out
        (first|subst eo21|(injection eo21 with f1_ f2_ f3_;have f4_:=f1_.symm;have f5_:=f3_.symm;clear f1_ f2_ f3_;subst f4_;subst f5_))
        refine sT 9 (S:=fun w'=>w'.cell? ⟨gb292,0,none⟩=some (.slice A1_0 l1_0.length c1_0)∧w'.cell? ⟨gb292,1,none⟩=some (.int .i64 a1_1)∧w'.cell? ⟨gb292,2,none⟩=some (.int .i64 a1_2)∧w'.cell? ⟨gb292,3,none⟩=some (.int .i64 a1_3)∧w'.cell? ⟨gb292,4,none⟩=some (.slice A1_4 l1_4.length c1_4)∧w'.cell? (ad301.add (x8_1).toNat)=some (.int .i64 (rd t294 x8_1))) (ds:=[]) ⟨(blk_cell BK292.out 0).trans rfl,(blk_cell BK292.out 1).trans rfl,(blk_cell BK292.out 2).trans rfl,(blk_cell BK292.out 3).trans rfl,(blk_cell BK292.out 4).trans rfl,hx301_0⟩ (fun hHeld=>?_);refine with_tabW spec_MemOk.tab10 spec_MemOk.bits10 (fun HT_ HW_=>?_);generalize wr.drew=w20 at HO_5 HO_7 BK292 HB hx301_0 hHeld ⊢;refine pT 0 32 #[true,false,false,false,false,false,false,false,false] HT_ ?_;refine pT 2 34 #[true,false,true,false,false,false,false,false,false] HT_ ?_;refine pT 3 35 #[true,false,true,true,false,false,false,false,false] HT_ ?_;refine pT 4 36 #[true,false,true,true,true,false,false,false,false] HT_ ?_;refine pT 5 37 #[true,false,true,true,true,true,false,false,false] HT_ ?_;refine tS 1 33 #[true,true,true,true,true,true,false,false,false] rfl rfl (take_ofW HT_.out HW_.out (by kernel_rfl)) hHeld zz4 ?_;refine tS 6 38 #[true,true,true,true,true,true,true,false,false] rfl rfl (take_ofW HT_.out HW_.out (by kernel_rfl)) hHeld zz4 ?_;refine one_ (i:=7) (N:=some 39) #[true,true,true,true,true,true,true,true,false] rfl rfl (one_of HT_.out (by kernel_rfl)) (by decide) (fun K hK=>?_);refine goes_ Try.func47 (by kernel_rfl) rfl #[.slice A0 l0.length c0,.agg #[.slice A1_0 l1_0.length c1_0,.int .i64 a1_1,.int .i64 a1_2,.int .i64 a1_3,.slice A1_4 l1_4.length c1_4],.slice Ao21 t298.length co21,.int .i64 (rd t294 x8_1)] (by rfl) rfl rfl zz2 ?_;(with_reducible refine (spec_l21Thing.calls k1 _ _ l0 _ _ l1_0 a1_1 a1_2 a1_3 _ _ l1_4 _ _ t298 (rd t294 x8_1) true _ ?side1 ?side2 ?side3 ?side4 ?side5 ?side6 ?side7 ?side8 A18.out).mono ?_)
        (case side1=>exact zz5)
        (case side2=>exact HC0.out)
        (case side3=>exact zz10)
        (case side4=>exact HC1_0.out)
        (case side5=>exact zz13)
        (case side6=>exact HC1_4.out)
        (case side7=>exact zz58)
        (case side8=>exact (Kd.R_reads' HO_7.out).2.1)
        rintro e w22 ⟨rfl,hb⟩;have HS5_:=(hb.cell (World.block_lt_of_cell? _ _ (hHeld.2.2.2.2.2))).trans (hHeld.2.2.2.2.2);refine ⟨_,rfl,?_⟩;have n0_:=aK (Kd.R_below (by (with_reducible repeat (first|apply Kd.R_alloc|apply Kd.R_drewN|apply Kd.R_drew));exact HO_5.out) hb);have n1_:=aK (Kd.R_below zz52 hb);have n2_:=aK (blk_below (g:=gb292) (o:= .cells #[.slice A1_0 l1_0.length c1_0,.int .i64 a1_1,.int .i64 a1_2,.int .i64 a1_3,.slice A1_4 l1_4.length c1_4] 27 (0,0)) zz35 hb);have n3_:=aK (below_step zz11 hb);clear HO_5;clear HO_7;clear BK292;clear HB;have HO_5:=n0_;have HO_7:=n1_;have BK292:=n2_;have HB:=n3_;clear n0_ n1_ n2_ n3_;(try clear hb);(try clear hb2);(try clear hk);(try clear hi);refine hK.out _ _ ⟨(blk_cell BK292.out 0).trans rfl,(blk_cell BK292.out 1).trans rfl,(blk_cell BK292.out 2).trans rfl,(blk_cell BK292.out 3).trans rfl,(blk_cell BK292.out 4).trans rfl,HS5_⟩ (fun hHeld=>?_);clear hK K;refine nS 39 ?_;refine pT 8 40 #[true,true,true,true,true,true,true,true,true] HT_ ?_;refine done_ (done_of HT_.out (by kernel_rfl)) ?_;try go_wp2
        go_roundg k1
        case measure=>have:=HK1.out;omega
        case rel=>exact ⟨(wrap64 (x8_1+1)),zz6,H',⟨by have:=HK1.out;omega⟩,⟨by (with_reducible repeat (first|apply Kd.R_alloc|apply Kd.R_drewN|apply Kd.R_drew));exact HO_5.out⟩,⟨by (with_reducible repeat (first|apply Kd.R_alloc|apply Kd.R_drewN|apply Kd.R_drew));exact HO_7.out⟩,⟨by (with_reducible repeat (first|refine blk_drewN ?_ _|refine blk_drew ?_|refine blk_alloc ?_ _));exact BK292.out⟩,⟨by repeat (first|(with_reducible first|exact HB.out|apply below_alloc|apply pw_below_drewN|apply below_drew1|refine below_set ?_ GE292.out)|exact HB.out)⟩⟩
       ·replace c19 := Bool.eq_false_iff.mpr c19
        subst c19;rw [if_neg (show¬(false=true) by decide)] at H;obtain rfl:=Option.some.inj H;try go_wp2
        have n0_:=aK (Kd.R_drew HO_5.out);have n1_:=aK (Kd.R_drew HO_7.out);have n2_:=aK (blk_drew BK292.out);have n3_:=aK (below_drew1 HB.out);clear HO_5;clear HO_7;clear BK292;clear HB;have HO_5:=n0_;have HO_7:=n1_;have BK292:=n2_;have HB:=n3_;clear n0_ n1_ n2_ n3_;have p301:0≤(x8_1:Int):=of_decide_eq_true zz3
        have q301:x8_1<(t294.length:Int):=of_decide_eq_true zz3
        obtain ⟨ad301,e301,hx301_0⟩:=Kd.at_int (Kd.R_reads' HO_5.out).2.2 x8_1 p301 q301
        cases e301
        replace p301:=eq_true p301;replace q301:=eq_true q301;obtain ⟨Ao24,co24,eo24⟩:=Kd.R_slice HO_7.out
        (first|subst eo24|(injection eo24 with f1_ f2_ f3_;have f4_:=f1_.symm;have f5_:=f3_.symm;clear f1_ f2_ f3_;subst f4_;subst f5_))
        refine sT 9 (S:=fun w'=>w'.cell? ⟨gb292,0,none⟩=some (.slice A1_0 l1_0.length c1_0)∧w'.cell? ⟨gb292,1,none⟩=some (.int .i64 a1_1)∧w'.cell? ⟨gb292,2,none⟩=some (.int .i64 a1_2)∧w'.cell? ⟨gb292,3,none⟩=some (.int .i64 a1_3)∧w'.cell? ⟨gb292,4,none⟩=some (.slice A1_4 l1_4.length c1_4)∧w'.cell? (ad301.add (x8_1).toNat)=some (.int .i64 (rd t294 x8_1))) (ds:=[]) ⟨(blk_cell BK292.out 0).trans rfl,(blk_cell BK292.out 1).trans rfl,(blk_cell BK292.out 2).trans rfl,(blk_cell BK292.out 3).trans rfl,(blk_cell BK292.out 4).trans rfl,hx301_0⟩ (fun hHeld=>?_);refine with_tabW spec_MemOk.tab10 spec_MemOk.bits10 (fun HT_ HW_=>?_);generalize wr.drew=w23 at HO_5 HO_7 BK292 HB hx301_0 hHeld ⊢;refine pT 0 32 #[true,false,false,false,false,false,false,false,false] HT_ ?_;refine pT 2 34 #[true,false,true,false,false,false,false,false,false] HT_ ?_;refine pT 3 35 #[true,false,true,true,false,false,false,false,false] HT_ ?_;refine pT 4 36 #[true,false,true,true,true,false,false,false,false] HT_ ?_;refine pT 5 37 #[true,false,true,true,true,true,false,false,false] HT_ ?_;refine tS 1 33 #[true,true,true,true,true,true,false,false,false] rfl rfl (take_ofW HT_.out HW_.out (by kernel_rfl)) hHeld zz4 ?_;refine tS 6 38 #[true,true,true,true,true,true,true,false,false] rfl rfl (take_ofW HT_.out HW_.out (by kernel_rfl)) hHeld zz4 ?_;refine one_ (i:=7) (N:=some 39) #[true,true,true,true,true,true,true,true,false] rfl rfl (one_of HT_.out (by kernel_rfl)) (by decide) (fun K hK=>?_);refine goes_ Try.func47 (by kernel_rfl) rfl #[.slice A0 l0.length c0,.agg #[.slice A1_0 l1_0.length c1_0,.int .i64 a1_1,.int .i64 a1_2,.int .i64 a1_3,.slice A1_4 l1_4.length c1_4],.slice Ao24 t298.length co24,.int .i64 (rd t294 x8_1)] (by rfl) rfl rfl zz2 ?_;(with_reducible refine (spec_l21Thing.calls k1 _ _ l0 _ _ l1_0 a1_1 a1_2 a1_3 _ _ l1_4 _ _ t298 (rd t294 x8_1) false _ ?side1 ?side2 ?side3 ?side4 ?side5 ?side6 ?side7 ?side8 A18.out).mono ?_)
        (case side1=>exact zz5)
        (case side2=>exact HC0.out)
        (case side3=>exact zz10)
        (case side4=>exact HC1_0.out)
        (case side5=>exact zz13)
        (case side6=>exact HC1_4.out)
        (case side7=>exact zz58)
        (case side8=>exact (Kd.R_reads' HO_7.out).2.1)
        rintro e w25 ⟨rfl,hb⟩;have HS5_:=(hb.cell (World.block_lt_of_cell? _ _ (hHeld.2.2.2.2.2))).trans (hHeld.2.2.2.2.2);refine ⟨_,rfl,?_⟩;have n0_:=aK (Kd.R_below (by (with_reducible repeat (first|apply Kd.R_alloc|apply Kd.R_drewN|apply Kd.R_drew));exact HO_5.out) hb);have n1_:=aK (Kd.R_below zz52 hb);have n2_:=aK (blk_below (g:=gb292) (o:= .cells #[.slice A1_0 l1_0.length c1_0,.int .i64 a1_1,.int .i64 a1_2,.int .i64 a1_3,.slice A1_4 l1_4.length c1_4] 27 (0,0)) zz35 hb);have n3_:=aK (below_step zz11 hb);clear HO_5;clear HO_7;clear BK292;clear HB;have HO_5:=n0_;have HO_7:=n1_;have BK292:=n2_;have HB:=n3_;clear n0_ n1_ n2_ n3_;(try clear hb);(try clear hb2);(try clear hk);(try clear hi);refine hK.out _ _ ⟨(blk_cell BK292.out 0).trans rfl,(blk_cell BK292.out 1).trans rfl,(blk_cell BK292.out 2).trans rfl,(blk_cell BK292.out 3).trans rfl,(blk_cell BK292.out 4).trans rfl,HS5_⟩ (fun hHeld=>?_);clear hK K;refine nS 39 ?_;refine pT 8 40 #[true,true,true,true,true,true,true,true,true] HT_ ?_;refine done_ (done_of HT_.out (by kernel_rfl)) ?_;try go_wp2
        go_ret;exact ⟨zz7,zz11⟩
      ·rw [if_neg c17] at H
       exact absurd H (by simp)
     ·rw [if_neg c16] at H
      have c16b0:decide (x8_1<(t294.length:Int))=false:=decide_eq_false c16
      clear c16;obtain rfl:=Option.some.inj H;go_wp2;go_ret;exact ⟨zz7,zz11⟩
  ·replace c6 := Bool.eq_false_iff.mpr c6
   subst c6;rw [if_neg (show¬(false=true) by decide)] at H;obtain rfl:=Option.some.inj H;go_enter Try.func14,Try.ntmps14
   go_wp2_with (first|((with_reducible refine gate_dst (N:=3) rfl ?_);refine box_event ?hg (N:=3) ?hd (cs:= #[.slice A1_0 l1_0.length c1_0,.int .i64 a1_1,.int .i64 a1_2,.int .i64 a1_3,.slice A1_4 l1_4.length c1_4]) (t:=27) ?hr ?_;(case hd=>rfl);(case hg=>rfl);(case hr=>first|(go_simp;done)|(go_simp;rfl));intro gb292 hg w26 hbox hb;have BK292:=aK (hbox);have GW292:=aK ((by rw [hg];exact (below_size zz1):w.heap.size≤gb292));have GE292:=aK ((by rw [hg];exact (below_size zz1):w.heap.size≤gb292));replace HB:=aK (below_step zz1 hb);clear hb hbox hg;obtain ⟨hcz27_0,hcz27_1,hcz27_2,hcz27_3,hcz27_4,hfz27_0,hfz27_1,hfz27_2,hfz27_3,hfz27_4⟩:=cbf5 BK292)|((with_reducible refine gate_callee (f:=46) rfl ?_);refine goesL_ (some 11) rfl rfl Try.func46 (by kernel_rfl) rfl #[.slice A0 l0.length c0,.agg #[.slice A1_0 l1_0.length c1_0,.int .i64 a1_1,.int .i64 a1_2,.int .i64 a1_3,.slice A1_4 l1_4.length c1_4]] rfl zz2 ?_;(with_reducible refine (spec_l21Bounds.calls k _ _ l0 _ _ l1_0 a1_1 a1_2 a1_3 _ _ l1_4 true _ ?side1 ?side2 ?side3 ?side4 ?side5 ?side6 A3.out).mono ?_);(case side1=>exact zz5);(case side2=>exact HC0.out);(case side3=>exact zz10);(case side4=>exact HC1_0.out);(case side5=>exact zz13);(case side6=>exact HC1_4.out);rintro e w28 ⟨rfl,hb⟩;refine ⟨_,rfl,?_⟩;replace BK292:=aK (blk_below (g:=gb292) (o:= .cells #[.slice A1_0 l1_0.length c1_0,.int .i64 a1_1,.int .i64 a1_2,.int .i64 a1_3,.slice A1_4 l1_4.length c1_4] 27 (0,0)) zz35 hb);replace HB:=aK (below_step zz11 hb);(try clear hb);(try clear hb2);(try clear hk);(try clear hi);obtain ⟨hcz29_0,hcz29_1,hcz29_2,hcz29_3,hcz29_4,hfz29_0,hfz29_1,hfz29_2,hfz29_3,hfz29_4⟩:=cbf5 BK292)|((with_reducible refine gate_callee (f:=40) rfl ?_);refine goesL_ (some 16) rfl rfl Try.func40 (by kernel_rfl) rfl #[.slice A0 l0.length c0,.agg #[.slice A1_0 l1_0.length c1_0,.int .i64 a1_1,.int .i64 a1_2,.int .i64 a1_3,.slice A1_4 l1_4.length c1_4]] rfl zz2 ?_;(with_reducible refine (spec_l21Walk.calls k _ _ l0 _ _ l1_0 a1_1 a1_2 a1_3 _ _ l1_4 t294 false _ ?side1 ?side2 ?side3 ?side4 ?side5 ?side6 A5.out).mono ?_);(case side1=>exact zz5);(case side2=>exact HC0.out);(case side3=>exact zz10);(case side4=>exact HC1_0.out);(case side5=>exact zz13);(case side6=>exact HC1_4.out);rintro e w30 ⟨v295,rfl,ho0,hb⟩;refine ⟨_,rfl,?_⟩;have HO296:=aK (Kd.R_lower ho0 (below_size zz11));replace BK292:=aK (blk_below (g:=gb292) (o:= .cells #[.slice A1_0 l1_0.length c1_0,.int .i64 a1_1,.int .i64 a1_2,.int .i64 a1_3,.slice A1_4 l1_4.length c1_4] 27 (0,0)) zz35 hb);replace HB:=aK (below_step zz11 hb);(try clear hb);(try clear hb2);(try clear hk);(try clear hi);(try clear ho0)))
   go_ret;exact ⟨zz7,zz11⟩
 ·replace c4 := Bool.eq_false_iff.mpr c4
  subst c4;rw [if_neg (show¬(false=true) by decide)] at H;obtain rfl:=Option.some.inj H;go_enter Try.func14,Try.ntmps14
  go_wp2_with (first|((with_reducible refine gate_dst (N:=3) rfl ?_);refine box_event ?hg (N:=3) ?hd (cs:= #[.slice A1_0 l1_0.length c1_0,.int .i64 a1_1,.int .i64 a1_2,.int .i64 a1_3,.slice A1_4 l1_4.length c1_4]) (t:=27) ?hr ?_;(case hd=>rfl);(case hg=>rfl);(case hr=>first|(go_simp;done)|(go_simp;rfl));intro gb292 hg w31 hbox hb;have BK292:=aK (hbox);have GW292:=aK ((by rw [hg];exact (below_size zz1):w.heap.size≤gb292));have GE292:=aK ((by rw [hg];exact (below_size zz1):w.heap.size≤gb292));replace HB:=aK (below_step zz1 hb);clear hb hbox hg;obtain ⟨hcz32_0,hcz32_1,hcz32_2,hcz32_3,hcz32_4,hfz32_0,hfz32_1,hfz32_2,hfz32_3,hfz32_4⟩:=cbf5 BK292)|((with_reducible refine gate_callee (f:=46) rfl ?_);refine goesL_ (some 11) rfl rfl Try.func46 (by kernel_rfl) rfl #[.slice A0 l0.length c0,.agg #[.slice A1_0 l1_0.length c1_0,.int .i64 a1_1,.int .i64 a1_2,.int .i64 a1_3,.slice A1_4 l1_4.length c1_4]] rfl zz2 ?_;(with_reducible refine (spec_l21Bounds.calls k _ _ l0 _ _ l1_0 a1_1 a1_2 a1_3 _ _ l1_4 false _ ?side1 ?side2 ?side3 ?side4 ?side5 ?side6 A3.out).mono ?_);(case side1=>exact zz5);(case side2=>exact HC0.out);(case side3=>exact zz10);(case side4=>exact HC1_0.out);(case side5=>exact zz13);(case side6=>exact HC1_4.out);rintro e w33 ⟨rfl,hb⟩;refine ⟨_,rfl,?_⟩;replace BK292:=aK (blk_below (g:=gb292) (o:= .cells #[.slice A1_0 l1_0.length c1_0,.int .i64 a1_1,.int .i64 a1_2,.int .i64 a1_3,.slice A1_4 l1_4.length c1_4] 27 (0,0)) zz35 hb);replace HB:=aK (below_step zz11 hb);(try clear hb);(try clear hb2);(try clear hk);(try clear hi)))
  go_ret;exact ⟨zz7,zz11⟩
end Go.Proofs.Ytnlieahdakafbaa.K
namespace Go.Proofs.Ytnlieahdakafbaa.K
open Go.RowKit Go.Proofs.YtnlieahdakafbaaW.PrintWords Go.Proofs.YtnlieahdakafbaaW.PrintLast Go.Proofs.YtnlieahdakafbaaW.PrintMore
attribute [local go_sem] max2_int min2_int max_two min_two max_three min_three max_four min_four
set_option linter.unusedVariables false
set_option linter.unusedSimpArgs false
structure Mm where
 words:List Int
 young:Int
 top:Int
 old:Int
 cards:List Bool
 fields:List (List Int)
 begins:List Int
def MV (w:World) (g:Nat) (m:Mm):Prop:= ∃AW cW AC cC AF cF AB cB,
 w.heap[g]? =some (.cells #[.slice AW m.words.length cW,.int .i64 m.young,.int .i64 m.top,.int .i64 m.old,.slice AC m.cards.length cC,.slice AF m.fields.length cF,.slice AB m.begins.length cB] 72 (0,0))∧
 Kd.C (Kd.int .i64) w AW m.words.length m.words∧Kd.C Kd.bool w AC m.cards.length m.cards∧Kd.C (Kd.slice 3 (Kd.int .i64)) w AF m.fields.length m.fields∧Kd.C (Kd.int .i64) w AB m.begins.length m.begins∧
 m.words.length≤cW∧m.cards.length≤cC∧m.fields.length≤cF∧m.begins.length≤cB
theorem MV_below {w w':World} {g:Nat} {m:Mm} (h:MV w g m) (hb:Below w.heap.size w w'):MV w' g m:=by
  obtain ⟨AW,cW,AC,cC,AF,cF,AB,cB,h0,h1,h2,h3,h4,h5⟩:=h;exact ⟨AW,cW,AC,cC,AF,cF,AB,cB,(hb.block g (blk_lt h0)).trans h0,Kd.C_below h1 hb,Kd.C_below h2 hb,Kd.C_below h3 hb,Kd.C_below h4 hb,h5⟩
def thV (g:Nat) (at_:Int):Value:= .agg #[.pointer (some ⟨g,0,none⟩),.int .i64 at_]
def thing_class.f (m:Mm) (at_:Int):Option Int:=if 1≤at_∧at_≤m.words.length∧m.words.length≤281474976710656 then some (rd m.words (at_ - 1)) else none
set_option maxHeartbeats 4000000 in
set_option maxRecDepth 100000 in
theorem thing_class.calls (g:Nat) (m:Mm) (at_ r:Int) (w:World) (hm:MV w g m) (h:thing_class.f m at_=some r):
  Calls Try.prog 85 #[thV g at_] w fun e w'=>e= .returned (.int .i64 r)∧Below w.heap.size w w':=by
 unfold thing_class.f at h
 split at h
 case isFalse=>simp at h
 case isTrue hb=>
 have HR:=aK (Option.some.inj h);clear h;obtain ⟨AW,cW,AC,cC,AF,cF,AB,cB,h0,h1,h2,h3,h4,h5⟩:=hm;have HG:=blk_lt h0;obtain ⟨j,hj⟩: ∃j,j=at_ - 1:=⟨_,rfl⟩;have q:IntKind.i64.wrap (at_ - 1)=j:=by rw [hj];exact IntWalk.i64_in _ ⟨by omega,by omega⟩
 have p1:=eq_true (show 0≤j by omega);have p2:=eq_true (show j<(m.words.length:Int) by omega);obtain ⟨ad,e0,hx⟩:=Kd.at_int h1 j (by omega) (by omega)
 cases e0
 have x0: ∀o,(w.alloc o).cell? (ad.add j.toNat)=some (.int .i64 (rd m.words j)):=fun o=>((below_alloc (Below.refl _ _) o).cell (World.block_lt_of_cell? w _ hx)).trans hx
 rw [←hj] at HR;have c0: ∀o,(w.alloc o).cell? ⟨g,0,none⟩=_:=fun o=>(blk_cell (blk_alloc h0 o) 0).trans rfl
 clear h1 h2 h3 h4 h5 hb hj;unfold thV;go_enter Try.func85,Try.ntmps85;go_wp2
 go_quiet (fail)
 go_wp2;go_ret;exact ⟨by rw [←HR.out];rfl,by repeat (first|exact Below.refl _ _|apply below_alloc|apply pw_below_drewN|(refine below_set ?_ (by simp)))⟩
theorem box_new {w w':World} {cs:Array Value} {t:TypeId} (hb:Below (w.alloc (.cells cs t (0,0))).heap.size (w.alloc (.cells cs t (0,0))) w'):w'.heap[w.heap.size]? =some (.cells cs t (0,0)):=(hb.block w.heap.size (blk_lt (blk_new w _))).trans (blk_new w _)
def rdL (xs:List (List Int)) (i:Int):List Int:=xs.getD i.toNat []
theorem at_rows {w:World} {A:Option Addr} {n:Nat} {xs:List (List Int)} (h:Kd.C (Kd.slice 3 (Kd.int .i64)) w A n xs) (i:Int) (h0:0≤i) (h1:i<n): ∃ad A1 c1,A=some ad∧w.cell? (ad.add i.toNat)=some (.slice A1 (rdL xs i).length c1)∧(rdL xs i).length≤c1∧Kd.C (Kd.int .i64) w A1 (rdL xs i).length (rdL xs i):=by
  obtain ⟨ad,c,e,_,⟨A1,c1,rfl,l1,g1⟩,hc⟩:=Kd.C_get h [] i h0 h1;exact ⟨ad,A1,c1,e,by have:=hc 0 _ rfl;rw [show i.toNat*(Kd.slice 3 (Kd.int .i64)).sz+0=i.toNat from by show i.toNat*1+0=_;omega] at this;exact this,l1,g1⟩
end Go.Proofs.Ytnlieahdakafbaa.K
namespace Go.Proofs.Ytnlieahdakafbaa.K
open Go.RowKit Go.Proofs.YtnlieahdakafbaaW.PrintWords Go.Proofs.YtnlieahdakafbaaW.PrintLast Go.Proofs.YtnlieahdakafbaaW.PrintMore
attribute [local go_sem] max2_int min2_int max_two min_two max_three min_three max_four min_four
set_option linter.unusedVariables false
set_option linter.unusedSimpArgs false
set_option maxHeartbeats 4000000 in
set_option maxRecDepth 100000 in
theorem memory_thing.calls (g:Nat) (at_:Int) (w:World):
  Calls Try.prog 54 #[.pointer (some ⟨g,0,none⟩),.int .i64 at_] w fun e w'=>e= .returned (thV g at_)∧Below w.heap.size w w':=by
 unfold thV;go_enter Try.func54,Try.ntmps54;go_wp2;refine bodyPost_ret (results_cell_row rfl _ _ w.heap.size 86 #[.pointer (some ⟨g,0,none⟩),.int .i64 at_] (0,0) _ rfl (blk_new _ _) Try.underlying86 rfl (by kernel_rfl)) rfl ?_;exact ⟨rfl,below_alloc (Below.refl _ _) _⟩
end Go.Proofs.Ytnlieahdakafbaa.K
namespace Go.Proofs.Ytnlieahdakafbaa.K
open Go.RowKit Go.Proofs.YtnlieahdakafbaaW.PrintWords Go.Proofs.YtnlieahdakafbaaW.PrintLast Go.Proofs.YtnlieahdakafbaaW.PrintMore
attribute [local go_sem] max2_int min2_int max_two min_two max_three min_three max_four min_four
set_option linter.unusedVariables false
set_option linter.unusedSimpArgs false
def kndV (t:Int):Value:=
 if t=0 then .iface 132 (.agg #[])
 else if t=1 then .iface 127 (.agg #[])
 else if t=2 then .iface 133 (.agg #[])
 else if t=3 then .iface 129 (.agg #[.bool false])
 else if t=4 then .iface 129 (.agg #[.bool true])
 else .iface 131 (.agg #[.int .i64 (t - 8)])
def kv (t:Int):Prop:=(0≤t∧t≤4)∨8≤t
def kOk (n t:Int):Bool:=decide ((0≤t∧t≤4)∨(8≤t∧t<8+n))
def kndO (n t:Int):Value:=if kOk n t=true then kndV t else .nilIface
theorem kv_cases {t:Int} (h:kv t):t=0∨t=1∨t=2∨t=3∨t=4∨8≤t:=by unfold kv at h;omega
theorem kndV_cls {t:Int} (h:8≤t):kndV t= .iface 131 (.agg #[.int .i64 (t - 8)]):=by
  unfold kndV;rw [if_neg (by omega),if_neg (by omega),if_neg (by omega),if_neg (by omega),if_neg (by omega)]
theorem kind_int {s:Int} (hs:kv s) (W:World):(Instr.typeAssert (kndV s) 124 127 true).run Try.prog W= .ok (.tuple #[.agg #[],.bool (decide (s=1))]) W:=by
 rcases kv_cases hs with rfl|rfl|rfl|rfl|rfl|hs
 all_goals first
  |(rw [kndV_cls hs,decide_eq_false (by omega)];kernel_rfl)
  |kernel_rfl
theorem kind_arr {s:Int} (hs:kv s) (W:World):(Instr.typeAssert (kndV s) 124 129 true).run Try.prog W= .ok (.tuple #[.agg #[.bool (decide (s=4))],.bool (decide (s=3∨s=4))]) W:=by
 rcases kv_cases hs with rfl|rfl|rfl|rfl|rfl|hs
 all_goals first
  |(rw [kndV_cls hs,decide_eq_false (p:=s=4) (by omega),decide_eq_false (by omega)];kernel_rfl)
  |kernel_rfl
def clsOf (t:Int):Int:=if 8≤t then t - 8 else 0
theorem kind_class {s:Int} (hs:kv s) (W:World):(Instr.typeAssert (kndV s) 124 131 true).run Try.prog W= .ok (.tuple #[.agg #[.int .i64 (clsOf s)],.bool (decide (8≤s))]) W:=by
 rcases kv_cases hs with rfl|rfl|rfl|rfl|rfl|hs
 all_goals first
  |(rw [kndV_cls hs,decide_eq_true hs,show clsOf s=s - 8 from if_pos hs];kernel_rfl)
  |kernel_rfl
theorem nil_int (W:World):(Instr.typeAssert .nilIface 124 127 true).run Try.prog W= .ok (.tuple #[.agg #[],.bool false]) W:=by kernel_rfl
theorem nil_arr (W:World):(Instr.typeAssert .nilIface 124 129 true).run Try.prog W= .ok (.tuple #[.agg #[.bool false],.bool false]) W:=by kernel_rfl
theorem nil_class (W:World):(Instr.typeAssert .nilIface 124 131 true).run Try.prog W= .ok (.tuple #[.agg #[.int .i64 0],.bool false]) W:=by kernel_rfl
set_option maxHeartbeats 2000000 in
theorem impl_kindOf.calls (a0 a1:Int) (w:World) (h0:0≤a0) (h1:a0≤281474976710656):
  Calls Try.prog 111 #[.int .i64 a0,.int .i64 a1] w fun e w'=>e= .returned (kndO a0 a1)∧Drawn0 w w':=by
 by_cases c0:a1=0
 ·subst c0
  have HF:=aK (show kndO a0 0=kndV 0 from if_pos (by simp [kOk]));go_enter Try.func111,Try.ntmps111;go_wp2;go_ret;exact ⟨by rw [HF.out];rfl,Drawn0.refl _⟩
 by_cases c1:a1=1
 ·subst c1
  have HF:=aK (show kndO a0 1=kndV 1 from if_pos (by simp [kOk]));go_enter Try.func111,Try.ntmps111;go_wp2;go_ret;exact ⟨by rw [HF.out];rfl,Drawn0.refl _⟩
 by_cases c2:a1=2
 ·subst c2
  have HF:=aK (show kndO a0 2=kndV 2 from if_pos (by simp [kOk]));go_enter Try.func111,Try.ntmps111;go_wp2;go_ret;exact ⟨by rw [HF.out];rfl,Drawn0.refl _⟩
 by_cases c3:a1=3
 ·subst c3
  have HF:=aK (show kndO a0 3=kndV 3 from if_pos (by simp [kOk]));go_enter Try.func111,Try.ntmps111;go_wp2;go_ret;exact ⟨by rw [HF.out];rfl,Drawn0.refl _⟩
 by_cases c4:a1=4
 ·subst c4
  have HF:=aK (show kndO a0 4=kndV 4 from if_pos (by simp [kOk]));go_enter Try.func111,Try.ntmps111;go_wp2;go_ret;exact ⟨by rw [HF.out];rfl,Drawn0.refl _⟩
 have d0:(a1==0)=false:=beq_eq_false_iff_ne.2 c0
 have d1:(a1==1)=false:=beq_eq_false_iff_ne.2 c1
 have d2:(a1==2)=false:=beq_eq_false_iff_ne.2 c2
 have d3:(a1==3)=false:=beq_eq_false_iff_ne.2 c3
 have d4:(a1==4)=false:=beq_eq_false_iff_ne.2 c4
 by_cases c5:8≤a1
 ·by_cases c6 : a1 < 8 + a0
  ·have HF := aK (show kndO a0 a1 = .iface 131 (.agg #[.int .i64 (a1 - 8)]) from (if_pos (by simp [kOk]; omega)).trans (kndV_cls c5))
   have d5:decide (8≤a1)=true:=decide_eq_true c5
   have d6:decide (a1<8+a0)=true:=decide_eq_true c6
   clear c0 c1 c2 c3 c4;go_enter Try.func111,Try.ntmps111;go_wp2;go_ret;exact ⟨by rw [HF.out];rfl,Drawn0.refl _⟩
  ·have HF := aK (show kndO a0 a1 = .nilIface from if_neg (by simp [kOk]; omega))
   have d5:decide (8≤a1)=true:=decide_eq_true c5
   have d6:decide (a1<8+a0)=false:=decide_eq_false c6
   clear c0 c1 c2 c3 c4;go_enter Try.func111,Try.ntmps111;go_wp2;go_ret;exact ⟨by rw [HF.out];rfl,Drawn0.refl _⟩
 ·have HF := aK (show kndO a0 a1 = .nilIface from if_neg (by simp [kOk]; omega))
  have d5:decide (8≤a1)=false:=decide_eq_false c5
  clear c0 c1 c2 c3 c4;go_enter Try.func111,Try.ntmps111;go_wp2;go_ret;exact ⟨by rw [HF.out];rfl,Drawn0.refl _⟩
def kOkF.f (n t:Int):Option Bool:=if 0≤n∧n≤281474976710656 then some (kOk n t) else none
end Go.Proofs.Ytnlieahdakafbaa.K
namespace Go.Proofs.Ytnlieahdakafbaa.K
open Go.RowKit Go.Proofs.YtnlieahdakafbaaW.PrintWords Go.Proofs.YtnlieahdakafbaaW.PrintLast Go.Proofs.YtnlieahdakafbaaW.PrintMore
attribute [local go_sem] max2_int min2_int max_two min_two max_three min_three max_four min_four
set_option linter.unusedVariables false
set_option linter.unusedSimpArgs false
def impl_fieldType.f (a0 a1:Int):Option Bool:=if 0≤a0∧a0≤281474976710656 then some (kOk a0 a1&&decide (a1=1∨a1=3∨a1=4∨8≤a1)) else none
set_option maxHeartbeats 2000000 in
theorem impl_fieldType.calls (a0:Int) (a1:Int) (r:Bool) (w:World) (h:impl_fieldType.f a0 a1=some r):
  Calls Try.prog 98 #[.int .i64 a0,.int .i64 a1] w fun e w'=>e= .returned (.bool r)∧Drawn0 w w':=by
 unfold impl_fieldType.f at h
 split at h
 case isFalse=>simp at h
 case isTrue hb=>
  obtain ⟨h0,h1⟩:=hb;have HR:=aK (Option.some.inj h);clear h;by_cases hk:kOk a0 a1=true
  ·have hv : kv a1 := by simp [kOk] at hk; unfold kv; omega
   have HO:=aK (show kndO a0 a1=kndV a1 from if_pos hk);have t1:=kind_int hv;have t2:=kind_arr hv;have t3:=kind_class hv;have HK:=aK hk;clear hk hv;go_enter Try.func98,Try.ntmps98
   go_wp2_with (go_at_call 111;refine (impl_kindOf.calls a0 a1 _ h0 h1).mono ?_;rintro e w' ⟨rfl,⟨n,rfl⟩⟩;rw [HO.out])
   ·go_ret
    exact ⟨by show Ending.returned (.bool true)=_;rw [←HR.out,HK.out,decide_eq_true (by omega)];rfl,Drawn0.step (Drawn0.refl _) _⟩
   ·go_ret
    exact ⟨by show Ending.returned (.bool false)=_;rw [←HR.out,HK.out,decide_eq_false (by omega)];rfl,Drawn0.step (Drawn0.refl _) _⟩
  ·have HO := aK (show kndO a0 a1 = .nilIface from if_neg hk)
   have HK:=aK (Bool.not_eq_true _ |>.mp hk);have t1:=nil_int;have t2:=nil_arr;have t3:=nil_class;clear hk;go_enter Try.func98,Try.ntmps98
   go_wp2_with (go_at_call 111;refine (impl_kindOf.calls a0 a1 _ h0 h1).mono ?_;rintro e w' ⟨rfl,⟨n,rfl⟩⟩;rw [HO.out])
   go_ret;exact ⟨by show Ending.returned (.bool false)=_;rw [←HR.out,HK.out];rfl,Drawn0.step (Drawn0.refl _) _⟩
end Go.Proofs.Ytnlieahdakafbaa.K
