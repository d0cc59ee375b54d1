import Derived.Test.YtehefmgplkolaaaPf24
import Derived.Test.YtehefmgplkolaaaPf27
namespace Go.Proofs.Ytehefmgplkolaaa.K
open Go.RowKit Go.Proofs.YtehefmgplkolaaaW.PrintWords Go.Proofs.YtehefmgplkolaaaW.PrintLast Go.Proofs.YtehefmgplkolaaaW.PrintMore
attribute [local go_sem] max2_int min2_int max_two min_two max_three min_three max_four min_four
set_option linter.unusedVariables false
set_option linter.unusedSimpArgs false
def laws_eqClass.f (k:Nat) (a0_0:Int) (l0_1:List Int) (a1_0:Int) (l1_1:List Int):Option (Bool):=if a0_0=a1_0 then ((laws_eqIntS.f k l0_1 l1_1).bind fun t300=>(if t300=true then (some true) else (some false))) else (some false)
set_option maxHeartbeats 8000000 in
set_option maxRecDepth 100000 in
theorem laws_eqClass.calls (k:Nat) (a0_0:Int) (A0_1:Option Addr) (c0_1:Nat) (l0_1:List Int) (a1_0:Int) (A1_1:Option Addr) (c1_1:Nat) (l1_1:List Int) (r:Bool) (w:World) (hr0_1:Kd.C (Kd.int .i64) w A0_1 l0_1.length l0_1) (hc0_1:l0_1.length≤c0_1) (hr1_1:Kd.C (Kd.int .i64) w A1_1 l1_1.length l1_1) (hc1_1:l1_1.length≤c1_1) (h:laws_eqClass.f k a0_0 l0_1 a1_0 l1_1=some r):
  Calls Try.prog 29 #[.agg #[.int .i64 a0_0,.slice A0_1 l0_1.length c0_1],.agg #[.int .i64 a1_0,.slice A1_1 l1_1.length c1_1]] w fun e w'=>e= .returned (.bool r)∧Below w.heap.size w w':=by
 have hu48:=Try.underlying48;have HR0_1:=aK hr0_1;have HC0_1:=aK hc0_1;clear hr0_1 hc0_1;have HR1_1:=aK hr1_1;have HC1_1:=aK hc1_1;clear hr1_1 hc1_1;have HB:=aK (Below.refl w.heap.size w);have H:(if a0_0=a1_0 then ((laws_eqIntS.f k l0_1 l1_1).bind fun t300=>(if t300=true then (some true) else (some false))) else (some false))=some r:=h
 clear h;by_cases c3:a0_0=a1_0
 ·rw [if_pos c3] at H
  have c3b0:(a0_0==a1_0)=true:=beq_iff_eq.mpr c3
  have c3b1:(a0_0 !=a1_0)=false:=bne_eq_false_iff_eq.mpr c3
  clear c3;replace H:=Option.bind_eq_some_iff.mp H;obtain ⟨t300,A40,H⟩:=H;(try dsimp only at H);have A4:=aK A40;clear A40;by_cases c5:t300=true
  ·subst c5
   rw [if_pos rfl] at H;obtain rfl:=Option.some.inj H;go_enter Try.func29,Try.ntmps29
   go_wp2_with (first|((with_reducible refine gate_dst (N:=2) rfl ?_);refine box_event ?hg (N:=2) ?hd (cs:= #[.int .i64 a0_0,.slice A0_1 l0_1.length c0_1]) (t:=48) ?hr ?_;(case hd=>rfl);(case hg=>rfl);(case hr=>first|(go_simp;done)|(go_simp;rfl));intro gb298 hg w6 hbox hb;have BK298:=aK (hbox);have GW298:=aK ((by rw [hg];exact (below_size zz1):w.heap.size≤gb298));have GE298:=aK ((by rw [hg];exact (below_size zz1):w.heap.size≤gb298));replace HB:=aK (below_step zz1 hb);clear hb hbox hg)|((with_reducible refine gate_dst (N:=3) rfl ?_);refine box_event ?hg (N:=3) ?hd (cs:= #[.int .i64 a1_0,.slice A1_1 l1_1.length c1_1]) (t:=48) ?hr ?_;(case hd=>rfl);(case hg=>rfl);(case hr=>first|(go_simp;done)|(go_simp;rfl));intro gb299 hg w7 hbox hb;have BK299:=aK (hbox);have GW299:=aK ((by rw [hg];exact (below_size zz37):w.heap.size≤gb299));have GE299:=aK ((by rw [hg];exact (below_size zz37):w.heap.size≤gb299));have NB298_299:=aK ((by rw [hg];exact Nat.ne_of_lt (blk_lt (g:=gb298) (o:= .cells #[.int .i64 a0_0,.slice A0_1 l0_1.length c0_1] 48 (0,0)) zz51):gb298≠gb299));have NB299_298:=aK ((by rw [hg];exact Nat.ne_of_gt (blk_lt (g:=gb298) (o:= .cells #[.int .i64 a0_0,.slice A0_1 l0_1.length c0_1] 48 (0,0)) zz51):gb299≠gb298));replace BK298:=aK (blk_below (g:=gb298) (o:= .cells #[.int .i64 a0_0,.slice A0_1 l0_1.length c0_1] 48 (0,0)) zz51 hb);replace HB:=aK (below_step zz37 hb);clear hb hbox hg;have hnb8:=NB298_299.out;have hnc8:=NB299_298.out;obtain ⟨hcz9_0,hcz9_1,hfz9_0,hfz9_1⟩:=cbf2 BK298;obtain ⟨hcz10_0,hcz10_1,hfz10_0,hfz10_1⟩:=cbf2 BK299)|((with_reducible refine gate_callee (f:=28) rfl ?_);refine goesL_ (some 14) rfl rfl Try.func28 (by kernel_rfl) rfl #[.slice A0_1 l0_1.length c0_1,.slice A1_1 l1_1.length c1_1] rfl zz2 ?_;(with_reducible refine (laws_eqIntS.calls k _ _ l0_1 _ _ l1_1 true _ ?side1 ?side2 ?side3 ?side4 A4.out).mono ?_);(case side1=>exact zz21);(case side2=>exact HC0_1.out);(case side3=>exact zz11);(case side4=>exact HC1_1.out);rintro e w' ⟨rfl,⟨nd,rfl⟩⟩;refine ⟨_,rfl,?_⟩))
   go_ret;exact ⟨zz4,(by repeat (first|(with_reducible first|exact HB.out|apply below_alloc|apply pw_below_drewN|apply below_drew1|refine below_set ?_ GE298.out|refine below_set ?_ GE299.out)|exact HB.out))⟩
  ·replace c5 := Bool.eq_false_iff.mpr c5
   subst c5;rw [if_neg (show¬(false=true) by decide)] at H;obtain rfl:=Option.some.inj H;go_enter Try.func29,Try.ntmps29
   go_wp2_with (first|((with_reducible refine gate_dst (N:=2) rfl ?_);refine box_event ?hg (N:=2) ?hd (cs:= #[.int .i64 a0_0,.slice A0_1 l0_1.length c0_1]) (t:=48) ?hr ?_;(case hd=>rfl);(case hg=>rfl);(case hr=>first|(go_simp;done)|(go_simp;rfl));intro gb298 hg w11 hbox hb;have BK298:=aK (hbox);have GW298:=aK ((by rw [hg];exact (below_size zz1):w.heap.size≤gb298));have GE298:=aK ((by rw [hg];exact (below_size zz1):w.heap.size≤gb298));replace HB:=aK (below_step zz1 hb);clear hb hbox hg)|((with_reducible refine gate_dst (N:=3) rfl ?_);refine box_event ?hg (N:=3) ?hd (cs:= #[.int .i64 a1_0,.slice A1_1 l1_1.length c1_1]) (t:=48) ?hr ?_;(case hd=>rfl);(case hg=>rfl);(case hr=>first|(go_simp;done)|(go_simp;rfl));intro gb299 hg w12 hbox hb;have BK299:=aK (hbox);have GW299:=aK ((by rw [hg];exact (below_size zz37):w.heap.size≤gb299));have GE299:=aK ((by rw [hg];exact (below_size zz37):w.heap.size≤gb299));have NB298_299:=aK ((by rw [hg];exact Nat.ne_of_lt (blk_lt (g:=gb298) (o:= .cells #[.int .i64 a0_0,.slice A0_1 l0_1.length c0_1] 48 (0,0)) zz51):gb298≠gb299));have NB299_298:=aK ((by rw [hg];exact Nat.ne_of_gt (blk_lt (g:=gb298) (o:= .cells #[.int .i64 a0_0,.slice A0_1 l0_1.length c0_1] 48 (0,0)) zz51):gb299≠gb298));replace BK298:=aK (blk_below (g:=gb298) (o:= .cells #[.int .i64 a0_0,.slice A0_1 l0_1.length c0_1] 48 (0,0)) zz51 hb);replace HB:=aK (below_step zz37 hb);clear hb hbox hg;have hnb13:=NB298_299.out;have hnc13:=NB299_298.out;obtain ⟨hcz14_0,hcz14_1,hfz14_0,hfz14_1⟩:=cbf2 BK298;obtain ⟨hcz15_0,hcz15_1,hfz15_0,hfz15_1⟩:=cbf2 BK299)|((with_reducible refine gate_callee (f:=28) rfl ?_);refine goesL_ (some 14) rfl rfl Try.func28 (by kernel_rfl) rfl #[.slice A0_1 l0_1.length c0_1,.slice A1_1 l1_1.length c1_1] rfl zz2 ?_;(with_reducible refine (laws_eqIntS.calls k _ _ l0_1 _ _ l1_1 false _ ?side1 ?side2 ?side3 ?side4 A4.out).mono ?_);(case side1=>exact zz21);(case side2=>exact HC0_1.out);(case side3=>exact zz11);(case side4=>exact HC1_1.out);rintro e w' ⟨rfl,⟨nd,rfl⟩⟩;refine ⟨_,rfl,?_⟩))
   go_ret;exact ⟨zz4,(by repeat (first|(with_reducible first|exact HB.out|apply below_alloc|apply pw_below_drewN|apply below_drew1|refine below_set ?_ GE298.out|refine below_set ?_ GE299.out)|exact HB.out))⟩
 ·rw [if_neg c3] at H
  have c3b0:(a0_0==a1_0)=false:=beq_eq_false_iff_ne.mpr c3
  have c3b1:(a0_0 !=a1_0)=true:=bne_iff_ne.mpr c3
  obtain rfl:=Option.some.inj H;go_enter Try.func29,Try.ntmps29
  go_wp2_with (first|((with_reducible refine gate_dst (N:=2) rfl ?_);refine box_event ?hg (N:=2) ?hd (cs:= #[.int .i64 a0_0,.slice A0_1 l0_1.length c0_1]) (t:=48) ?hr ?_;(case hd=>rfl);(case hg=>rfl);(case hr=>first|(go_simp;done)|(go_simp;rfl));intro gb298 hg w16 hbox hb;have BK298:=aK (hbox);have GW298:=aK ((by rw [hg];exact (below_size zz1):w.heap.size≤gb298));have GE298:=aK ((by rw [hg];exact (below_size zz1):w.heap.size≤gb298));replace HB:=aK (below_step zz1 hb);clear hb hbox hg)|((with_reducible refine gate_dst (N:=3) rfl ?_);refine box_event ?hg (N:=3) ?hd (cs:= #[.int .i64 a1_0,.slice A1_1 l1_1.length c1_1]) (t:=48) ?hr ?_;(case hd=>rfl);(case hg=>rfl);(case hr=>first|(go_simp;done)|(go_simp;rfl));intro gb299 hg w17 hbox hb;have BK299:=aK (hbox);have GW299:=aK ((by rw [hg];exact (below_size zz37):w.heap.size≤gb299));have GE299:=aK ((by rw [hg];exact (below_size zz37):w.heap.size≤gb299));have NB298_299:=aK ((by rw [hg];exact Nat.ne_of_lt (blk_lt (g:=gb298) (o:= .cells #[.int .i64 a0_0,.slice A0_1 l0_1.length c0_1] 48 (0,0)) zz51):gb298≠gb299));have NB299_298:=aK ((by rw [hg];exact Nat.ne_of_gt (blk_lt (g:=gb298) (o:= .cells #[.int .i64 a0_0,.slice A0_1 l0_1.length c0_1] 48 (0,0)) zz51):gb299≠gb298));replace BK298:=aK (blk_below (g:=gb298) (o:= .cells #[.int .i64 a0_0,.slice A0_1 l0_1.length c0_1] 48 (0,0)) zz51 hb);replace HB:=aK (below_step zz37 hb);clear hb hbox hg;have hnb18:=NB298_299.out;have hnc18:=NB299_298.out;obtain ⟨hcz19_0,hcz19_1,hfz19_0,hfz19_1⟩:=cbf2 BK298;obtain ⟨hcz20_0,hcz20_1,hfz20_0,hfz20_1⟩:=cbf2 BK299))
  go_ret;exact ⟨zz4,(by repeat (first|(with_reducible first|exact HB.out|apply below_alloc|apply pw_below_drewN|apply below_drew1|refine below_set ?_ GE298.out|refine below_set ?_ GE299.out)|exact HB.out))⟩
def laws_eqClassS.l0:Nat→List (S48)→List (S48)→Int→Option (Bool)
  |0,_,_,_=>none
  |k+1,x0,x1,x5=>if x5<(x0.length:Int) then (if 0≤x5 then (if x5<(x1.length:Int) then ((laws_eqClass.f k ((rd_T48 x0 x5).f0) ((rd_T48 x0 x5).f1) ((rd_T48 x1 x5).f0) ((rd_T48 x1 x5).f1)).bind fun t303=>(if t303=true then (laws_eqClassS.l0 k x0 x1 (wrap64 (x5+1))) else (some false))) else (none)) else (none)) else (some true)
def laws_eqClassS.f (k:Nat) (l0:List (S48)) (l1:List (S48)):Option (Bool):=if (l0.length:Int)=(l1.length:Int) then (laws_eqClassS.l0 k l0 l1 0) else (some false)
def laws_eqClassS.T6:Bool×List (List Nat×List Nat):=(true,[([],[]),([],[]),([0,1],[0,1]),([2],[2]),([],[]),([],[]),([4,5],[4,5]),([6],[6]),([3,7],[3,7]),([8],[8])])
def laws_eqClassS.B6:List Nat:=[0,0,3,7,0,0,48,112,255,511]
theorem laws_eqClassS.tab6:rtab .any (opsOf Try.f12 6)=laws_eqClassS.T6:=by kernel_rfl
theorem laws_eqClassS.bits6:waitsOk laws_eqClassS.T6.2 laws_eqClassS.B6=true:=by kernel_rfl
set_option maxHeartbeats 8000000 in
set_option maxRecDepth 100000 in
theorem laws_eqClassS.calls (k : Nat) (A0 : Option Addr) (c0 : Nat) (l0 : List (S48)) (A1 : Option Addr) (c1 : Nat) (l1 : List (S48)) (r : Bool) (w : World) (hr0 : Kd.C k48 w A0 l0.length l0) (hc0 : l0.length ≤ c0) (hr1 : Kd.C k48 w A1 l1.length l1) (hc1 : l1.length ≤ c1) (h : laws_eqClassS.f k l0 l1 = some r) :
  Calls Try.prog 12 #[.slice A0 l0.length c0,.slice A1 l1.length c1] w fun e w'=>e= .returned (.bool r)∧Below w.heap.size w w':=by
 have hu48:=Try.underlying48;have HR0:=aK hr0;have HC0:=aK hc0;clear hr0 hc0;have HR1:=aK hr1;have HC1:=aK hc1;clear hr1 hc1;have HB:=aK (Below.refl w.heap.size w);have H:(if (l0.length:Int)=(l1.length:Int) then (laws_eqClassS.l0 k l0 l1 0) else (some false))=some r:=h
 clear h;by_cases c3:(l0.length:Int)=(l1.length:Int)
 ·rw [if_pos c3] at H
  have c3b0:((l0.length:Int)==(l1.length:Int))=true:=beq_iff_eq.mpr c3
  have c3b1:((l0.length:Int) !=(l1.length:Int))=false:=bne_eq_false_iff_eq.mpr c3
  have c3b2:(l0.length==l1.length)=true:=by first|simpa using c3|(simp at c3 ⊢;omega)
  clear c3;have H':=aK H;clear H;go_enter Try.func12,Try.ntmps12;go_wp2
  go_loopg [5] k (fun kq v5 w'=> ∃(x5_1:Int),v5= .int .i64 x5_1∧Aside0 (laws_eqClassS.l0 kq l0 l1 x5_1=some r)∧Aside0 (kq≤k)∧Aside0 (Below w.heap.size w w'))
  case atStart=>exact ⟨(0),zz9,H',⟨Nat.le_refl _⟩,⟨by repeat (first|(with_reducible first|exact HB.out|apply below_alloc|apply pw_below_drewN|apply below_drew1)|exact HB.out)⟩⟩
  case round =>
   clear H';(try clear c1);(try clear p2);(try clear c3);(try clear c3b0);(try clear c3b1);(try clear c3b2);obtain ⟨x5_1,rfl,HA,HK1,HB⟩:=hrel
   cases gk with
   |zero=>exact absurd HA.out (by simp [laws_eqClassS.l0])
   | succ k1 =>
    have H:=HA.out;clear HA;simp only [laws_eqClassS.l0] at H;by_cases c4:x5_1<(l0.length:Int)
    ·rw [if_pos c4] at H
     have c4b0:decide (x5_1<(l0.length:Int))=true:=decide_eq_true c4
     clear c4;by_cases c5:0≤x5_1
     ·rw [if_pos c5] at H
      have c5b0:decide (0≤x5_1)=true:=decide_eq_true c5
      clear c5;by_cases c6:x5_1<(l1.length:Int)
      ·rw [if_pos c6] at H
       have c6b0:decide (x5_1<(l1.length:Int))=true:=decide_eq_true c6
       clear c6;replace H:=Option.bind_eq_some_iff.mp H;obtain ⟨t303,A70,H⟩:=H;(try dsimp only at H);have A7:=aK A70;clear A70;by_cases c8:t303=true
       ·subst c8
        rw [if_pos rfl] at H;have H':=aK H;clear H;try go_wp2
        have n0_:=aK (below_drew1 HB.out);clear HB;have HB:=n0_;clear n0_;have p301:0≤(x5_1:Int):=of_decide_eq_true zz6
        have q301:x5_1<(l0.length:Int):=of_decide_eq_true zz6
        obtain ⟨ad301,A301_1,c301_1,e301,hx301_0,hx301_1,hl301_1,hi301_1⟩:=at_T48 HR0.out x5_1 p301 q301;have hw301_1:=hx301_1;have hw301_0:=hx301_0
        cases e301
        replace hx301_0:=(HB.out.cell (World.block_lt_of_cell? w _ hx301_0)).trans hx301_0;replace hx301_1:=(HB.out.cell (World.block_lt_of_cell? w _ hx301_1)).trans hx301_1;have HR301_1:=aK hi301_1;have HC301_1:=aK hl301_1;clear hi301_1 hl301_1;replace p301:=eq_true p301;replace q301:=eq_true q301;have p302:0≤(x5_1:Int):=of_decide_eq_true zz6
        have q302:x5_1<(l1.length:Int):=of_decide_eq_true zz6
        obtain ⟨ad302,A302_1,c302_1,e302,hx302_0,hx302_1,hl302_1,hi302_1⟩:=at_T48 HR1.out x5_1 p302 q302;have hw302_1:=hx302_1;have hw302_0:=hx302_0
        cases e302
        replace hx302_0:=(HB.out.cell (World.block_lt_of_cell? w _ hx302_0)).trans hx302_0;replace hx302_1:=(HB.out.cell (World.block_lt_of_cell? w _ hx302_1)).trans hx302_1;have HR302_1:=aK hi302_1;have HC302_1:=aK hl302_1;clear hi302_1 hl302_1;replace p302:=eq_true p302;replace q302:=eq_true q302;refine sT 10 (S:=fun w'=>w'.cell? (ad301.add ((x5_1).toNat*2))=some (.int .i64 ((rd_T48 l0 x5_1).f0))∧w'.cell? ⟨(ad301.add ((x5_1).toNat*2)).block,(ad301.add ((x5_1).toNat*2)).off+1,none⟩=some (.slice A301_1 ((rd_T48 l0 x5_1).f1).length c301_1)∧w'.cell? (ad302.add ((x5_1).toNat*2))=some (.int .i64 ((rd_T48 l1 x5_1).f0))∧w'.cell? ⟨(ad302.add ((x5_1).toNat*2)).block,(ad302.add ((x5_1).toNat*2)).off+1,none⟩=some (.slice A302_1 ((rd_T48 l1 x5_1).f1).length c302_1)) (ds:=[]) ⟨((HB.out.cell (World.block_lt_of_cell? w _ hw301_0)).trans hw301_0),((HB.out.cell (World.block_lt_of_cell? w _ hw301_1)).trans hw301_1),((HB.out.cell (World.block_lt_of_cell? w _ hw302_0)).trans hw302_0),((HB.out.cell (World.block_lt_of_cell? w _ hw302_1)).trans hw302_1)⟩ (fun hHeld=>?_);refine with_tabW laws_eqClassS.tab6 laws_eqClassS.bits6 (fun HT_ HW_=>?_);generalize wr.drew=w9 at HB HR301_1 HR302_1 hx301_0 hx301_1 hx302_0 hx302_1 hHeld ⊢;refine pT 0 17 #[true,false,false,false,false,false,false,false,false,false] HT_ ?_;refine pT 1 18 #[true,true,false,false,false,false,false,false,false,false] HT_ ?_;refine pT 2 19 #[true,true,true,false,false,false,false,false,false,false] HT_ ?_;refine pT 4 21 #[true,true,true,false,true,false,false,false,false,false] HT_ ?_;refine pT 5 22 #[true,true,true,false,true,true,false,false,false,false] HT_ ?_;refine pT 6 23 #[true,true,true,false,true,true,true,false,false,false] HT_ ?_;refine tS 3 20 #[true,true,true,true,true,true,true,false,false,false] rfl rfl (take_ofW HT_.out HW_.out (by kernel_rfl)) hHeld (by rintro w' ⟨s0,s1,s2,s3⟩;go_simp;with_reducible rfl) ?_;refine tS 7 24 #[true,true,true,true,true,true,true,true,false,false] rfl rfl (take_ofW HT_.out HW_.out (by kernel_rfl)) hHeld (by rintro w' ⟨s0,s1,s2,s3⟩;go_simp;with_reducible rfl) ?_;refine one_ (i:=8) (N:=some 25) #[true,true,true,true,true,true,true,true,true,false] rfl rfl (one_of HT_.out (by kernel_rfl)) (by decide) (fun K hK=>?_);refine goes_ Try.func29 (by kernel_rfl) rfl #[.agg #[.int .i64 ((rd_T48 l0 x5_1).f0),.slice A301_1 ((rd_T48 l0 x5_1).f1).length c301_1],.agg #[.int .i64 ((rd_T48 l1 x5_1).f0),.slice A302_1 ((rd_T48 l1 x5_1).f1).length c302_1]] (by rfl) rfl rfl zz2 ?_;(with_reducible refine (laws_eqClass.calls k1 ((rd_T48 l0 x5_1).f0) _ _ ((rd_T48 l0 x5_1).f1) ((rd_T48 l1 x5_1).f0) _ _ ((rd_T48 l1 x5_1).f1) true _ ?side1 ?side2 ?side3 ?side4 A7.out).mono ?_)
        (case side1=>exact (by repeat (first|exact (Kd.C_below HR301_1.out HB.out)|(with_reducible refine Kd.C_alloc ?_ _)|(with_reducible refine Kd.C_drewN ?_ _)|(with_reducible refine Kd.C_drew ?_))))
        (case side2=>exact HC301_1.out)
        (case side3=>exact (by repeat (first|exact (Kd.C_below HR302_1.out HB.out)|(with_reducible refine Kd.C_alloc ?_ _)|(with_reducible refine Kd.C_drewN ?_ _)|(with_reducible refine Kd.C_drew ?_))))
        (case side4=>exact HC302_1.out)
        rintro e w10 ⟨rfl,hb⟩;refine ⟨_,rfl,?_⟩;have n0_:=aK (below_step zz1 hb);clear HB;have HB:=n0_;clear n0_;(try clear hb);(try clear hb2);(try clear hk);(try clear hi);refine hK.out _ _ ⟨((HB.out.cell (World.block_lt_of_cell? w _ hw301_0)).trans hw301_0),((HB.out.cell (World.block_lt_of_cell? w _ hw301_1)).trans hw301_1),((HB.out.cell (World.block_lt_of_cell? w _ hw302_0)).trans hw302_0),((HB.out.cell (World.block_lt_of_cell? w _ hw302_1)).trans hw302_1)⟩ (fun hHeld=>?_);clear hK K;refine nS 25 ?_;refine pT 9 26 #[true,true,true,true,true,true,true,true,true,true] HT_ ?_;refine done_ (done_of HT_.out (by kernel_rfl)) ?_;try go_wp2
        go_roundg k1
        case measure=>have:=HK1.out;omega
        case rel=>exact ⟨(wrap64 (x5_1+1)),zz9,H',⟨by have:=HK1.out;omega⟩,⟨by repeat (first|(with_reducible first|exact HB.out|apply below_alloc|apply pw_below_drewN|apply below_drew1)|exact HB.out)⟩⟩
       ·replace c8 := Bool.eq_false_iff.mpr c8
        subst c8;rw [if_neg (show¬(false=true) by decide)] at H;obtain rfl:=Option.some.inj H;try go_wp2
        have n0_:=aK (below_drew1 HB.out);clear HB;have HB:=n0_;clear n0_;have p301:0≤(x5_1:Int):=of_decide_eq_true zz6
        have q301:x5_1<(l0.length:Int):=of_decide_eq_true zz6
        obtain ⟨ad301,A301_1,c301_1,e301,hx301_0,hx301_1,hl301_1,hi301_1⟩:=at_T48 HR0.out x5_1 p301 q301;have hw301_1:=hx301_1;have hw301_0:=hx301_0
        cases e301
        replace hx301_0:=(HB.out.cell (World.block_lt_of_cell? w _ hx301_0)).trans hx301_0;replace hx301_1:=(HB.out.cell (World.block_lt_of_cell? w _ hx301_1)).trans hx301_1;have HR301_1:=aK hi301_1;have HC301_1:=aK hl301_1;clear hi301_1 hl301_1;replace p301:=eq_true p301;replace q301:=eq_true q301;have p302:0≤(x5_1:Int):=of_decide_eq_true zz6
        have q302:x5_1<(l1.length:Int):=of_decide_eq_true zz6
        obtain ⟨ad302,A302_1,c302_1,e302,hx302_0,hx302_1,hl302_1,hi302_1⟩:=at_T48 HR1.out x5_1 p302 q302;have hw302_1:=hx302_1;have hw302_0:=hx302_0
        cases e302
        replace hx302_0:=(HB.out.cell (World.block_lt_of_cell? w _ hx302_0)).trans hx302_0;replace hx302_1:=(HB.out.cell (World.block_lt_of_cell? w _ hx302_1)).trans hx302_1;have HR302_1:=aK hi302_1;have HC302_1:=aK hl302_1;clear hi302_1 hl302_1;replace p302:=eq_true p302;replace q302:=eq_true q302;refine sT 10 (S:=fun w'=>w'.cell? (ad301.add ((x5_1).toNat*2))=some (.int .i64 ((rd_T48 l0 x5_1).f0))∧w'.cell? ⟨(ad301.add ((x5_1).toNat*2)).block,(ad301.add ((x5_1).toNat*2)).off+1,none⟩=some (.slice A301_1 ((rd_T48 l0 x5_1).f1).length c301_1)∧w'.cell? (ad302.add ((x5_1).toNat*2))=some (.int .i64 ((rd_T48 l1 x5_1).f0))∧w'.cell? ⟨(ad302.add ((x5_1).toNat*2)).block,(ad302.add ((x5_1).toNat*2)).off+1,none⟩=some (.slice A302_1 ((rd_T48 l1 x5_1).f1).length c302_1)) (ds:=[]) ⟨((HB.out.cell (World.block_lt_of_cell? w _ hw301_0)).trans hw301_0),((HB.out.cell (World.block_lt_of_cell? w _ hw301_1)).trans hw301_1),((HB.out.cell (World.block_lt_of_cell? w _ hw302_0)).trans hw302_0),((HB.out.cell (World.block_lt_of_cell? w _ hw302_1)).trans hw302_1)⟩ (fun hHeld=>?_);refine with_tabW laws_eqClassS.tab6 laws_eqClassS.bits6 (fun HT_ HW_=>?_);generalize wr.drew=w11 at HB HR301_1 HR302_1 hx301_0 hx301_1 hx302_0 hx302_1 hHeld ⊢;refine pT 0 17 #[true,false,false,false,false,false,false,false,false,false] HT_ ?_;refine pT 1 18 #[true,true,false,false,false,false,false,false,false,false] HT_ ?_;refine pT 2 19 #[true,true,true,false,false,false,false,false,false,false] HT_ ?_;refine pT 4 21 #[true,true,true,false,true,false,false,false,false,false] HT_ ?_;refine pT 5 22 #[true,true,true,false,true,true,false,false,false,false] HT_ ?_;refine pT 6 23 #[true,true,true,false,true,true,true,false,false,false] HT_ ?_;refine tS 3 20 #[true,true,true,true,true,true,true,false,false,false] rfl rfl (take_ofW HT_.out HW_.out (by kernel_rfl)) hHeld (by rintro w' ⟨s0,s1,s2,s3⟩;go_simp;with_reducible rfl) ?_;refine tS 7 24 #[true,true,true,true,true,true,true,true,false,false] rfl rfl (take_ofW HT_.out HW_.out (by kernel_rfl)) hHeld (by rintro w' ⟨s0,s1,s2,s3⟩;go_simp;with_reducible rfl) ?_;refine one_ (i:=8) (N:=some 25) #[true,true,true,true,true,true,true,true,true,false] rfl rfl (one_of HT_.out (by kernel_rfl)) (by decide) (fun K hK=>?_);refine goes_ Try.func29 (by kernel_rfl) rfl #[.agg #[.int .i64 ((rd_T48 l0 x5_1).f0),.slice A301_1 ((rd_T48 l0 x5_1).f1).length c301_1],.agg #[.int .i64 ((rd_T48 l1 x5_1).f0),.slice A302_1 ((rd_T48 l1 x5_1).f1).length c302_1]] (by rfl) rfl rfl zz2 ?_;(with_reducible refine (laws_eqClass.calls k1 ((rd_T48 l0 x5_1).f0) _ _ ((rd_T48 l0 x5_1).f1) ((rd_T48 l1 x5_1).f0) _ _ ((rd_T48 l1 x5_1).f1) false _ ?side1 ?side2 ?side3 ?side4 A7.out).mono ?_)
        (case side1=>exact (by repeat (first|exact (Kd.C_below HR301_1.out HB.out)|(with_reducible refine Kd.C_alloc ?_ _)|(with_reducible refine Kd.C_drewN ?_ _)|(with_reducible refine Kd.C_drew ?_))))
        (case side2=>exact HC301_1.out)
        (case side3=>exact (by repeat (first|exact (Kd.C_below HR302_1.out HB.out)|(with_reducible refine Kd.C_alloc ?_ _)|(with_reducible refine Kd.C_drewN ?_ _)|(with_reducible refine Kd.C_drew ?_))))
        (case side4=>exact HC302_1.out)
        rintro e w12 ⟨rfl,hb⟩;refine ⟨_,rfl,?_⟩;have n0_:=aK (below_step zz1 hb);clear HB;have HB:=n0_;clear n0_;(try clear hb);(try clear hb2);(try clear hk);(try clear hi);refine hK.out _ _ ⟨((HB.out.cell (World.block_lt_of_cell? w _ hw301_0)).trans hw301_0),((HB.out.cell (World.block_lt_of_cell? w _ hw301_1)).trans hw301_1),((HB.out.cell (World.block_lt_of_cell? w _ hw302_0)).trans hw302_0),((HB.out.cell (World.block_lt_of_cell? w _ hw302_1)).trans hw302_1)⟩ (fun hHeld=>?_);clear hK K;refine nS 25 ?_;refine pT 9 26 #[true,true,true,true,true,true,true,true,true,true] HT_ ?_;refine done_ (done_of HT_.out (by kernel_rfl)) ?_;try go_wp2
        go_ret;exact ⟨zz4,zz1⟩
      ·rw [if_neg c6] at H
       exact absurd H (by simp)
     ·rw [if_neg c5] at H
      exact absurd H (by simp)
    ·rw [if_neg c4] at H
     have c4b0:decide (x5_1<(l0.length:Int))=false:=decide_eq_false c4
     clear c4;obtain rfl:=Option.some.inj H;go_wp2;go_ret;exact ⟨zz4,zz1⟩
 ·rw [if_neg c3] at H
  have c3b0:((l0.length:Int)==(l1.length:Int))=false:=beq_eq_false_iff_ne.mpr c3
  have c3b1:((l0.length:Int) !=(l1.length:Int))=true:=bne_iff_ne.mpr c3
  have c3b2:(l0.length==l1.length)=false:=by first|simpa using c3|(simp at c3 ⊢;omega)
  obtain rfl:=Option.some.inj H;go_enter Try.func12,Try.ntmps12;go_wp2;go_ret;exact ⟨zz4,zz1⟩
def laws_markIntS.l0:Nat→List Int→Int→Int→Option (Int×List Int)
  |0,_,_,_=>none
  |k+1,x0,x1,x5=>if x5<(x0.length:Int) then (if 0≤x5 then (laws_markIntS.l0 k (x0.set (x5:Int).toNat x1) (wrap64 (x1+1)) (wrap64 (x5+1))) else (none)) else (some (x1,x0))
def laws_markIntS.f (k:Nat) (l0:List Int) (a1:Int):Option (Int×List Int):=laws_markIntS.l0 k l0 a1 0
theorem laws_markIntS.mono_l: ∀k,(∀y0 y1 y2,LeO (laws_markIntS.l0 k y0 y1 y2) (laws_markIntS.l0 (k+1) y0 y1 y2))
 |0=>fun _ _ _ r h=>by simp [laws_markIntS.l0] at h
 | k + 1 => by
  have ih0:=laws_markIntS.mono_l k
  ·intro y0 y1 y2
   unfold laws_markIntS.l0;repeat' first
   |(with_reducible exact ih0 _ _ _)
   |(with_reducible exact LeO.refl _)
   |(with_reducible exact LeO.none _)
   |(with_reducible refine LeO.ite ?_ ?_)
   |(with_reducible refine LeO.bind ?_ (fun _=>?_))
   |exact ih0 _ _ _
   |exact LeO.none _
   |refine LeO.ite ?_ ?_
   |refine LeO.bind ?_ (fun _=>?_)
theorem laws_markIntS.mono: ∀a0 a1 k,LeO (laws_markIntS.f k a0 a1) (laws_markIntS.f (k+1) a0 a1):=by
  intro a0 a1 k;have ih0:=laws_markIntS.mono_l k;unfold laws_markIntS.f
  repeat' first
      |(with_reducible exact ih0 _ _ _)
      |(with_reducible exact LeO.refl _)
      |(with_reducible exact LeO.none _)
      |(with_reducible refine LeO.ite ?_ ?_)
      |(with_reducible refine LeO.bind ?_ (fun _=>?_))
      |exact ih0 _ _ _
      |exact LeO.none _
      |refine LeO.ite ?_ ?_
      |refine LeO.bind ?_ (fun _=>?_)
set_option maxHeartbeats 8000000 in
set_option maxRecDepth 100000 in
theorem laws_markIntS.calls (k:Nat) (P0_:Nat→Prop) (u9000_:Value) (l0:List Int) (a1:Int) (r1:Int) (r2:List Int) (w0 w:World) (hB:Below w0.heap.size w0 w) (ho0:Kd.R (Kd.int .i64) 3 w w0.heap.size P0_ u9000_ l0) (h:laws_markIntS.f k l0 a1=some (r1,r2)):
  Calls Try.prog 30 #[u9000_,.int .i64 a1] w fun e w'=>e= .returned (.int .i64 r1)∧Kd.R (Kd.int .i64) 3 w' w0.heap.size (fun k_=>(P0_ k_∨w.heap.size≤k_)) u9000_ r2∧Below w0.heap.size w0 w'∧Kept w w' (fun k_=>P0_ k_):=by
 have HO0:=aK (show Kd.R (Kd.int .i64) 3 w w0.heap.size (fun k_=>(P0_ k_∨w.heap.size≤k_)) u9000_ l0 from Kd.R_mono ho0 (fun k_ hk=>(.inl hk)));have HK:=aK (Kept.refl w (fun k_=>P0_ k_));have HW0:=aK hB.size;have HB:=aK hB;clear hB;have H:(laws_markIntS.l0 k l0 a1 0)=some (r1,r2):=h
 clear h;have H':=aK H;clear H;go_enter Try.func30,Try.ntmps30;go_wp2
 go_loopg [1,5] k (fun kq v1 v5 w'=> ∃(x0_1:List Int) (x1_1:Int) (x5_1:Int),v1= .int .i64 x1_1∧v5= .int .i64 x5_1∧Aside0 (laws_markIntS.l0 kq x0_1 x1_1 x5_1=some (r1,r2))∧Aside0 (kq≤k)∧Aside0 (Kd.R (Kd.int .i64) 3 w' w0.heap.size (fun k_=>(P0_ k_∨w.heap.size≤k_)) u9000_ x0_1)∧Aside0 (Kept w w' (fun k_=>P0_ k_))∧Aside0 (Below w0.heap.size w0 w'))
 case atStart=>exact ⟨(l0),(a1),(0),zz9,zz9,H',⟨Nat.le_refl _⟩,⟨by (with_reducible repeat (first|apply Kd.R_alloc|apply Kd.R_drewN|apply Kd.R_drew));exact HO0.out⟩,⟨by repeat (first|(with_reducible first|exact HK.out|apply Kept.alloc|apply Kept.drewN|apply Kept.drew)|exact HK.out)⟩,⟨by repeat (first|(with_reducible first|exact HB.out|apply below_alloc|apply pw_below_drewN|apply below_drew1)|exact HB.out)⟩⟩
 case round=>
  clear H';(try clear p2);obtain ⟨x0_1,x1_1,x5_1,rfl,rfl,HA,HK1,HO_0,HK,HB⟩:=hrel
  cases gk with
  |zero=>exact absurd HA.out (by simp [laws_markIntS.l0])
  | succ k1 =>
   have H:=HA.out;clear HA;simp only [laws_markIntS.l0] at H;by_cases c3:x5_1<(x0_1.length:Int)
   ·rw [if_pos c3] at H
    have c3b0:decide (x5_1<(x0_1.length:Int))=true:=decide_eq_true c3
    clear c3;by_cases c4:0≤x5_1
    ·rw [if_pos c4] at H
     have c4b0:decide (0≤x5_1)=true:=decide_eq_true c4
     clear c4;obtain ⟨y304,hy304⟩: ∃y_:List Int,y_=(x0_1.set (x5_1:Int).toNat x1_1):=⟨_,rfl⟩;replace H:(laws_markIntS.l0 k1 y304 (wrap64 (x1_1+1)) (wrap64 (x5_1+1)))=some (r1,r2):=by first|(rw [hy304];with_reducible exact H)|(have H2_:=(Option.bind_some _ _).symm.trans H;rw [hy304];with_reducible exact H2_)|(have H2_:=(Option.bind_some _ _).symm.trans H;with_reducible exact H2_)|with_reducible exact H|(rw [hy304];exact H)|exact H
     have Ny304:=aK hy304;clear hy304;have H':=aK H;clear H;obtain ⟨Ao6,co6,eo6⟩:=Kd.R_slice HO_0.out;subst eo6;have p5:0≤(x5_1:Int):=of_decide_eq_true zz6
     have q5:(x5_1:Int)<((x0_1.length:Int):Int):=of_decide_eq_true zz6
     obtain ⟨go5,co5,eo5,gb5,gl5,cl5,HG5⟩:=Kd.R_form HO_0.out (by omega)
     (first|cases eo5|(injection eo5 with ea_ en_ ec_;(first|subst ea_|(injection ea_ with ea_;subst ea_));subst ec_;clear en_))
     have GB5:=aK gb5;have GG5:=aK HG5;clear gb5 gl5 HG5;have HMgo5:=aK (show (P0_ go5∨w.heap.size≤go5) from (HO_0.out.1 _ rfl));obtain ⟨hx5_0,hf5_0⟩:=Kd.R_celln 0 HO_0.out (x5_1:Int) p5 q5;replace p5:=eq_true p5;replace q5:=eq_true q5;have HP7:=Kd.R_putg HO_0.out (x5_1:Int) x1_1
     go_wp2_with (first|((with_reducible refine gate_store (t:=3) (p:=15) rfl ?_);refine store_event (t:=3) (p:=15) (v:=?vo_w8) (w1:=(wr.setCell ⟨go5,(x5_1:Int).toNat,none⟩ (.int .i64 x1_1))) ?hg ?ho ?hn ?hr ?_;(case ho=>rfl);(case hg=>rfl);(case hn=>rfl);(case hr=>first|(go_simp;done)|(go_simp;rfl)|((try (first|(obtain ⟨_,_,rfl⟩:=Kd.R_slice HO_0.out)|(obtain ⟨_,_,rfl⟩:=Kd.S_slice HO_0.out)));first|(go_simp;done)|(go_simp;rfl)));intro w8 hw;have hg:wr.grownBy w8 (some go5):=(by rw [hw];exact HP7.2);have hp_:Kd.R (Kd.int .i64) 3 w8 w0.heap.size (fun k_=>(P0_ k_∨w.heap.size≤k_)) (.slice (some ⟨go5,0,none⟩) x0_1.length co6) y304:=(by rw [hw,Ny304.out];exact HP7.1);clear HP7;replace HB:=aK ((by rw [hw];exact below_set (HB.out) GB5.out:Below w0.heap.size w0 w8));replace HK:=aK (Kept.of_grown (S:=(fun k_=>P0_ k_)) hg (by repeat (first|(with_reducible first|exact HK.out|apply Kept.alloc|apply Kept.drewN|apply Kept.drew)|exact HK.out)) (fun k_ e_=>(HO_0.out.1 k_ e_)));replace HO_0:=aK (hp_);clear hg hw hp_))
     go_roundg k1
     case measure=>have:=HK1.out;omega
     case rel=>exact ⟨(y304),(wrap64 (x1_1+1)),(wrap64 (x5_1+1)),zz9,zz9,H',⟨by have:=HK1.out;omega⟩,⟨by (with_reducible repeat (first|apply Kd.R_alloc|apply Kd.R_drewN|apply Kd.R_drew));exact HO_0.out⟩,⟨by repeat (first|(with_reducible first|exact HK.out|apply Kept.alloc|apply Kept.drewN|apply Kept.drew)|exact HK.out)⟩,⟨by repeat (first|(with_reducible first|exact HB.out|apply below_alloc|apply pw_below_drewN|apply below_drew1)|exact HB.out)⟩⟩
    ·rw [if_neg c4] at H
     exact absurd H (by simp)
   ·rw [if_neg c3] at H
    have c3b0:decide (x5_1<(x0_1.length:Int))=false:=decide_eq_false c3
    clear c3;simp only [Option.some.injEq,Prod.mk.injEq] at H;obtain ⟨rfl,rfl⟩:=H;obtain ⟨Ao9,co9,eo9⟩:=Kd.R_slice HO_0.out;subst eo9;go_wp2;go_ret;exact ⟨by first|rfl|(simp [errW_none,errW_some]<;>rfl)|(simp [*,errW_none,errW_some]<;>rfl),by (with_reducible repeat (first|apply Kd.R_alloc|apply Kd.R_drewN|apply Kd.R_drew));exact HO_0.out,by repeat (first|(with_reducible first|exact HB.out|apply below_alloc|apply pw_below_drewN|apply below_drew1)|exact HB.out),by repeat (first|(with_reducible first|exact HK.out|apply Kept.alloc|apply Kept.drewN|apply Kept.drew)|exact HK.out)⟩
def mcs (K:Nat):List S48→Int→Option Int
  |[],a=>some a
  |x::r,a=>(laws_markIntS.f K x.f1 (wrap64 (a+1))).bind fun p=>mcs K r p.1
set_option maxHeartbeats 8000000 in
set_option maxRecDepth 100000 in
theorem laws_markClassS.calls (K:Nat) (P:Nat→Prop) (A:Option Addr) (n cap:Nat) (l:List S48) (a r:Int) (w0 w:World) (hB:Below w0.heap.size w0 w) (hs:Kd.S k48 48 w w0.heap.size P (.slice A n cap) l) (hl:l.length≤1048576) (h:mcs K l a=some r):
  Calls Try.prog 13 #[.slice A n cap,.int .i64 a] w fun e w'=>e= .returned (.int .i64 r)∧Below w0.heap.size w0 w'∧Kept w w' P:=by
 have HN:=(Kd.R_reads' (Kd.S_R hs)).1;subst HN;have HS:=aK hs;have HB:=aK hB;have HL:=aK hl;have HA:=aK h;clear hs hB hl h;go_enter Try.func13,Try.ntmps13;go_wp2
 go_loopw [1,5] (fun v1 v5 wr=> ∃(j:Nat) (b:Int) (l2:List S48),v1= .int .i64 b∧v5= .int .i64 j∧l2.length=l.length∧j≤l.length∧Aside0 (mcs K (l2.drop j) b=some r)∧Aside0 (Kd.S k48 48 wr w0.heap.size P (.slice A l.length cap) l2)∧Aside0 (Below w0.heap.size w0 wr)∧Aside0 (Kept w wr P)) (fun _ v5 _=>l.length - (intOf v5).toNat)
 case atStart=>exact ⟨0,a,l,rfl,rfl,rfl,Nat.zero_le _,by rw [List.drop_zero];exact HA,HS,HB,⟨Kept.refl _ _⟩⟩
 case round=>
  clear HA HS HB;obtain ⟨j,b,l2,rfl,rfl,hl2,hj,HA,HS,HB,HK⟩:=hrel;by_cases c:j<l.length
  ·have d0 : decide ((j : Int) < l.length) = true := decide_eq_true (by omega)
   have hlt:j<l2.length:=by omega
   obtain ⟨g,cp,hv,hbg,hgl,_⟩:=Kd.R_form (Kd.S_R HS.out) (by omega);injection hv with e1 e2 e3;subst e1 e3;have hPg:P g:=(Kd.S_R HS.out).1 g (by simp [Value.ownBlock])
   obtain ⟨oki,cc,hcl,hM,hcc,hoki,hH⟩:=Kd.S_lend HS.out z48 (j:Int) (by omega) (by omega);obtain ⟨x,hx⟩: ∃x,x=l2.getD ((j:Int)).toNat z48:=⟨_,rfl⟩;rw [←hx] at hM;obtain ⟨v1,hc1,hr1⟩:=k48_openM hM;subst hc1;obtain ⟨hc0,hfr⟩:=Kd.H_at hH (by omega) (by omega);have q0:wr.cell? ⟨g,j*2,none⟩=some (.int .i64 x.f0):=hc0 0 _ rfl
   have f0:wr.frozen? ⟨g,j*2,none⟩=false:=hfr 0
   have hst:Kd.S k48 48 (wr.setCell ⟨g,j*2,none⟩ (.int .i64 b)) w0.heap.size P (.slice (some ⟨g,0,none⟩) l.length cap) (l2.set j ⟨b,x.f1⟩):=(Kd.S_seg0 (seg:=[.int .i64 b]) (j:=0) (x':=⟨b,x.f1⟩) hH (by omega) (by omega) (show 0+1≤2 by omega) (k48_mkM wr w0.heap.size oki ⟨b,x.f1⟩ hr1) (fun _ h=>h)).1
   obtain ⟨oki2,cc2,hcl2,hM2,hcc2,hoki2,hH2⟩:=Kd.S_lend hst z48 (j:Int) (by omega) (by omega)
   have hx2:(l2.set j ⟨b,x.f1⟩).getD ((j:Int)).toNat z48=⟨b,x.f1⟩:=by
    rw [Int.toNat_natCast,List.getD_eq_getElem?_getD,List.getElem?_set_self hlt];rfl
   rw [hx2] at hM2;obtain ⟨v2,hc2,hr2⟩:=k48_openM hM2;subst hc2;obtain ⟨A2,c2,rfl⟩:=Kd.R_slice hr2;have q3:(wr.setCell ⟨g,j*2,none⟩ (.int .i64 b)).cell? ⟨g,j*2+1,none⟩=some (.slice A2 x.f1.length c2):=hcc2 1 _ rfl
   have ha:=HA.out;have hxe:l2[j]=x:=by rw [hx,Int.toNat_natCast,List.getD_eq_getElem?_getD,List.getElem?_eq_getElem hlt];rfl
   rw [List.drop_eq_getElem_cons hlt,hxe,mcs] at ha;obtain ⟨⟨n1,n2⟩,hm,hrest⟩:=Option.bind_eq_some_iff.mp ha;have HM:=aK hm;have HRest:=aK hrest;have HH:=aK hH2;have HO2:=aK hoki2;have HR2:=aK hr2;have HPg:=aK hPg;have HJ:=aK (show j<l2.length∧l2.length=l.length∧j<l.length from ⟨hlt,hl2,c⟩);have HB2:=aK (HB.out.setCell (p:=⟨g,j*2,none⟩) hbg (.int .i64 b));have HK2:=aK (HK.out.setCell (p:=⟨g,j*2,none⟩) (.inl hPg) (.int .i64 b));have p1:=eq_true (show (0:Int)≤(j:Int) by omega);have p2:=eq_true (show (j:Int)<(l.length:Int) by omega);clear hH hM hoki hr1 hx hcc hc0 hfr hcl e2 hbg hgl hlt hl2 c hj hst hcl2 hM2 hcc2 hoki2 hH2 hx2 hr2 ha hxe hm hrest hPg HA HB HK HS
   go_wp2_with fail
   go_at_call 30;refine (laws_markIntS.calls K oki2 (.slice A2 x.f1.length c2) x.f1 (wrap64 (b+1)) n1 n2 w0 _ HB2.out HR2.out HM.out).mono ?_;rintro e w3 ⟨rfl,hr3,hb3,hk3⟩;have HB3:=aK hb3;have HK3:=aK (HK2.out.then_ hk3 (fun k hk=> .inl (HO2.out k hk).1));have HS3:=aK (Kd.H_back (Kd.H_kept HH.out hk3 (fun _ _ hn=>hn)) (x':=⟨b,n2⟩) (k48_mkM w3 w0.heap.size oki2 ⟨b,n2⟩ (Kd.R_of_own (Kd.own_of_R hr3) HR2.out.1)) (fun _ h=>h));clear hr3 hb3 hk3 q0 q3 f0;go_wp2
   go_roundw
   case rel=>exact ⟨j+1,n1,_,rfl,by rw [show wrap64 ((j:Int)+1)=((j+1:Nat):Int) by have:=HL.out;have:=HJ.out;unfold wrap64;omega],by rw [List.length_set,List.length_set];exact HJ.out.2.1,by have:=HJ.out;omega,⟨by rw [Int.toNat_natCast,List.drop_set_of_lt (by omega),List.drop_set_of_lt (by omega)];exact HRest.out⟩,HS3,HB3,HK3⟩
   case measure=>rw [show wrap64 ((j:Int)+1)=((j+1:Nat):Int) by have:=HL.out;have:=HJ.out;unfold wrap64;omega];have:=HJ.out;simp only [intOf,Int.toNat_natCast];omega
  ·have d0 : decide ((j : Int) < l.length) = false := decide_eq_false (by omega)
   have ha:=HA.out;rw [List.drop_eq_nil_of_le (by omega)] at ha;have HR:=aK (Option.some.inj ha);clear ha;go_wp2;go_ret;exact ⟨by rw [←HR.out];rfl,HB.out,HK.out⟩
def laws_markShape.f (k:Nat) (a0_0:Bool) (l0_1:List Int) (l0_2:List Int) (a1:Int):Option (Int×List Int×List Int):=(laws_markIntS.f k l0_1 a1).bind fun bt306=>((laws_markIntS.f k l0_2 bt306.1).bind fun bt308=>(some (bt308.1,bt306.2,bt308.2)))
set_option maxHeartbeats 8000000 in
set_option maxRecDepth 100000 in
theorem laws_markShape.calls (k:Nat) (a0_0:Bool) (P0_1_:Nat→Prop) (u9000_:Value) (l0_1:List Int) (P0_2_:Nat→Prop) (u9001_:Value) (l0_2:List Int) (a1:Int) (r1:Int) (r2:List Int) (r3:List Int) (w0 w:World) (hB:Below w0.heap.size w0 w) (ho0_1:Kd.R (Kd.int .i64) 3 w w0.heap.size P0_1_ u9000_ l0_1) (hp0_1_0_2: ∀k_,P0_1_ k_→¬P0_2_ k_) (ho0_2:Kd.R (Kd.int .i64) 3 w w0.heap.size P0_2_ u9001_ l0_2) (hp0_2_0_1: ∀k_,P0_2_ k_→¬P0_1_ k_) (h:laws_markShape.f k a0_0 l0_1 l0_2 a1=some (r1,r2,r3)):
  Calls Try.prog 14 #[.agg #[.bool a0_0,u9000_,u9001_],.int .i64 a1] w fun e w'=>e= .returned (.int .i64 r1)∧Kd.R (Kd.int .i64) 3 w' w0.heap.size (fun k_=>((P0_1_ k_∨P0_2_ k_)∨w.heap.size≤k_)) u9000_ r2∧Kd.R (Kd.int .i64) 3 w' w0.heap.size (fun k_=>((P0_1_ k_∨P0_2_ k_)∨w.heap.size≤k_)) u9001_ r3∧Below w0.heap.size w0 w'∧Kept w w' (fun k_=>P0_1_ k_∨P0_2_ k_):=by
 have hu28:=Try.underlying28;have HO0_1:=aK (show Kd.R (Kd.int .i64) 3 w w0.heap.size (fun k_=>((P0_1_ k_∨P0_2_ k_)∨w.heap.size≤k_)∧some k_≠(u9001_:Value).ownBlock) u9000_ l0_1 from Kd.R_mono ho0_1 (fun k_ hk=>⟨(.inl (.inl hk)),fun e_=>hp0_1_0_2 k_ hk (ho0_2.1 k_ e_.symm)⟩));have HO0_2:=aK (show Kd.R (Kd.int .i64) 3 w w0.heap.size (fun k_=>((P0_1_ k_∨P0_2_ k_)∨w.heap.size≤k_)∧some k_≠(u9000_:Value).ownBlock) u9001_ l0_2 from Kd.R_mono ho0_2 (fun k_ hk=>⟨(.inl (.inr hk)),fun e_=>hp0_2_0_1 k_ hk (ho0_1.1 k_ e_.symm)⟩));have HK:=aK (Kept.refl w (fun k_=>P0_1_ k_∨P0_2_ k_));have HW0:=aK hB.size;have HB:=aK hB;clear hB;have H:((laws_markIntS.f k l0_1 a1).bind fun bt306=>((laws_markIntS.f k l0_2 bt306.1).bind fun bt308=>(some (bt308.1,bt306.2,bt308.2))))=some (r1,r2,r3):=h
 clear h;replace H:=Option.bind_eq_some_iff.mp H;obtain ⟨⟨t306,t307⟩,A30,H⟩:=H;(try dsimp only at H);have A3:=aK A30;clear A30;replace H:=Option.bind_eq_some_iff.mp H;obtain ⟨⟨t308,t309⟩,A40,H⟩:=H;(try dsimp only at H);have A4:=aK A40;clear A40;simp only [Option.some.injEq,Prod.mk.injEq] at H;obtain ⟨rfl,rfl,rfl⟩:=H;obtain ⟨Ao5,co5,eo5⟩:=Kd.R_slice HO0_1.out;subst eo5;obtain ⟨Ao6,co6,eo6⟩:=Kd.R_slice HO0_2.out;subst eo6;go_enter Try.func14,Try.ntmps14
 go_wp2_with (first|((with_reducible refine gate_dst (N:=2) rfl ?_);refine box_event ?hg (N:=2) ?hd (cs:= #[.bool a0_0,.slice Ao5 l0_1.length co5,.slice Ao6 l0_2.length co6]) (t:=28) ?hr ?_;(case hd=>rfl);(case hg=>rfl);(case hr=>first|(go_simp;done)|(go_simp;rfl));intro gb305 hg w7 hbox hb;have BK305:=aK (hbox);have GW305:=aK ((by rw [hg];exact (by first|exact HK.out.1|exact (show Kept w _ (fun k_=>P0_1_ k_∨P0_2_ k_) from by repeat (first|(with_reducible first|exact HK.out|apply Kept.alloc|apply Kept.drewN|apply Kept.drew)|exact HK.out)).1):w.heap.size≤gb305));have GE305:=aK ((by rw [hg];exact (below_size zz1):w0.heap.size≤gb305));replace HO0_1:=aK (Kd.R_below (by (with_reducible repeat (first|apply Kd.R_alloc|apply Kd.R_drewN|apply Kd.R_drew));exact HO0_1.out) hb);replace HO0_2:=aK (Kd.R_below (by (with_reducible repeat (first|apply Kd.R_alloc|apply Kd.R_drewN|apply Kd.R_drew));exact HO0_2.out) hb);replace HK:=aK (Kept.below (S:=(fun k_=>P0_1_ k_∨P0_2_ k_)) (by repeat (first|(with_reducible first|exact HK.out|apply Kept.alloc|apply Kept.drewN|apply Kept.drew)|exact HK.out)) hb);replace HB:=aK (below_step zz1 hb);clear hb hbox hg;obtain ⟨hcz8_0,hcz8_1,hcz8_2,hfz8_0,hfz8_1,hfz8_2⟩:=cbf3 BK305)|((with_reducible refine gate_callee (f:=30) rfl ?_);refine goesL_ (some 8) rfl rfl Try.func30 (by kernel_rfl) rfl #[.slice Ao5 l0_1.length co5,.int .i64 a1] rfl zz2 ?_;(with_reducible refine (laws_markIntS.calls k (fun k_=>some k_=(.slice Ao5 l0_1.length co5:Value).ownBlock) (.slice Ao5 l0_1.length co5) l0_1 a1 t306 t307 w0 _ ?side1 ?side2 A3.out).mono ?_);(case side1=>exact (by repeat (first|(with_reducible first|exact HB.out|apply below_alloc|apply pw_below_drewN|apply below_drew1|refine below_set ?_ GE305.out)|exact HB.out)));(case side2=>exact Kd.R_tight rfl HO0_1.out);rintro e w9 ⟨rfl,hy0,hb,hkp⟩;refine ⟨_,rfl,?_⟩;replace HO0_2:=aK (Kd.R_mono (ok':=fun k_=>((P0_1_ k_∨P0_2_ k_)∨w.heap.size≤k_)∧some k_≠(.slice Ao5 l0_1.length co5:Value).ownBlock) (Kd.R_keptB (HO0_2.out) hkp (fun k_ hk_ hs_=>(hk_.2) hs_)) (fun k_ hk_=>⟨hk_.1.1,hk_.1.2⟩));replace BK305:=aK (blk_kept (by (with_reducible repeat (first|refine blk_drewN ?_ _|refine blk_drew ?_|refine blk_alloc ?_ _));exact BK305.out) hkp (fun hs_=>(fun e_=>(Kd.R_ne HO0_1.out BK305.out (by decide)) e_) hs_));replace HK:=aK (Kept.then_ (S:=(fun k_=>P0_1_ k_∨P0_2_ k_)) (by repeat (first|(with_reducible first|exact HK.out|apply Kept.alloc|apply Kept.drewN|apply Kept.drew|refine Kept.setCell ?_ (.inr GW305.out) _)|exact HK.out)) hkp (fun k_ hs_=>(fun e_=>(HO0_1.out.1 k_ e_.symm).1) hs_));replace HO0_1:=aK (Kd.R_reok rfl hy0 (fun k_ e_=>HO0_1.out.1 k_ e_));replace HB:=aK (hb);(try clear hb);(try clear hkp);(try clear hy0);obtain ⟨hcz10_0,hcz10_1,hcz10_2,hfz10_0,hfz10_1,hfz10_2⟩:=cbf3 BK305)|((with_reducible refine gate_callee (f:=30) rfl ?_);refine goesL_ (some 12) rfl rfl Try.func30 (by kernel_rfl) rfl #[.slice Ao6 l0_2.length co6,.int .i64 t306] rfl zz2 ?_;(with_reducible refine (laws_markIntS.calls k (fun k_=>some k_=(.slice Ao6 l0_2.length co6:Value).ownBlock) (.slice Ao6 l0_2.length co6) l0_2 t306 t308 t309 w0 _ ?side1 ?side2 A4.out).mono ?_);(case side1=>exact (by repeat (first|(with_reducible first|exact HB.out|apply below_alloc|apply pw_below_drewN|apply below_drew1|refine below_set ?_ GE305.out)|exact HB.out)));(case side2=>exact Kd.R_tight rfl HO0_2.out);rintro e w11 ⟨rfl,hy0,hb,hkp⟩;refine ⟨_,rfl,?_⟩;replace HO0_1:=aK (Kd.R_mono (ok':=fun k_=>((P0_1_ k_∨P0_2_ k_)∨w.heap.size≤k_)∧some k_≠(.slice Ao6 l0_2.length co6:Value).ownBlock) (Kd.R_keptB (HO0_1.out) hkp (fun k_ hk_ hs_=>(hk_.2) hs_)) (fun k_ hk_=>⟨hk_.1.1,hk_.1.2⟩));replace BK305:=aK (blk_kept (by (with_reducible repeat (first|refine blk_drewN ?_ _|refine blk_drew ?_|refine blk_alloc ?_ _));exact BK305.out) hkp (fun hs_=>(fun e_=>(Kd.R_ne HO0_2.out BK305.out (by decide)) e_) hs_));replace HK:=aK (Kept.then_ (S:=(fun k_=>P0_1_ k_∨P0_2_ k_)) (by repeat (first|(with_reducible first|exact HK.out|apply Kept.alloc|apply Kept.drewN|apply Kept.drew|refine Kept.setCell ?_ (.inr GW305.out) _)|exact HK.out)) hkp (fun k_ hs_=>(fun e_=>(HO0_2.out.1 k_ e_.symm).1) hs_));replace HO0_2:=aK (Kd.R_reok rfl hy0 (fun k_ e_=>HO0_2.out.1 k_ e_));replace HB:=aK (hb);(try clear hb);(try clear hkp);(try clear hy0)))
 go_ret;exact ⟨by first|rfl|(simp [errW_none,errW_some]<;>rfl)|(simp [*,errW_none,errW_some]<;>rfl),by (with_reducible repeat (first|apply Kd.R_alloc|apply Kd.R_drewN|apply Kd.R_drew));exact Kd.R_mono HO0_1.out (fun _ hk=>hk.1),by (with_reducible repeat (first|apply Kd.R_alloc|apply Kd.R_drewN|apply Kd.R_drew));exact Kd.R_mono HO0_2.out (fun _ hk=>hk.1),by repeat (first|(with_reducible first|exact HB.out|apply below_alloc|apply pw_below_drewN|apply below_drew1|refine below_set ?_ GE305.out)|exact HB.out),by repeat (first|(with_reducible first|exact HK.out|apply Kept.alloc|apply Kept.drewN|apply Kept.drew|refine Kept.setCell ?_ (.inr GW305.out) _)|exact HK.out)⟩
def laws_heldIntS.l0:Nat→List Int→Int→Int→Option (Int)
  |0,_,_,_=>none
  |k+1,x0,x1,x5=>if x5<(x0.length:Int) then (if 0≤x5 then (if (rd x0 x5)=x1 then (laws_heldIntS.l0 k x0 (wrap64 (x1+1)) (wrap64 (x5+1))) else (some (-1))) else (none)) else (some x1)
def laws_heldIntS.f (k:Nat) (l0:List Int) (a1:Int):Option (Int):=laws_heldIntS.l0 k l0 a1 0
theorem laws_heldIntS.mono_l: ∀k,(∀y0 y1 y2,LeO (laws_heldIntS.l0 k y0 y1 y2) (laws_heldIntS.l0 (k+1) y0 y1 y2))
 |0=>fun _ _ _ r h=>by simp [laws_heldIntS.l0] at h
 | k + 1 => by
  have ih0:=laws_heldIntS.mono_l k
  ·intro y0 y1 y2
   unfold laws_heldIntS.l0;repeat' first
   |(with_reducible exact ih0 _ _ _)
   |(with_reducible exact LeO.refl _)
   |(with_reducible exact LeO.none _)
   |(with_reducible refine LeO.ite ?_ ?_)
   |(with_reducible refine LeO.bind ?_ (fun _=>?_))
   |exact ih0 _ _ _
   |exact LeO.none _
   |refine LeO.ite ?_ ?_
   |refine LeO.bind ?_ (fun _=>?_)
theorem laws_heldIntS.mono: ∀a0 a1 k,LeO (laws_heldIntS.f k a0 a1) (laws_heldIntS.f (k+1) a0 a1):=by
  intro a0 a1 k;have ih0:=laws_heldIntS.mono_l k;unfold laws_heldIntS.f
  repeat' first
      |(with_reducible exact ih0 _ _ _)
      |(with_reducible exact LeO.refl _)
      |(with_reducible exact LeO.none _)
      |(with_reducible refine LeO.ite ?_ ?_)
      |(with_reducible refine LeO.bind ?_ (fun _=>?_))
      |exact ih0 _ _ _
      |exact LeO.none _
      |refine LeO.ite ?_ ?_
      |refine LeO.bind ?_ (fun _=>?_)
set_option maxHeartbeats 8000000 in
set_option maxRecDepth 100000 in
theorem laws_heldIntS.calls (k:Nat) (A0:Option Addr) (c0:Nat) (l0:List Int) (a1:Int) (r:Int) (w:World) (hr0:Kd.C (Kd.int .i64) w A0 l0.length l0) (hc0:l0.length≤c0) (h:laws_heldIntS.f k l0 a1=some r):
  Calls Try.prog 31 #[.slice A0 l0.length c0,.int .i64 a1] w fun e w'=>e= .returned (.int .i64 r)∧Drawn0 w w':=by
 have HR0:=aK hr0;have HC0:=aK hc0;clear hr0 hc0;have H:(laws_heldIntS.l0 k l0 a1 0)=some r:=h
 clear h;have H':=aK H;clear H;go_enter Try.func31,Try.ntmps31;go_wp2
 go_loopg [1,5] k (fun kq v1 v5 w'=> ∃(x1_1:Int) (x5_1:Int),v1= .int .i64 x1_1∧v5= .int .i64 x5_1∧Aside0 (laws_heldIntS.l0 kq l0 x1_1 x5_1=some r)∧Aside0 (kq≤k)∧Drawn0 w w')
 case atStart=>exact ⟨(a1),(0),zz9,zz9,H',⟨Nat.le_refl _⟩,by repeat (first|exact Drawn0.refl _|apply Drawn0.step)⟩
 case round =>
  clear H';(try clear p2);obtain ⟨x1_1,x5_1,rfl,rfl,HA,HK1,⟨m1,rfl⟩⟩:=hrel
  cases gk with
  |zero=>exact absurd HA.out (by simp [laws_heldIntS.l0])
  | succ k1 =>
   have H:=HA.out;clear HA;simp only [laws_heldIntS.l0] at H;by_cases c3:x5_1<(l0.length:Int)
   ·rw [if_pos c3] at H
    have c3b0:decide (x5_1<(l0.length:Int))=true:=decide_eq_true c3
    clear c3;by_cases c4:0≤x5_1
    ·rw [if_pos c4] at H
     have c4b0:decide (0≤x5_1)=true:=decide_eq_true c4
     clear c4;by_cases c5:(rd l0 x5_1)=x1_1
     ·rw [if_pos c5] at H
      have c5b0:((rd l0 x5_1)==x1_1)=true:=beq_iff_eq.mpr c5
      have c5b1:((rd l0 x5_1) !=x1_1)=false:=bne_eq_false_iff_eq.mpr c5
      clear c5;have H':=aK H;clear H;have p310:0≤(x5_1:Int):=of_decide_eq_true zz6
      have q310:x5_1<(l0.length:Int):=of_decide_eq_true zz6
      obtain ⟨ad310,e310,hx310_0⟩:=Kd.at_int HR0.out x5_1 p310 q310
      cases e310
      replace p310:=eq_true p310;replace q310:=eq_true q310;go_wp2
      go_roundg k1
      case measure=>have:=HK1.out;omega
      case rel=>exact ⟨(wrap64 (x1_1+1)),(wrap64 (x5_1+1)),zz9,zz9,H',⟨by have:=HK1.out;omega⟩,by repeat (first|exact Drawn0.refl _|apply Drawn0.step)⟩
     ·rw [if_neg c5] at H
      have c5b0:((rd l0 x5_1)==x1_1)=false:=beq_eq_false_iff_ne.mpr c5
      have c5b1:((rd l0 x5_1) !=x1_1)=true:=bne_iff_ne.mpr c5
      obtain rfl:=Option.some.inj H;have p310:0≤(x5_1:Int):=of_decide_eq_true zz6
      have q310:x5_1<(l0.length:Int):=of_decide_eq_true zz6
      obtain ⟨ad310,e310,hx310_0⟩:=Kd.at_int HR0.out x5_1 p310 q310
      cases e310
      replace p310:=eq_true p310;replace q310:=eq_true q310;go_wp2;go_ret;exact ⟨zz9,zz31⟩
    ·rw [if_neg c4] at H
     exact absurd H (by simp)
   ·rw [if_neg c3] at H
    have c3b0:decide (x5_1<(l0.length:Int))=false:=decide_eq_false c3
    clear c3;obtain rfl:=Option.some.inj H;go_wp2;go_ret;exact ⟨zz9,zz31⟩
def laws_heldShape.f (k:Nat) (a0_0:Bool) (l0_1:List Int) (l0_2:List Int) (a1:Int):Option (Int):=(laws_heldIntS.f k l0_1 a1).bind fun t312=>(if t312<0 then (some (-1)) else ((laws_heldIntS.f k l0_2 t312).bind fun t313=>(if t313<0 then (some (-1)) else (some t313))))
set_option maxHeartbeats 8000000 in
set_option maxRecDepth 100000 in
theorem laws_heldShape.calls (k:Nat) (a0_0:Bool) (A0_1:Option Addr) (c0_1:Nat) (l0_1:List Int) (A0_2:Option Addr) (c0_2:Nat) (l0_2:List Int) (a1:Int) (r:Int) (w:World) (hr0_1:Kd.C (Kd.int .i64) w A0_1 l0_1.length l0_1) (hc0_1:l0_1.length≤c0_1) (hr0_2:Kd.C (Kd.int .i64) w A0_2 l0_2.length l0_2) (hc0_2:l0_2.length≤c0_2) (h:laws_heldShape.f k a0_0 l0_1 l0_2 a1=some r):
  Calls Try.prog 15 #[.agg #[.bool a0_0,.slice A0_1 l0_1.length c0_1,.slice A0_2 l0_2.length c0_2],.int .i64 a1] w fun e w'=>e= .returned (.int .i64 r)∧Below w.heap.size w w':=by
 have hu28:=Try.underlying28;have HR0_1:=aK hr0_1;have HC0_1:=aK hc0_1;clear hr0_1 hc0_1;have HR0_2:=aK hr0_2;have HC0_2:=aK hc0_2;clear hr0_2 hc0_2;have HB:=aK (Below.refl w.heap.size w);have H:((laws_heldIntS.f k l0_1 a1).bind fun t312=>(if t312<0 then (some (-1)) else ((laws_heldIntS.f k l0_2 t312).bind fun t313=>(if t313<0 then (some (-1)) else (some t313)))))=some r:=h
 clear h;replace H:=Option.bind_eq_some_iff.mp H;obtain ⟨t312,A30,H⟩:=H;(try dsimp only at H);have A3:=aK A30;clear A30;by_cases c4:t312<0
 ·rw [if_pos c4] at H
  have c4b0:decide (t312<0)=true:=decide_eq_true c4
  clear c4;obtain rfl:=Option.some.inj H;go_enter Try.func15,Try.ntmps15
  go_wp2_with (first|((with_reducible refine gate_dst (N:=2) rfl ?_);refine box_event ?hg (N:=2) ?hd (cs:= #[.bool a0_0,.slice A0_1 l0_1.length c0_1,.slice A0_2 l0_2.length c0_2]) (t:=28) ?hr ?_;(case hd=>rfl);(case hg=>rfl);(case hr=>first|(go_simp;done)|(go_simp;rfl));intro gb311 hg w5 hbox hb;have BK311:=aK (hbox);have GW311:=aK ((by rw [hg];exact (below_size zz1):w.heap.size≤gb311));have GE311:=aK ((by rw [hg];exact (below_size zz1):w.heap.size≤gb311));replace HB:=aK (below_step zz1 hb);clear hb hbox hg;obtain ⟨hcz6_0,hcz6_1,hcz6_2,hfz6_0,hfz6_1,hfz6_2⟩:=cbf3 BK311)|((with_reducible refine gate_callee (f:=31) rfl ?_);refine goesL_ (some 8) rfl rfl Try.func31 (by kernel_rfl) rfl #[.slice A0_1 l0_1.length c0_1,.int .i64 a1] rfl zz2 ?_;(with_reducible refine (laws_heldIntS.calls k _ _ l0_1 a1 t312 _ ?side1 ?side2 A3.out).mono ?_);(case side1=>exact zz21);(case side2=>exact HC0_1.out);rintro e w' ⟨rfl,⟨nd,rfl⟩⟩;refine ⟨_,rfl,?_⟩))
  go_ret;exact ⟨zz4,(by repeat (first|(with_reducible first|exact HB.out|apply below_alloc|apply pw_below_drewN|apply below_drew1|refine below_set ?_ GE311.out)|exact HB.out))⟩
 ·rw [if_neg c4] at H
  have c4b0:decide (t312<0)=false:=decide_eq_false c4
  clear c4;replace H:=Option.bind_eq_some_iff.mp H;obtain ⟨t313,A70,H⟩:=H;(try dsimp only at H);have A7:=aK A70;clear A70;by_cases c8:t313<0
  ·rw [if_pos c8] at H
   have c8b0:decide (t313<0)=true:=decide_eq_true c8
   clear c8;obtain rfl:=Option.some.inj H;go_enter Try.func15,Try.ntmps15
   go_wp2_with (first|((with_reducible refine gate_dst (N:=2) rfl ?_);refine box_event ?hg (N:=2) ?hd (cs:= #[.bool a0_0,.slice A0_1 l0_1.length c0_1,.slice A0_2 l0_2.length c0_2]) (t:=28) ?hr ?_;(case hd=>rfl);(case hg=>rfl);(case hr=>first|(go_simp;done)|(go_simp;rfl));intro gb311 hg w9 hbox hb;have BK311:=aK (hbox);have GW311:=aK ((by rw [hg];exact (below_size zz1):w.heap.size≤gb311));have GE311:=aK ((by rw [hg];exact (below_size zz1):w.heap.size≤gb311));replace HB:=aK (below_step zz1 hb);clear hb hbox hg;obtain ⟨hcz10_0,hcz10_1,hcz10_2,hfz10_0,hfz10_1,hfz10_2⟩:=cbf3 BK311)|((with_reducible refine gate_callee (f:=31) rfl ?_);refine goesL_ (some 8) rfl rfl Try.func31 (by kernel_rfl) rfl #[.slice A0_1 l0_1.length c0_1,.int .i64 a1] rfl zz2 ?_;(with_reducible refine (laws_heldIntS.calls k _ _ l0_1 a1 t312 _ ?side1 ?side2 A3.out).mono ?_);(case side1=>exact zz21);(case side2=>exact HC0_1.out);rintro e w' ⟨rfl,⟨nd,rfl⟩⟩;refine ⟨_,rfl,?_⟩)|((with_reducible refine gate_callee (f:=31) rfl ?_);refine goesL_ (some 14) rfl rfl Try.func31 (by kernel_rfl) rfl #[.slice A0_2 l0_2.length c0_2,.int .i64 t312] rfl zz2 ?_;(with_reducible refine (laws_heldIntS.calls k _ _ l0_2 t312 t313 _ ?side1 ?side2 A7.out).mono ?_);(case side1=>repeat (first|exact (Kd.C_below HR0_2.out (by repeat (first|(with_reducible first|exact HB.out|apply below_alloc|apply pw_below_drewN|apply below_drew1|refine below_set ?_ GE311.out)|exact HB.out)))|(with_reducible refine Kd.C_alloc ?_ _)|(with_reducible refine Kd.C_drewN ?_ _)|(with_reducible refine Kd.C_drew ?_)));(case side2=>exact HC0_2.out);rintro e w' ⟨rfl,⟨nd,rfl⟩⟩;refine ⟨_,rfl,?_⟩))
   go_ret;exact ⟨zz4,(by repeat (first|(with_reducible first|exact HB.out|apply below_alloc|apply pw_below_drewN|apply below_drew1|refine below_set ?_ GE311.out)|exact HB.out))⟩
  ·rw [if_neg c8] at H
   have c8b0:decide (t313<0)=false:=decide_eq_false c8
   clear c8;obtain rfl:=Option.some.inj H;go_enter Try.func15,Try.ntmps15
   go_wp2_with (first|((with_reducible refine gate_dst (N:=2) rfl ?_);refine box_event ?hg (N:=2) ?hd (cs:= #[.bool a0_0,.slice A0_1 l0_1.length c0_1,.slice A0_2 l0_2.length c0_2]) (t:=28) ?hr ?_;(case hd=>rfl);(case hg=>rfl);(case hr=>first|(go_simp;done)|(go_simp;rfl));intro gb311 hg w11 hbox hb;have BK311:=aK (hbox);have GW311:=aK ((by rw [hg];exact (below_size zz1):w.heap.size≤gb311));have GE311:=aK ((by rw [hg];exact (below_size zz1):w.heap.size≤gb311));replace HB:=aK (below_step zz1 hb);clear hb hbox hg;obtain ⟨hcz12_0,hcz12_1,hcz12_2,hfz12_0,hfz12_1,hfz12_2⟩:=cbf3 BK311)|((with_reducible refine gate_callee (f:=31) rfl ?_);refine goesL_ (some 8) rfl rfl Try.func31 (by kernel_rfl) rfl #[.slice A0_1 l0_1.length c0_1,.int .i64 a1] rfl zz2 ?_;(with_reducible refine (laws_heldIntS.calls k _ _ l0_1 a1 t312 _ ?side1 ?side2 A3.out).mono ?_);(case side1=>exact zz21);(case side2=>exact HC0_1.out);rintro e w' ⟨rfl,⟨nd,rfl⟩⟩;refine ⟨_,rfl,?_⟩)|((with_reducible refine gate_callee (f:=31) rfl ?_);refine goesL_ (some 14) rfl rfl Try.func31 (by kernel_rfl) rfl #[.slice A0_2 l0_2.length c0_2,.int .i64 t312] rfl zz2 ?_;(with_reducible refine (laws_heldIntS.calls k _ _ l0_2 t312 t313 _ ?side1 ?side2 A7.out).mono ?_);(case side1=>repeat (first|exact (Kd.C_below HR0_2.out (by repeat (first|(with_reducible first|exact HB.out|apply below_alloc|apply pw_below_drewN|apply below_drew1|refine below_set ?_ GE311.out)|exact HB.out)))|(with_reducible refine Kd.C_alloc ?_ _)|(with_reducible refine Kd.C_drewN ?_ _)|(with_reducible refine Kd.C_drew ?_)));(case side2=>exact HC0_2.out);rintro e w' ⟨rfl,⟨nd,rfl⟩⟩;refine ⟨_,rfl,?_⟩))
   go_ret;exact ⟨zz4,(by repeat (first|(with_reducible first|exact HB.out|apply below_alloc|apply pw_below_drewN|apply below_drew1|refine below_set ?_ GE311.out)|exact HB.out))⟩
def laws_szIntS.f (l0:List Int) (a1:Int):Option (Int):=if (wrap64 (a1 - (l0.length:Int)))<0 then (some (-1)) else (some (wrap64 (a1 - (l0.length:Int))))
set_option maxHeartbeats 8000000 in
set_option maxRecDepth 100000 in
theorem laws_szIntS.calls (A0:Option Addr) (c0:Nat) (l0:List Int) (a1:Int) (r:Int) (w:World) (hr0:Kd.C (Kd.int .i64) w A0 l0.length l0) (hc0:l0.length≤c0) (h:laws_szIntS.f l0 a1=some r):
  Calls Try.prog 20 #[.slice A0 l0.length c0,.int .i64 a1] w fun e w'=>e= .returned (.int .i64 r)∧Drawn0 w w':=by
 have HR0:=aK hr0;have HC0:=aK hc0;clear hr0 hc0;have H:(if (wrap64 (a1 - (l0.length:Int)))<0 then (some (-1)) else (some (wrap64 (a1 - (l0.length:Int)))))=some r:=h
 clear h;by_cases c3:(wrap64 (a1 - (l0.length:Int)))<0
 ·rw [if_pos c3] at H
  have c3b0:decide ((wrap64 (a1 - (l0.length:Int)))<0)=true:=decide_eq_true c3
  clear c3;obtain rfl:=Option.some.inj H;go_enter Try.func20,Try.ntmps20;go_wp2;go_ret;exact ⟨zz9,zz31⟩
 ·rw [if_neg c3] at H
  have c3b0:decide ((wrap64 (a1 - (l0.length:Int)))<0)=false:=decide_eq_false c3
  clear c3;obtain rfl:=Option.some.inj H;go_enter Try.func20,Try.ntmps20;go_wp2;go_ret;exact ⟨zz9,zz31⟩
def laws_szClass.f (a0_0:Int) (l0_1:List Int) (a1:Int):Option (Int):=(laws_szIntS.f l0_1 a1).bind fun t102=>(if t102<0 then (some (-1)) else (some t102))
set_option maxHeartbeats 8000000 in
set_option maxRecDepth 100000 in
theorem laws_szClass.calls (a0_0:Int) (A0_1:Option Addr) (c0_1:Nat) (l0_1:List Int) (a1:Int) (r:Int) (w:World) (hr0_1:Kd.C (Kd.int .i64) w A0_1 l0_1.length l0_1) (hc0_1:l0_1.length≤c0_1) (h:laws_szClass.f a0_0 l0_1 a1=some r):
  Calls Try.prog 19 #[.agg #[.int .i64 a0_0,.slice A0_1 l0_1.length c0_1],.int .i64 a1] w fun e w'=>e= .returned (.int .i64 r)∧Below w.heap.size w w':=by
 have hu45:=Try.underlying45;have HR0_1:=aK hr0_1;have HC0_1:=aK hc0_1;clear hr0_1 hc0_1;have HB:=aK (Below.refl w.heap.size w);have H:((laws_szIntS.f l0_1 a1).bind fun t102=>(if t102<0 then (some (-1)) else (some t102)))=some r:=h
 clear h;replace H:=Option.bind_eq_some_iff.mp H;obtain ⟨t102,A30,H⟩:=H;(try dsimp only at H);have A3:=aK A30;clear A30;by_cases c4:t102<0
 ·rw [if_pos c4] at H
  have c4b0:decide (t102<0)=true:=decide_eq_true c4
  clear c4;obtain rfl:=Option.some.inj H;go_enter Try.func19,Try.ntmps19
  go_wp2_with (first|((with_reducible refine gate_dst (N:=2) rfl ?_);refine box_event ?hg (N:=2) ?hd (cs:= #[.int .i64 a0_0,.slice A0_1 l0_1.length c0_1]) (t:=45) ?hr ?_;(case hd=>rfl);(case hg=>rfl);(case hr=>first|(go_simp;done)|(go_simp;rfl));intro gb101 hg w5 hbox hb;have BK101:=aK (hbox);have GW101:=aK ((by rw [hg];exact (below_size zz1):w.heap.size≤gb101));have GE101:=aK ((by rw [hg];exact (below_size zz1):w.heap.size≤gb101));replace HB:=aK (below_step zz1 hb);clear hb hbox hg;obtain ⟨hcz6_0,hcz6_1,hfz6_0,hfz6_1⟩:=cbf2 BK101)|((with_reducible refine gate_callee (f:=20) rfl ?_);refine goesL_ (some 8) rfl rfl Try.func20 (by kernel_rfl) rfl #[.slice A0_1 l0_1.length c0_1,.int .i64 a1] rfl zz2 ?_;(with_reducible refine (laws_szIntS.calls _ _ l0_1 a1 t102 _ ?side1 ?side2 A3.out).mono ?_);(case side1=>exact zz21);(case side2=>exact HC0_1.out);rintro e w' ⟨rfl,⟨nd,rfl⟩⟩;refine ⟨_,rfl,?_⟩))
  go_ret;exact ⟨zz4,(by repeat (first|(with_reducible first|exact HB.out|apply below_alloc|apply pw_below_drewN|apply below_drew1|refine below_set ?_ GE101.out)|exact HB.out))⟩
 ·rw [if_neg c4] at H
  have c4b0:decide (t102<0)=false:=decide_eq_false c4
  clear c4;obtain rfl:=Option.some.inj H;go_enter Try.func19,Try.ntmps19
  go_wp2_with (first|((with_reducible refine gate_dst (N:=2) rfl ?_);refine box_event ?hg (N:=2) ?hd (cs:= #[.int .i64 a0_0,.slice A0_1 l0_1.length c0_1]) (t:=45) ?hr ?_;(case hd=>rfl);(case hg=>rfl);(case hr=>first|(go_simp;done)|(go_simp;rfl));intro gb101 hg w7 hbox hb;have BK101:=aK (hbox);have GW101:=aK ((by rw [hg];exact (below_size zz1):w.heap.size≤gb101));have GE101:=aK ((by rw [hg];exact (below_size zz1):w.heap.size≤gb101));replace HB:=aK (below_step zz1 hb);clear hb hbox hg;obtain ⟨hcz8_0,hcz8_1,hfz8_0,hfz8_1⟩:=cbf2 BK101)|((with_reducible refine gate_callee (f:=20) rfl ?_);refine goesL_ (some 8) rfl rfl Try.func20 (by kernel_rfl) rfl #[.slice A0_1 l0_1.length c0_1,.int .i64 a1] rfl zz2 ?_;(with_reducible refine (laws_szIntS.calls _ _ l0_1 a1 t102 _ ?side1 ?side2 A3.out).mono ?_);(case side1=>exact zz21);(case side2=>exact HC0_1.out);rintro e w' ⟨rfl,⟨nd,rfl⟩⟩;refine ⟨_,rfl,?_⟩))
  go_ret;exact ⟨zz4,(by repeat (first|(with_reducible first|exact HB.out|apply below_alloc|apply pw_below_drewN|apply below_drew1|refine below_set ?_ GE101.out)|exact HB.out))⟩
def laws_szClassS.l0:Nat→List (S45)→Int→Int→Option (Int)
  |0,_,_,_=>none
  |k+1,x0,x1,x5=>if x5<(x0.length:Int) then (if 0≤x5 then ((laws_szClass.f ((rd_T45 x0 x5).f0) ((rd_T45 x0 x5).f1) x1).bind fun t104=>(if t104<0 then (some (-1)) else (laws_szClassS.l0 k x0 t104 (wrap64 (x5+1))))) else (none)) else (some x1)
def laws_szClassS.f (k:Nat) (l0:List (S45)) (a1:Int):Option (Int):=if (wrap64 (a1 - (l0.length:Int)))<0 then (some (-1)) else (laws_szClassS.l0 k l0 (wrap64 (a1 - (l0.length:Int))) 0)
theorem laws_szClassS.mono_l: ∀k,(∀y0 y1 y2,LeO (laws_szClassS.l0 k y0 y1 y2) (laws_szClassS.l0 (k+1) y0 y1 y2))
 |0=>fun _ _ _ r h=>by simp [laws_szClassS.l0] at h
 | k + 1 => by
  have ih0:=laws_szClassS.mono_l k
  ·intro y0 y1 y2
   unfold laws_szClassS.l0;repeat' first
   |(with_reducible exact ih0 _ _ _)
   |(with_reducible exact LeO.refl _)
   |(with_reducible exact LeO.none _)
   |(with_reducible refine LeO.ite ?_ ?_)
   |(with_reducible refine LeO.bind ?_ (fun _=>?_))
   |exact ih0 _ _ _
   |exact LeO.none _
   |refine LeO.ite ?_ ?_
   |refine LeO.bind ?_ (fun _=>?_)
theorem laws_szClassS.mono: ∀a0 a1 k,LeO (laws_szClassS.f k a0 a1) (laws_szClassS.f (k+1) a0 a1):=by
  intro a0 a1 k;have ih0:=laws_szClassS.mono_l k;unfold laws_szClassS.f
  repeat' first
      |(with_reducible exact ih0 _ _ _)
      |(with_reducible exact LeO.refl _)
      |(with_reducible exact LeO.none _)
      |(with_reducible refine LeO.ite ?_ ?_)
      |(with_reducible refine LeO.bind ?_ (fun _=>?_))
      |exact ih0 _ _ _
      |exact LeO.none _
      |refine LeO.ite ?_ ?_
      |refine LeO.bind ?_ (fun _=>?_)
set_option maxHeartbeats 8000000 in
set_option maxRecDepth 100000 in
theorem laws_szClassS.calls (k:Nat) (A0:Option Addr) (c0:Nat) (l0:List (S45)) (a1:Int) (r:Int) (w:World) (hr0:Kd.C k45 w A0 l0.length l0) (hc0:l0.length≤c0) (h:laws_szClassS.f k l0 a1=some r):
  Calls Try.prog 5 #[.slice A0 l0.length c0,.int .i64 a1] w fun e w'=>e= .returned (.int .i64 r)∧Below w.heap.size w w':=by
 have hu45:=Try.underlying45;have HR0:=aK hr0;have HC0:=aK hc0;clear hr0 hc0;have HB:=aK (Below.refl w.heap.size w);have H:(if (wrap64 (a1 - (l0.length:Int)))<0 then (some (-1)) else (laws_szClassS.l0 k l0 (wrap64 (a1 - (l0.length:Int))) 0))=some r:=h
 clear h;by_cases c3:(wrap64 (a1 - (l0.length:Int)))<0
 ·rw [if_pos c3] at H
  have c3b0:decide ((wrap64 (a1 - (l0.length:Int)))<0)=true:=decide_eq_true c3
  clear c3;obtain rfl:=Option.some.inj H;go_enter Try.func5,Try.ntmps5;go_wp2;go_ret;exact ⟨zz4,zz1⟩
 ·rw [if_neg c3] at H
  have c3b0:decide ((wrap64 (a1 - (l0.length:Int)))<0)=false:=decide_eq_false c3
  clear c3;have H':=aK H;clear H;go_enter Try.func5,Try.ntmps5;go_wp2
  go_loopg [1,5] k (fun kq v1 v5 w'=> ∃(x1_1:Int) (x5_1:Int),v1= .int .i64 x1_1∧v5= .int .i64 x5_1∧Aside0 (laws_szClassS.l0 kq l0 x1_1 x5_1=some r)∧Aside0 (kq≤k)∧Aside0 (Below w.heap.size w w'))
  case atStart=>exact ⟨(wrap64 (a1 - (l0.length:Int))),(0),zz9,zz9,H',⟨Nat.le_refl _⟩,⟨by repeat (first|(with_reducible first|exact HB.out|apply below_alloc|apply pw_below_drewN|apply below_drew1)|exact HB.out)⟩⟩
  case round =>
   clear H';(try clear p2);(try clear c3);(try clear c3b0);obtain ⟨x1_1,x5_1,rfl,rfl,HA,HK1,HB⟩:=hrel
   cases gk with
   |zero=>exact absurd HA.out (by simp [laws_szClassS.l0])
   | succ k1 =>
    have H:=HA.out;clear HA;simp only [laws_szClassS.l0] at H;by_cases c4:x5_1<(l0.length:Int)
    ·rw [if_pos c4] at H
     have c4b0:decide (x5_1<(l0.length:Int))=true:=decide_eq_true c4
     clear c4;by_cases c5:0≤x5_1
     ·rw [if_pos c5] at H
      have c5b0:decide (0≤x5_1)=true:=decide_eq_true c5
      clear c5;replace H:=Option.bind_eq_some_iff.mp H;obtain ⟨t104,A60,H⟩:=H;(try dsimp only at H);have A6:=aK A60;clear A60;by_cases c7:t104<0
      ·rw [if_pos c7] at H
       have c7b0:decide (t104<0)=true:=decide_eq_true c7
       clear c7;obtain rfl:=Option.some.inj H;have p103:0≤(x5_1:Int):=of_decide_eq_true zz6
       have q103:x5_1<(l0.length:Int):=of_decide_eq_true zz6
       obtain ⟨ad103,A103_1,c103_1,e103,hx103_0,hx103_1,hl103_1,hi103_1⟩:=at_T45 HR0.out x5_1 p103 q103
       cases e103
       replace hx103_0:=(HB.out.cell (World.block_lt_of_cell? w _ hx103_0)).trans hx103_0;replace hx103_1:=(HB.out.cell (World.block_lt_of_cell? w _ hx103_1)).trans hx103_1;have HR103_1:=aK hi103_1;have HC103_1:=aK hl103_1;clear hi103_1 hl103_1;replace p103:=eq_true p103;replace q103:=eq_true q103
       go_wp2_with (first|((with_reducible refine gate_callee (f:=19) rfl ?_);refine goesL_ (some 23) rfl rfl Try.func19 (by kernel_rfl) rfl #[.agg #[.int .i64 ((rd_T45 l0 x5_1).f0),.slice A103_1 ((rd_T45 l0 x5_1).f1).length c103_1],.int .i64 x1_1] rfl zz2 ?_;(with_reducible refine (laws_szClass.calls ((rd_T45 l0 x5_1).f0) _ _ ((rd_T45 l0 x5_1).f1) x1_1 t104 _ ?side1 ?side2 A6.out).mono ?_);(case side1=>exact (by repeat (first|exact (Kd.C_below HR103_1.out HB.out)|(with_reducible refine Kd.C_alloc ?_ _)|(with_reducible refine Kd.C_drewN ?_ _)|(with_reducible refine Kd.C_drew ?_))));(case side2=>exact HC103_1.out);rintro e w8 ⟨rfl,hb⟩;refine ⟨_,rfl,?_⟩;replace HB:=aK (below_step zz1 hb);(try clear hb);(try clear hb2);(try clear hk);(try clear hi)))
       go_ret;exact ⟨zz4,zz1⟩
      ·rw [if_neg c7] at H
       have c7b0:decide (t104<0)=false:=decide_eq_false c7
       clear c7;have H':=aK H;clear H;have p103:0≤(x5_1:Int):=of_decide_eq_true zz6
       have q103:x5_1<(l0.length:Int):=of_decide_eq_true zz6
       obtain ⟨ad103,A103_1,c103_1,e103,hx103_0,hx103_1,hl103_1,hi103_1⟩:=at_T45 HR0.out x5_1 p103 q103
       cases e103
       replace hx103_0:=(HB.out.cell (World.block_lt_of_cell? w _ hx103_0)).trans hx103_0;replace hx103_1:=(HB.out.cell (World.block_lt_of_cell? w _ hx103_1)).trans hx103_1;have HR103_1:=aK hi103_1;have HC103_1:=aK hl103_1;clear hi103_1 hl103_1;replace p103:=eq_true p103;replace q103:=eq_true q103
       go_wp2_with (first|((with_reducible refine gate_callee (f:=19) rfl ?_);refine goesL_ (some 23) rfl rfl Try.func19 (by kernel_rfl) rfl #[.agg #[.int .i64 ((rd_T45 l0 x5_1).f0),.slice A103_1 ((rd_T45 l0 x5_1).f1).length c103_1],.int .i64 x1_1] rfl zz2 ?_;(with_reducible refine (laws_szClass.calls ((rd_T45 l0 x5_1).f0) _ _ ((rd_T45 l0 x5_1).f1) x1_1 t104 _ ?side1 ?side2 A6.out).mono ?_);(case side1=>exact (by repeat (first|exact (Kd.C_below HR103_1.out HB.out)|(with_reducible refine Kd.C_alloc ?_ _)|(with_reducible refine Kd.C_drewN ?_ _)|(with_reducible refine Kd.C_drew ?_))));(case side2=>exact HC103_1.out);rintro e w9 ⟨rfl,hb⟩;refine ⟨_,rfl,?_⟩;replace HB:=aK (below_step zz1 hb);(try clear hb);(try clear hb2);(try clear hk);(try clear hi)))
       go_roundg k1
       case measure=>have:=HK1.out;omega
       case rel=>exact ⟨(t104),(wrap64 (x5_1+1)),zz9,zz9,H',⟨by have:=HK1.out;omega⟩,⟨by repeat (first|(with_reducible first|exact HB.out|apply below_alloc|apply pw_below_drewN|apply below_drew1)|exact HB.out)⟩⟩
     ·rw [if_neg c5] at H
      exact absurd H (by simp)
    ·rw [if_neg c4] at H
     have c4b0:decide (x5_1<(l0.length:Int))=false:=decide_eq_false c4
     clear c4;obtain rfl:=Option.some.inj H;go_wp2;go_ret;exact ⟨zz4,zz1⟩
def laws_szShape.f (a0_0:Bool) (l0_1:List Int) (l0_2:List Int) (a1:Int):Option (Int):=(laws_szIntS.f l0_1 a1).bind fun t106=>(if t106<0 then (some (-1)) else ((laws_szIntS.f l0_2 t106).bind fun t107=>(if t107<0 then (some (-1)) else (some t107))))
set_option maxHeartbeats 8000000 in
set_option maxRecDepth 100000 in
theorem laws_szShape.calls (a0_0:Bool) (A0_1:Option Addr) (c0_1:Nat) (l0_1:List Int) (A0_2:Option Addr) (c0_2:Nat) (l0_2:List Int) (a1:Int) (r:Int) (w:World) (hr0_1:Kd.C (Kd.int .i64) w A0_1 l0_1.length l0_1) (hc0_1:l0_1.length≤c0_1) (hr0_2:Kd.C (Kd.int .i64) w A0_2 l0_2.length l0_2) (hc0_2:l0_2.length≤c0_2) (h:laws_szShape.f a0_0 l0_1 l0_2 a1=some r):
  Calls Try.prog 6 #[.agg #[.bool a0_0,.slice A0_1 l0_1.length c0_1,.slice A0_2 l0_2.length c0_2],.int .i64 a1] w fun e w'=>e= .returned (.int .i64 r)∧Below w.heap.size w w':=by
 have hu25:=Try.underlying25;have HR0_1:=aK hr0_1;have HC0_1:=aK hc0_1;clear hr0_1 hc0_1;have HR0_2:=aK hr0_2;have HC0_2:=aK hc0_2;clear hr0_2 hc0_2;have HB:=aK (Below.refl w.heap.size w);have H:((laws_szIntS.f l0_1 a1).bind fun t106=>(if t106<0 then (some (-1)) else ((laws_szIntS.f l0_2 t106).bind fun t107=>(if t107<0 then (some (-1)) else (some t107)))))=some r:=h
 clear h;replace H:=Option.bind_eq_some_iff.mp H;obtain ⟨t106,A30,H⟩:=H;(try dsimp only at H);have A3:=aK A30;clear A30;by_cases c4:t106<0
 ·rw [if_pos c4] at H
  have c4b0:decide (t106<0)=true:=decide_eq_true c4
  clear c4;obtain rfl:=Option.some.inj H;go_enter Try.func6,Try.ntmps6
  go_wp2_with (first|((with_reducible refine gate_dst (N:=2) rfl ?_);refine box_event ?hg (N:=2) ?hd (cs:= #[.bool a0_0,.slice A0_1 l0_1.length c0_1,.slice A0_2 l0_2.length c0_2]) (t:=25) ?hr ?_;(case hd=>rfl);(case hg=>rfl);(case hr=>first|(go_simp;done)|(go_simp;rfl));intro gb105 hg w5 hbox hb;have BK105:=aK (hbox);have GW105:=aK ((by rw [hg];exact (below_size zz1):w.heap.size≤gb105));have GE105:=aK ((by rw [hg];exact (below_size zz1):w.heap.size≤gb105));replace HB:=aK (below_step zz1 hb);clear hb hbox hg;obtain ⟨hcz6_0,hcz6_1,hcz6_2,hfz6_0,hfz6_1,hfz6_2⟩:=cbf3 BK105)|((with_reducible refine gate_callee (f:=20) rfl ?_);refine goesL_ (some 8) rfl rfl Try.func20 (by kernel_rfl) rfl #[.slice A0_1 l0_1.length c0_1,.int .i64 a1] rfl zz2 ?_;(with_reducible refine (laws_szIntS.calls _ _ l0_1 a1 t106 _ ?side1 ?side2 A3.out).mono ?_);(case side1=>exact zz21);(case side2=>exact HC0_1.out);rintro e w' ⟨rfl,⟨nd,rfl⟩⟩;refine ⟨_,rfl,?_⟩))
  go_ret;exact ⟨zz4,(by repeat (first|(with_reducible first|exact HB.out|apply below_alloc|apply pw_below_drewN|apply below_drew1|refine below_set ?_ GE105.out)|exact HB.out))⟩
 ·rw [if_neg c4] at H
  have c4b0:decide (t106<0)=false:=decide_eq_false c4
  clear c4;replace H:=Option.bind_eq_some_iff.mp H;obtain ⟨t107,A70,H⟩:=H;(try dsimp only at H);have A7:=aK A70;clear A70;by_cases c8:t107<0
  ·rw [if_pos c8] at H
   have c8b0:decide (t107<0)=true:=decide_eq_true c8
   clear c8;obtain rfl:=Option.some.inj H;go_enter Try.func6,Try.ntmps6
   go_wp2_with (first|((with_reducible refine gate_dst (N:=2) rfl ?_);refine box_event ?hg (N:=2) ?hd (cs:= #[.bool a0_0,.slice A0_1 l0_1.length c0_1,.slice A0_2 l0_2.length c0_2]) (t:=25) ?hr ?_;(case hd=>rfl);(case hg=>rfl);(case hr=>first|(go_simp;done)|(go_simp;rfl));intro gb105 hg w9 hbox hb;have BK105:=aK (hbox);have GW105:=aK ((by rw [hg];exact (below_size zz1):w.heap.size≤gb105));have GE105:=aK ((by rw [hg];exact (below_size zz1):w.heap.size≤gb105));replace HB:=aK (below_step zz1 hb);clear hb hbox hg;obtain ⟨hcz10_0,hcz10_1,hcz10_2,hfz10_0,hfz10_1,hfz10_2⟩:=cbf3 BK105)|((with_reducible refine gate_callee (f:=20) rfl ?_);refine goesL_ (some 8) rfl rfl Try.func20 (by kernel_rfl) rfl #[.slice A0_1 l0_1.length c0_1,.int .i64 a1] rfl zz2 ?_;(with_reducible refine (laws_szIntS.calls _ _ l0_1 a1 t106 _ ?side1 ?side2 A3.out).mono ?_);(case side1=>exact zz21);(case side2=>exact HC0_1.out);rintro e w' ⟨rfl,⟨nd,rfl⟩⟩;refine ⟨_,rfl,?_⟩)|((with_reducible refine gate_callee (f:=20) rfl ?_);refine goesL_ (some 14) rfl rfl Try.func20 (by kernel_rfl) rfl #[.slice A0_2 l0_2.length c0_2,.int .i64 t106] rfl zz2 ?_;(with_reducible refine (laws_szIntS.calls _ _ l0_2 t106 t107 _ ?side1 ?side2 A7.out).mono ?_);(case side1=>repeat (first|exact (Kd.C_below HR0_2.out (by repeat (first|(with_reducible first|exact HB.out|apply below_alloc|apply pw_below_drewN|apply below_drew1|refine below_set ?_ GE105.out)|exact HB.out)))|(with_reducible refine Kd.C_alloc ?_ _)|(with_reducible refine Kd.C_drewN ?_ _)|(with_reducible refine Kd.C_drew ?_)));(case side2=>exact HC0_2.out);rintro e w' ⟨rfl,⟨nd,rfl⟩⟩;refine ⟨_,rfl,?_⟩))
   go_ret;exact ⟨zz4,(by repeat (first|(with_reducible first|exact HB.out|apply below_alloc|apply pw_below_drewN|apply below_drew1|refine below_set ?_ GE105.out)|exact HB.out))⟩
  ·rw [if_neg c8] at H
   have c8b0:decide (t107<0)=false:=decide_eq_false c8
   clear c8;obtain rfl:=Option.some.inj H;go_enter Try.func6,Try.ntmps6
   go_wp2_with (first|((with_reducible refine gate_dst (N:=2) rfl ?_);refine box_event ?hg (N:=2) ?hd (cs:= #[.bool a0_0,.slice A0_1 l0_1.length c0_1,.slice A0_2 l0_2.length c0_2]) (t:=25) ?hr ?_;(case hd=>rfl);(case hg=>rfl);(case hr=>first|(go_simp;done)|(go_simp;rfl));intro gb105 hg w11 hbox hb;have BK105:=aK (hbox);have GW105:=aK ((by rw [hg];exact (below_size zz1):w.heap.size≤gb105));have GE105:=aK ((by rw [hg];exact (below_size zz1):w.heap.size≤gb105));replace HB:=aK (below_step zz1 hb);clear hb hbox hg;obtain ⟨hcz12_0,hcz12_1,hcz12_2,hfz12_0,hfz12_1,hfz12_2⟩:=cbf3 BK105)|((with_reducible refine gate_callee (f:=20) rfl ?_);refine goesL_ (some 8) rfl rfl Try.func20 (by kernel_rfl) rfl #[.slice A0_1 l0_1.length c0_1,.int .i64 a1] rfl zz2 ?_;(with_reducible refine (laws_szIntS.calls _ _ l0_1 a1 t106 _ ?side1 ?side2 A3.out).mono ?_);(case side1=>exact zz21);(case side2=>exact HC0_1.out);rintro e w' ⟨rfl,⟨nd,rfl⟩⟩;refine ⟨_,rfl,?_⟩)|((with_reducible refine gate_callee (f:=20) rfl ?_);refine goesL_ (some 14) rfl rfl Try.func20 (by kernel_rfl) rfl #[.slice A0_2 l0_2.length c0_2,.int .i64 t106] rfl zz2 ?_;(with_reducible refine (laws_szIntS.calls _ _ l0_2 t106 t107 _ ?side1 ?side2 A7.out).mono ?_);(case side1=>repeat (first|exact (Kd.C_below HR0_2.out (by repeat (first|(with_reducible first|exact HB.out|apply below_alloc|apply pw_below_drewN|apply below_drew1|refine below_set ?_ GE105.out)|exact HB.out)))|(with_reducible refine Kd.C_alloc ?_ _)|(with_reducible refine Kd.C_drewN ?_ _)|(with_reducible refine Kd.C_drew ?_)));(case side2=>exact HC0_2.out);rintro e w' ⟨rfl,⟨nd,rfl⟩⟩;refine ⟨_,rfl,?_⟩))
   go_ret;exact ⟨zz4,(by repeat (first|(with_reducible first|exact HB.out|apply below_alloc|apply pw_below_drewN|apply below_drew1|refine below_set ?_ GE105.out)|exact HB.out))⟩
def spec_l6In.f (a0:Int) (a1:Int) (a2:Int):Option (Bool):=if a0≥a1 then (some (decide (a0≤a2))) else (some false)
set_option maxHeartbeats 8000000 in
set_option maxRecDepth 100000 in
theorem spec_l6In.calls (a0:Int) (a1:Int) (a2:Int) (r:Bool) (w:World) (h:spec_l6In.f a0 a1 a2=some r):
  Calls Try.prog 59 #[.int .i64 a0,.int .i64 a1,.int .i64 a2] w fun e w'=>e= .returned (.bool r)∧Drawn0 w w':=by
 have H:(if a0≥a1 then (some (decide (a0≤a2))) else (some false))=some r:=h
 clear h;by_cases c4:a0≥a1
 ·rw [if_pos c4] at H
  have c4b0:decide (a1≤a0)=true:=decide_eq_true c4
  clear c4;obtain rfl:=Option.some.inj H;go_enter Try.func59,Try.ntmps59;go_wp2;go_ret;exact ⟨zz9,zz31⟩
 ·rw [if_neg c4] at H
  have c4b0:decide (a1≤a0)=false:=decide_eq_false c4
  clear c4;obtain rfl:=Option.some.inj H;go_enter Try.func59,Try.ntmps59;go_wp2;go_ret;exact ⟨zz9,zz31⟩
def spec_l2Field.f (l0:List (S48)) (a1:Int):Option (Bool):=if a1=1 then (some true) else (if a1=3 then (some true) else (if a1=4 then (some true) else ((spec_l6In.f a1 8 (wrap64 ((wrap64 (8+(l0.length:Int))) - 1))).bind fun t108=>(some t108))))
set_option maxHeartbeats 8000000 in
set_option maxRecDepth 100000 in
theorem spec_l2Field.calls (A0:Option Addr) (c0:Nat) (l0:List (S48)) (a1:Int) (r:Bool) (w:World) (hr0:Kd.C k48 w A0 l0.length l0) (hc0:l0.length≤c0) (h:spec_l2Field.f l0 a1=some r):
  Calls Try.prog 61 #[.slice A0 l0.length c0,.int .i64 a1] w fun e w'=>e= .returned (.bool r)∧Drawn0 w w':=by
 have HR0:=aK hr0;have HC0:=aK hc0;clear hr0 hc0;have H:(if a1=1 then (some true) else (if a1=3 then (some true) else (if a1=4 then (some true) else ((spec_l6In.f a1 8 (wrap64 ((wrap64 (8+(l0.length:Int))) - 1))).bind fun t108=>(some t108)))))=some r:=h
 clear h;by_cases c3:a1=1
 ·rw [if_pos c3] at H
  have c3b0:(a1==1)=true:=beq_iff_eq.mpr c3
  have c3b1:(a1 !=1)=false:=bne_eq_false_iff_eq.mpr c3
  clear c3;obtain rfl:=Option.some.inj H;go_enter Try.func61,Try.ntmps61;go_wp2;go_ret;exact ⟨zz9,zz31⟩
 ·rw [if_neg c3] at H
  have c3b0:(a1==1)=false:=beq_eq_false_iff_ne.mpr c3
  have c3b1:(a1 !=1)=true:=bne_iff_ne.mpr c3
  by_cases c4:a1=3
  ·rw [if_pos c4] at H
   have c4b0:(a1==3)=true:=beq_iff_eq.mpr c4
   have c4b1:(a1 !=3)=false:=bne_eq_false_iff_eq.mpr c4
   clear c4;obtain rfl:=Option.some.inj H;go_enter Try.func61,Try.ntmps61;go_wp2;go_ret;exact ⟨zz9,zz31⟩
  ·rw [if_neg c4] at H
   have c4b0:(a1==3)=false:=beq_eq_false_iff_ne.mpr c4
   have c4b1:(a1 !=3)=true:=bne_iff_ne.mpr c4
   by_cases c5:a1=4
   ·rw [if_pos c5] at H
    have c5b0:(a1==4)=true:=beq_iff_eq.mpr c5
    have c5b1:(a1 !=4)=false:=bne_eq_false_iff_eq.mpr c5
    clear c5;obtain rfl:=Option.some.inj H;go_enter Try.func61,Try.ntmps61;go_wp2;go_ret;exact ⟨zz9,zz31⟩
   ·rw [if_neg c5] at H
    have c5b0:(a1==4)=false:=beq_eq_false_iff_ne.mpr c5
    have c5b1:(a1 !=4)=true:=bne_iff_ne.mpr c5
    replace H:=Option.bind_eq_some_iff.mp H;obtain ⟨t108,A60,H⟩:=H;(try dsimp only at H);have A6:=aK A60;clear A60;obtain rfl:=Option.some.inj H;go_enter Try.func61,Try.ntmps61
    go_wp2_with (first|(go_at_call 59;(with_reducible refine (spec_l6In.calls a1 8 (wrap64 ((wrap64 (8+(l0.length:Int))) - 1)) t108 _ A6.out).mono ?_);rintro e w' ⟨rfl,⟨nd,rfl⟩⟩))
    go_ret;exact ⟨zz9,zz31⟩
def spec_l2Class.l0:Nat→List (S48)→Int→Int→Int→List Int→Option (Bool)
  |0,_,_,_,_,_=>none
  |k+1,x0,x1,x6,x111000,x111001=>if x6<(x111001.length:Int) then (if 0≤x6 then ((spec_l2Field.f x0 (rd x111001 x6)).bind fun t112=>(if t112=true then (spec_l2Class.l0 k x0 x1 (wrap64 (x6+1)) x111000 x111001) else (some false))) else (none)) else (if x1=0 then (if x111000=(-1) then (some ((x111001.length:Int)==0)) else (some false)) else (if x1=1 then (if x111000=0 then (if (x111001.length:Int)=1 then (if 0<(x111001.length:Int) then (some ((rd x111001 0)==1)) else (none)) else (some false)) else (some false)) else ((spec_l6In.f x111000 0 (wrap64 (x1 - 1))).bind fun t114=>(if t114=true then (some (decide ((x111001.length:Int)≤2))) else (some false)))))
def spec_l2Class.f (k:Nat) (l0:List (S48)) (a1:Int):Option (Bool):=if 0≤a1 then (if a1<(l0.length:Int) then (spec_l2Class.l0 k l0 a1 0 ((rd_T48 l0 a1).f0) ((rd_T48 l0 a1).f1)) else (none)) else (none)
set_option maxHeartbeats 8000000 in
set_option maxRecDepth 100000 in
theorem spec_l2Class.calls (k : Nat) (A0 : Option Addr) (c0 : Nat) (l0 : List (S48)) (a1 : Int) (r : Bool) (w : World) (hr0 : Kd.C k48 w A0 l0.length l0) (hc0 : l0.length ≤ c0) (h : spec_l2Class.f k l0 a1 = some r) :
  Calls Try.prog 60 #[.slice A0 l0.length c0,.int .i64 a1] w fun e w'=>e= .returned (.bool r)∧Below w.heap.size w w':=by
 have hu48:=Try.underlying48;have HR0:=aK hr0;have HC0:=aK hc0;clear hr0 hc0;have HB:=aK (Below.refl w.heap.size w);have H:(if 0≤a1 then (if a1<(l0.length:Int) then (spec_l2Class.l0 k l0 a1 0 ((rd_T48 l0 a1).f0) ((rd_T48 l0 a1).f1)) else (none)) else (none))=some r:=h
 clear h;by_cases c3:0≤a1
 ·rw [if_pos c3] at H
  have c3b0:decide (0≤a1)=true:=decide_eq_true c3
  clear c3;by_cases c4:a1<(l0.length:Int)
  ·rw [if_pos c4] at H
   have c4b0:decide (a1<(l0.length:Int))=true:=decide_eq_true c4
   clear c4;have H':=aK H;clear H;have p109:0≤(a1:Int):=of_decide_eq_true zz6
   have q109:a1<(l0.length:Int):=of_decide_eq_true zz6
   obtain ⟨ad109,A109_1,c109_1,e109,hx109_0,hx109_1,hl109_1,hi109_1⟩:=at_T48 HR0.out a1 p109 q109
   cases e109
   have HR109_1:=aK hi109_1;have HC109_1:=aK hl109_1;clear hi109_1 hl109_1;replace p109:=eq_true p109;replace q109:=eq_true q109;go_enter Try.func60,Try.ntmps60
   go_wp2_with (first|((with_reducible refine gate_dst (N:=5) rfl ?_);(try (refine gate_guard (by rfl) ?_;dsimp only));refine box_event ?hg (N:=5) ?hd (cs:= #[.int .i64 0,.slice none 0 0]) (t:=48) ?hr ?_;(case hd=>rfl);(case hg=>rfl);(case hr=>first|(go_simp;done)|(go_simp;rfl));intro gb110 hg w5 hbox hb;have BK110:=aK (hbox);have GW110:=aK ((by rw [hg];exact (below_size zz1):w.heap.size≤gb110));have GE110:=aK ((by rw [hg];exact (below_size zz1):w.heap.size≤gb110));replace HB:=aK (below_step zz1 hb);clear hb hbox hg;obtain ⟨hcz6_0,hcz6_1,hfz6_0,hfz6_1⟩:=cbf2 BK110))
   go_loopg [6] k (fun kq v6 w'=> ∃(x6_1:Int),v6= .int .i64 x6_1∧Aside0 (spec_l2Class.l0 kq l0 a1 x6_1 ((rd_T48 l0 a1).f0) ((rd_T48 l0 a1).f1)=some r)∧Aside0 (kq≤k)∧Aside0 (w'.heap[gb110]? =some (.cells #[.int .i64 ((rd_T48 l0 a1).f0),(.slice A109_1 ((rd_T48 l0 a1).f1).length c109_1)] 48 (0,0)))∧Aside0 (Below w.heap.size w w'))
   case atStart=>exact ⟨(0),zz9,H',⟨Nat.le_refl _⟩,⟨by (with_reducible repeat (first|refine blk_drewN ?_ _|refine blk_drew ?_|refine blk_alloc ?_ _));refine blk_put (cs:= #[.int .i64 ((rd_T48 l0 a1).f0),.slice none 0 0]) ?_ 1 _ rfl;(with_reducible repeat (first|refine blk_drewN ?_ _|refine blk_drew ?_|refine blk_alloc ?_ _));refine blk_put (cs:= #[.int .i64 0,.slice none 0 0]) ?_ 0 _ rfl;(with_reducible repeat (first|refine blk_drewN ?_ _|refine blk_drew ?_|refine blk_alloc ?_ _));exact BK110.out⟩,⟨by repeat (first|(with_reducible first|exact HB.out|apply below_alloc|apply pw_below_drewN|apply below_drew1|refine below_set ?_ GE110.out)|exact HB.out)⟩⟩
   case round =>
    clear H';(try clear c1);(try clear p1);(try clear q1);(try clear hx1);(try clear p2);(try clear c3);(try clear c3b0);(try clear c4);(try clear c4b0);(try clear c6);(try clear hcz6_0);(try clear hcz6_1);(try clear hfz6_0);(try clear hfz6_1);(try clear hx109_0);(try clear hx109_1);(try clear p109);(try clear q109);obtain ⟨x6_1,rfl,HA,HK1,BK110,HB⟩:=hrel
    cases gk with
    |zero=>exact absurd HA.out (by simp [spec_l2Class.l0])
    | succ k1 =>
     have H:=HA.out;clear HA;simp only [spec_l2Class.l0] at H;by_cases c7:x6_1<(((rd_T48 l0 a1).f1).length:Int)
     ·rw [if_pos c7] at H
      have c7b0:decide (x6_1<(((rd_T48 l0 a1).f1).length:Int))=true:=decide_eq_true c7
      clear c7;by_cases c8:0≤x6_1
      ·rw [if_pos c8] at H
       have c8b0:decide (0≤x6_1)=true:=decide_eq_true c8
       clear c8;replace H:=Option.bind_eq_some_iff.mp H;obtain ⟨t112,A90,H⟩:=H;(try dsimp only at H);have A9:=aK A90;clear A90;by_cases c10:t112=true
       ·subst c10
        rw [if_pos rfl] at H;have H':=aK H;clear H;obtain ⟨hcz11_0,hcz11_1,hfz11_0,hfz11_1⟩:=cbf2 BK110;have p111:0≤(x6_1:Int):=of_decide_eq_true zz6
        have q111:x6_1<(((rd_T48 l0 a1).f1).length:Int):=of_decide_eq_true zz6
        obtain ⟨ad111,e111,hx111_0⟩:=Kd.at_int HR109_1.out x6_1 p111 q111
        cases e111
        replace hx111_0:=(HB.out.cell (World.block_lt_of_cell? w _ hx111_0)).trans hx111_0;replace p111:=eq_true p111;replace q111:=eq_true q111
        go_wp2_with (first|((with_reducible refine gate_callee (f:=61) rfl ?_);refine goesL_ (some 24) rfl rfl Try.func61 (by kernel_rfl) rfl #[.slice (some ad109) l0.length c0,.int .i64 (rd ((rd_T48 l0 a1).f1) x6_1)] rfl zz2 ?_;(with_reducible refine (spec_l2Field.calls _ _ l0 (rd ((rd_T48 l0 a1).f1) x6_1) true _ ?side1 ?side2 A9.out).mono ?_);(case side1=>exact zz5);(case side2=>exact HC0.out);rintro e w' ⟨rfl,⟨nd,rfl⟩⟩;refine ⟨_,rfl,?_⟩))
        go_roundg k1
        case measure=>have:=HK1.out;omega
        case rel=>exact ⟨(wrap64 (x6_1+1)),zz9,H',⟨by have:=HK1.out;omega⟩,⟨by (with_reducible repeat (first|refine blk_drewN ?_ _|refine blk_drew ?_|refine blk_alloc ?_ _));exact BK110.out⟩,⟨by repeat (first|(with_reducible first|exact HB.out|apply below_alloc|apply pw_below_drewN|apply below_drew1|refine below_set ?_ GE110.out)|exact HB.out)⟩⟩
       ·replace c10 := Bool.eq_false_iff.mpr c10
        subst c10;rw [if_neg (show¬(false=true) by decide)] at H;obtain rfl:=Option.some.inj H;obtain ⟨hcz12_0,hcz12_1,hfz12_0,hfz12_1⟩:=cbf2 BK110;have p111:0≤(x6_1:Int):=of_decide_eq_true zz6
        have q111:x6_1<(((rd_T48 l0 a1).f1).length:Int):=of_decide_eq_true zz6
        obtain ⟨ad111,e111,hx111_0⟩:=Kd.at_int HR109_1.out x6_1 p111 q111
        cases e111
        replace hx111_0:=(HB.out.cell (World.block_lt_of_cell? w _ hx111_0)).trans hx111_0;replace p111:=eq_true p111;replace q111:=eq_true q111
        go_wp2_with (first|((with_reducible refine gate_callee (f:=61) rfl ?_);refine goesL_ (some 24) rfl rfl Try.func61 (by kernel_rfl) rfl #[.slice (some ad109) l0.length c0,.int .i64 (rd ((rd_T48 l0 a1).f1) x6_1)] rfl zz2 ?_;(with_reducible refine (spec_l2Field.calls _ _ l0 (rd ((rd_T48 l0 a1).f1) x6_1) false _ ?side1 ?side2 A9.out).mono ?_);(case side1=>exact zz5);(case side2=>exact HC0.out);rintro e w' ⟨rfl,⟨nd,rfl⟩⟩;refine ⟨_,rfl,?_⟩))
        go_ret;exact ⟨zz4,zz42⟩
      ·rw [if_neg c8] at H
       exact absurd H (by simp)
     ·rw [if_neg c7] at H
      have c7b0:decide (x6_1<(((rd_T48 l0 a1).f1).length:Int))=false:=decide_eq_false c7
      clear c7;by_cases c13:a1=0
      ·rw [if_pos c13] at H
       have c13b0:(a1==0)=true:=beq_iff_eq.mpr c13
       have c13b1:(a1 !=0)=false:=bne_eq_false_iff_eq.mpr c13
       clear c13;by_cases c14:((rd_T48 l0 a1).f0)=(-1)
       ·rw [if_pos c14] at H
        have c14b0:(((rd_T48 l0 a1).f0)==(-1))=true:=beq_iff_eq.mpr c14
        have c14b1:(((rd_T48 l0 a1).f0) !=(-1))=false:=bne_eq_false_iff_eq.mpr c14
        clear c14;obtain rfl:=Option.some.inj H;obtain ⟨hcz15_0,hcz15_1,hfz15_0,hfz15_1⟩:=cbf2 BK110;go_wp2;go_ret;exact ⟨zz4,zz42⟩
       ·rw [if_neg c14] at H
        have c14b0:(((rd_T48 l0 a1).f0)==(-1))=false:=beq_eq_false_iff_ne.mpr c14
        have c14b1:(((rd_T48 l0 a1).f0) !=(-1))=true:=bne_iff_ne.mpr c14
        obtain rfl:=Option.some.inj H;obtain ⟨hcz16_0,hcz16_1,hfz16_0,hfz16_1⟩:=cbf2 BK110;go_wp2;go_ret;exact ⟨zz4,zz42⟩
      ·rw [if_neg c13] at H
       have c13b0:(a1==0)=false:=beq_eq_false_iff_ne.mpr c13
       have c13b1:(a1 !=0)=true:=bne_iff_ne.mpr c13
       by_cases c17:a1=1
       ·rw [if_pos c17] at H
        have c17b0:(a1==1)=true:=beq_iff_eq.mpr c17
        have c17b1:(a1 !=1)=false:=bne_eq_false_iff_eq.mpr c17
        clear c17;by_cases c18:((rd_T48 l0 a1).f0)=0
        ·rw [if_pos c18] at H
         have c18b0:(((rd_T48 l0 a1).f0)==0)=true:=beq_iff_eq.mpr c18
         have c18b1:(((rd_T48 l0 a1).f0) !=0)=false:=bne_eq_false_iff_eq.mpr c18
         clear c18;by_cases c19:(((rd_T48 l0 a1).f1).length:Int)=1
         ·rw [if_pos c19] at H
          have c19b0:((((rd_T48 l0 a1).f1).length:Int)==1)=true:=beq_iff_eq.mpr c19
          have c19b1:((((rd_T48 l0 a1).f1).length:Int) !=1)=false:=bne_eq_false_iff_eq.mpr c19
          clear c19;by_cases c20:0<(((rd_T48 l0 a1).f1).length:Int)
          ·rw [if_pos c20] at H
           have c20b0:decide (0<(((rd_T48 l0 a1).f1).length:Int))=true:=decide_eq_true c20
           have c20b1:decide (0<((rd_T48 l0 a1).f1).length)=true:=decide_eq_true (by omega)
           clear c20;obtain rfl:=Option.some.inj H;obtain ⟨hcz21_0,hcz21_1,hfz21_0,hfz21_1⟩:=cbf2 BK110;have p113:0≤(0:Int):=(by omega)
           have q113:0<(((rd_T48 l0 a1).f1).length:Int):=of_decide_eq_true zz6
           obtain ⟨ad113,e113,hx113_0⟩:=Kd.at_int HR109_1.out 0 p113 q113
           cases e113
           have qi113:(0<((rd_T48 l0 a1).f1).length)=True:=eq_true (by omega)
           (try rw [show ((0:Int)).toNat=0 from rfl] at hx113_0)
           (try rw [Addr.add_zero'] at hx113_0)
           replace hx113_0:=(HB.out.cell (World.block_lt_of_cell? w _ hx113_0)).trans hx113_0;replace p113:=eq_true p113;replace q113:=eq_true q113;go_wp2;go_ret;exact ⟨zz4,zz42⟩
          ·rw [if_neg c20] at H
           exact absurd H (by simp)
         ·rw [if_neg c19] at H
          have c19b0:((((rd_T48 l0 a1).f1).length:Int)==1)=false:=beq_eq_false_iff_ne.mpr c19
          have c19b1:((((rd_T48 l0 a1).f1).length:Int) !=1)=true:=bne_iff_ne.mpr c19
          obtain rfl:=Option.some.inj H;obtain ⟨hcz22_0,hcz22_1,hfz22_0,hfz22_1⟩:=cbf2 BK110;go_wp2;go_ret;exact ⟨zz4,zz42⟩
        ·rw [if_neg c18] at H
         have c18b0:(((rd_T48 l0 a1).f0)==0)=false:=beq_eq_false_iff_ne.mpr c18
         have c18b1:(((rd_T48 l0 a1).f0) !=0)=true:=bne_iff_ne.mpr c18
         obtain rfl:=Option.some.inj H;obtain ⟨hcz23_0,hcz23_1,hfz23_0,hfz23_1⟩:=cbf2 BK110;go_wp2;go_ret;exact ⟨zz4,zz42⟩
       ·rw [if_neg c17] at H
        have c17b0:(a1==1)=false:=beq_eq_false_iff_ne.mpr c17
        have c17b1:(a1 !=1)=true:=bne_iff_ne.mpr c17
        replace H:=Option.bind_eq_some_iff.mp H;obtain ⟨t114,A240,H⟩:=H;(try dsimp only at H);have A24:=aK A240;clear A240;by_cases c25:t114=true
        ·subst c25
         rw [if_pos rfl] at H;obtain rfl:=Option.some.inj H;obtain ⟨hcz26_0,hcz26_1,hfz26_0,hfz26_1⟩:=cbf2 BK110
         go_wp2_with (first|((with_reducible refine gate_callee (f:=59) rfl ?_);refine goesL_ (some 60) rfl rfl Try.func59 (by kernel_rfl) rfl #[.int .i64 ((rd_T48 l0 a1).f0),.int .i64 0,.int .i64 (wrap64 (a1 - 1))] rfl zz2 ?_;(with_reducible refine (spec_l6In.calls ((rd_T48 l0 a1).f0) 0 (wrap64 (a1 - 1)) true _ A24.out).mono ?_);rintro e w' ⟨rfl,⟨nd,rfl⟩⟩;refine ⟨_,rfl,?_⟩))
         go_ret;exact ⟨zz4,zz42⟩
        ·replace c25 := Bool.eq_false_iff.mpr c25
         subst c25;rw [if_neg (show¬(false=true) by decide)] at H;obtain rfl:=Option.some.inj H;obtain ⟨hcz27_0,hcz27_1,hfz27_0,hfz27_1⟩:=cbf2 BK110
         go_wp2_with (first|((with_reducible refine gate_callee (f:=59) rfl ?_);refine goesL_ (some 60) rfl rfl Try.func59 (by kernel_rfl) rfl #[.int .i64 ((rd_T48 l0 a1).f0),.int .i64 0,.int .i64 (wrap64 (a1 - 1))] rfl zz2 ?_;(with_reducible refine (spec_l6In.calls ((rd_T48 l0 a1).f0) 0 (wrap64 (a1 - 1)) false _ A24.out).mono ?_);rintro e w' ⟨rfl,⟨nd,rfl⟩⟩;refine ⟨_,rfl,?_⟩))
         go_ret;exact ⟨zz4,zz42⟩
  ·rw [if_neg c4] at H
   exact absurd H (by simp)
 ·rw [if_neg c3] at H
  exact absurd H (by simp)
def spec_ClassesOk.l0:Nat→List (S48)→Int→Option (Bool)
  |0,_,_=>none
  |k+1,x0,x3=>if x3<(x0.length:Int) then ((spec_l2Class.f k x0 x3).bind fun t116=>(if t116=true then (spec_ClassesOk.l0 k x0 (wrap64 (x3+1))) else (some false))) else (some true)
def spec_ClassesOk.f (k:Nat) (l0:List (S48)):Option (Bool):=(spec_l6In.f (l0.length:Int) 2 5).bind fun t115=>(if t115=true then (spec_ClassesOk.l0 k l0 0) else (some false))
set_option maxHeartbeats 8000000 in
set_option maxRecDepth 100000 in
theorem spec_ClassesOk.calls (k:Nat) (A0:Option Addr) (c0:Nat) (l0:List (S48)) (r:Bool) (w:World) (hr0:Kd.C k48 w A0 l0.length l0) (hc0:l0.length≤c0) (h:spec_ClassesOk.f k l0=some r):
  Calls Try.prog 46 #[.slice A0 l0.length c0] w fun e w'=>e= .returned (.bool r)∧Below w.heap.size w w':=by
 have HR0:=aK hr0;have HC0:=aK hc0;clear hr0 hc0;have HB:=aK (Below.refl w.heap.size w);have H:((spec_l6In.f (l0.length:Int) 2 5).bind fun t115=>(if t115=true then (spec_ClassesOk.l0 k l0 0) else (some false)))=some r:=h
 clear h;replace H:=Option.bind_eq_some_iff.mp H;obtain ⟨t115,A20,H⟩:=H;(try dsimp only at H);have A2:=aK A20;clear A20;by_cases c3:t115=true
 ·subst c3
  rw [if_pos rfl] at H;have H':=aK H;clear H;go_enter Try.func46,Try.ntmps46
  go_wp2_with (first|((with_reducible refine gate_callee (f:=59) rfl ?_);refine goesL_ (some 6) rfl rfl Try.func59 (by kernel_rfl) rfl #[.int .i64 (l0.length:Int),.int .i64 2,.int .i64 5] rfl zz2 ?_;(with_reducible refine (spec_l6In.calls (l0.length:Int) 2 5 true _ A2.out).mono ?_);rintro e w' ⟨rfl,⟨nd,rfl⟩⟩;refine ⟨_,rfl,?_⟩))
  go_loopg [3] k (fun kq v3 w'=> ∃(x3_1:Int),v3= .int .i64 x3_1∧Aside0 (spec_ClassesOk.l0 kq l0 x3_1=some r)∧Aside0 (kq≤k)∧Aside0 (Below w.heap.size w w'))
  case atStart=>exact ⟨(0),zz9,H',⟨Nat.le_refl _⟩,⟨by repeat (first|(with_reducible first|exact HB.out|apply below_alloc|apply pw_below_drewN|apply below_drew1)|exact HB.out)⟩⟩
  case round=>
   clear H';(try clear p2);(try clear c3);obtain ⟨x3_1,rfl,HA,HK1,HB⟩:=hrel
   cases gk with
   |zero=>exact absurd HA.out (by simp [spec_ClassesOk.l0])
   | succ k1 =>
    have H:=HA.out;clear HA;simp only [spec_ClassesOk.l0] at H;by_cases c4:x3_1<(l0.length:Int)
    ·rw [if_pos c4] at H
     have c4b0:decide (x3_1<(l0.length:Int))=true:=decide_eq_true c4
     clear c4;replace H:=Option.bind_eq_some_iff.mp H;obtain ⟨t116,A50,H⟩:=H;(try dsimp only at H);have A5:=aK A50;clear A50;by_cases c6:t116=true
     ·subst c6
      rw [if_pos rfl] at H;have H':=aK H;clear H
      go_wp2_with (first|((with_reducible refine gate_callee (f:=60) rfl ?_);refine goesL_ (some 16) rfl rfl Try.func60 (by kernel_rfl) rfl #[.slice A0 l0.length c0,.int .i64 x3_1] rfl zz2 ?_;(with_reducible refine (spec_l2Class.calls k1 _ _ l0 x3_1 true _ ?side1 ?side2 A5.out).mono ?_);(case side1=>exact zz5);(case side2=>exact HC0.out);rintro e w7 ⟨rfl,hb⟩;refine ⟨_,rfl,?_⟩;replace HB:=aK (below_step zz1 hb);(try clear hb);(try clear hb2);(try clear hk);(try clear hi)))
      go_roundg k1
      case measure=>have:=HK1.out;omega
      case rel=>exact ⟨(wrap64 (x3_1+1)),zz9,H',⟨by have:=HK1.out;omega⟩,⟨by repeat (first|(with_reducible first|exact HB.out|apply below_alloc|apply pw_below_drewN|apply below_drew1)|exact HB.out)⟩⟩
     ·replace c6 := Bool.eq_false_iff.mpr c6
      subst c6;rw [if_neg (show¬(false=true) by decide)] at H;obtain rfl:=Option.some.inj H
      go_wp2_with (first|((with_reducible refine gate_callee (f:=60) rfl ?_);refine goesL_ (some 16) rfl rfl Try.func60 (by kernel_rfl) rfl #[.slice A0 l0.length c0,.int .i64 x3_1] rfl zz2 ?_;(with_reducible refine (spec_l2Class.calls k1 _ _ l0 x3_1 false _ ?side1 ?side2 A5.out).mono ?_);(case side1=>exact zz5);(case side2=>exact HC0.out);rintro e w8 ⟨rfl,hb⟩;refine ⟨_,rfl,?_⟩;replace HB:=aK (below_step zz1 hb);(try clear hb);(try clear hb2);(try clear hk);(try clear hi)))
      go_ret;exact ⟨zz4,zz1⟩
    ·rw [if_neg c4] at H
     have c4b0:decide (x3_1<(l0.length:Int))=false:=decide_eq_false c4
     clear c4;obtain rfl:=Option.some.inj H;go_wp2;go_ret;exact ⟨zz4,zz1⟩
 ·replace c3 := Bool.eq_false_iff.mpr c3
  subst c3;rw [if_neg (show¬(false=true) by decide)] at H;obtain rfl:=Option.some.inj H;go_enter Try.func46,Try.ntmps46
  go_wp2_with (first|((with_reducible refine gate_callee (f:=59) rfl ?_);refine goesL_ (some 6) rfl rfl Try.func59 (by kernel_rfl) rfl #[.int .i64 (l0.length:Int),.int .i64 2,.int .i64 5] rfl zz2 ?_;(with_reducible refine (spec_l6In.calls (l0.length:Int) 2 5 false _ A2.out).mono ?_);rintro e w' ⟨rfl,⟨nd,rfl⟩⟩;refine ⟨_,rfl,?_⟩))
  go_ret;exact ⟨zz4,zz1⟩
end Go.Proofs.Ytehefmgplkolaaa.K
