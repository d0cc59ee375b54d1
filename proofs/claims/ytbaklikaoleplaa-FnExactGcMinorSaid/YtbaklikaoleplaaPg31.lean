import Derived.Test.YtbaklikaoleplaaPg24
import Derived.Test.YtbaklikaoleplaaPg30
namespace Go.Proofs.Ytbaklikaoleplaa.K
open Go.RowKit Go.Proofs.YtbaklikaoleplaaW.PrintWords Go.Proofs.YtbaklikaoleplaaW.PrintLast Go.Proofs.YtbaklikaoleplaaW.PrintMore
attribute [local go_sem] max2_int min2_int max_two min_two max_three min_three max_four min_four
set_option linter.unusedVariables false
set_option linter.unusedSimpArgs false
def laws_eqClassS.l0:Nat→List (S53)→List (S53)→Int→Option (Bool)
  |0,_,_,_=>none
  |k+1,x0,x1,x5=>if x5<(x0.length:Int) then (if 0≤x5 then (if x5<(x1.length:Int) then ((laws_eqClass.f k ((rd_T53 x0 x5).f0) ((rd_T53 x0 x5).f1) ((rd_T53 x1 x5).f0) ((rd_T53 x1 x5).f1)).bind fun t325=>(if t325=true then (laws_eqClassS.l0 k x0 x1 (wrap64 (x5+1))) else (some false))) else (none)) else (none)) else (some true)
def laws_eqClassS.f (k:Nat) (l0:List (S53)) (l1:List (S53)):Option (Bool):=if (l0.length:Int)=(l1.length:Int) then (laws_eqClassS.l0 k l0 l1 0) else (some false)
def laws_eqClassS.T6:Bool×List (List Nat×List Nat):=(true,[([],[]),([],[]),([0,1],[0,1]),([2],[2]),([],[]),([],[]),([4,5],[4,5]),([6],[6]),([3,7],[3,7]),([8],[8])])
def laws_eqClassS.B6:List Nat:=[0,0,3,7,0,0,48,112,255,511]
theorem laws_eqClassS.tab6:rtab .any (opsOf Try.f14 6)=laws_eqClassS.T6:=by kernel_rfl
theorem laws_eqClassS.bits6:waitsOk laws_eqClassS.T6.2 laws_eqClassS.B6=true:=by kernel_rfl
set_option maxHeartbeats 8000000 in
set_option maxRecDepth 100000 in
theorem laws_eqClassS.calls (k : Nat) (A0 : Option Addr) (c0 : Nat) (l0 : List (S53)) (A1 : Option Addr) (c1 : Nat) (l1 : List (S53)) (r : Bool) (w : World) (hr0 : Kd.C k53 w A0 l0.length l0) (hc0 : l0.length ≤ c0) (hr1 : Kd.C k53 w A1 l1.length l1) (hc1 : l1.length ≤ c1) (h : laws_eqClassS.f k l0 l1 = some r) :
  Calls Try.prog 14 #[.slice A0 l0.length c0,.slice A1 l1.length c1] w fun e w'=>e= .returned (.bool r)∧Below w.heap.size w w':=by
 have hu53:=Try.underlying53;have HR0:=aK hr0;have HC0:=aK hc0;clear hr0 hc0;have HR1:=aK hr1;have HC1:=aK hc1;clear hr1 hc1;have HB:=aK (Below.refl w.heap.size w);have H:(if (l0.length:Int)=(l1.length:Int) then (laws_eqClassS.l0 k l0 l1 0) else (some false))=some r:=h
 clear h;by_cases c3:(l0.length:Int)=(l1.length:Int)
 ·rw [if_pos c3] at H
  have c3b0:((l0.length:Int)==(l1.length:Int))=true:=beq_iff_eq.mpr c3
  have c3b1:((l0.length:Int) !=(l1.length:Int))=false:=bne_eq_false_iff_eq.mpr c3
  have c3b2:(l0.length==l1.length)=true:=by first|simpa using c3|(simp at c3 ⊢;omega)
  clear c3;have H':=aK H;clear H;go_enter Try.func14,Try.ntmps14;go_wp2
  go_loopg [5] k (fun kq v5 w'=> ∃(x5_1:Int),v5= .int .i64 x5_1∧Aside0 (laws_eqClassS.l0 kq l0 l1 x5_1=some r)∧Aside0 (kq≤k)∧Aside0 (Below w.heap.size w w'))
  case atStart=>exact ⟨(0),zz5,H',⟨Nat.le_refl _⟩,⟨by repeat (first|(with_reducible first|exact HB.out|apply below_alloc|apply pw_below_drewN|apply below_drew1)|exact HB.out)⟩⟩
  case round =>
   clear H';(try clear c1);(try clear p2);(try clear c3);(try clear c3b0);(try clear c3b1);(try clear c3b2);obtain ⟨x5_1,rfl,HA,HK1,HB⟩:=hrel
   cases gk with
   |zero=>exact absurd HA.out (by simp [laws_eqClassS.l0])
   | succ k1 =>
    have H:=HA.out;clear HA;simp only [laws_eqClassS.l0] at H;by_cases c4:x5_1<(l0.length:Int)
    ·rw [if_pos c4] at H
     have c4b0:decide (x5_1<(l0.length:Int))=true:=decide_eq_true c4
     clear c4;by_cases c5:0≤x5_1
     ·rw [if_pos c5] at H
      have c5b0:decide (0≤x5_1)=true:=decide_eq_true c5
      clear c5;by_cases c6:x5_1<(l1.length:Int)
      ·rw [if_pos c6] at H
       have c6b0:decide (x5_1<(l1.length:Int))=true:=decide_eq_true c6
       clear c6;replace H:=Option.bind_eq_some_iff.mp H;obtain ⟨t325,A70,H⟩:=H;(try dsimp only at H);have A7:=aK A70;clear A70;by_cases c8:t325=true
       ·subst c8
        rw [if_pos rfl] at H;have H':=aK H;clear H;try go_wp2
        have n0_:=aK (below_drew1 HB.out);clear HB;have HB:=n0_;clear n0_;have p323:0≤(x5_1:Int):=of_decide_eq_true zz3
        have q323:x5_1<(l0.length:Int):=of_decide_eq_true zz3
        obtain ⟨ad323,A323_1,c323_1,e323,hx323_0,hx323_1,hl323_1,hi323_1⟩:=at_T53 HR0.out x5_1 p323 q323;have hw323_1:=hx323_1;have hw323_0:=hx323_0
        cases e323
        replace hx323_0:=(HB.out.cell (World.block_lt_of_cell? w _ hx323_0)).trans hx323_0;replace hx323_1:=(HB.out.cell (World.block_lt_of_cell? w _ hx323_1)).trans hx323_1;have HR323_1:=aK hi323_1;have HC323_1:=aK hl323_1;clear hi323_1 hl323_1;replace p323:=eq_true p323;replace q323:=eq_true q323;have p324:0≤(x5_1:Int):=of_decide_eq_true zz3
        have q324:x5_1<(l1.length:Int):=of_decide_eq_true zz3
        obtain ⟨ad324,A324_1,c324_1,e324,hx324_0,hx324_1,hl324_1,hi324_1⟩:=at_T53 HR1.out x5_1 p324 q324;have hw324_1:=hx324_1;have hw324_0:=hx324_0
        cases e324
        replace hx324_0:=(HB.out.cell (World.block_lt_of_cell? w _ hx324_0)).trans hx324_0;replace hx324_1:=(HB.out.cell (World.block_lt_of_cell? w _ hx324_1)).trans hx324_1;have HR324_1:=aK hi324_1;have HC324_1:=aK hl324_1;clear hi324_1 hl324_1;replace p324:=eq_true p324;replace q324:=eq_true q324;refine sT 10 (S:=fun w'=>w'.cell? (ad323.add ((x5_1).toNat*2))=some (.int .i64 ((rd_T53 l0 x5_1).f0))∧w'.cell? ⟨(ad323.add ((x5_1).toNat*2)).block,(ad323.add ((x5_1).toNat*2)).off+1,none⟩=some (.slice A323_1 ((rd_T53 l0 x5_1).f1).length c323_1)∧w'.cell? (ad324.add ((x5_1).toNat*2))=some (.int .i64 ((rd_T53 l1 x5_1).f0))∧w'.cell? ⟨(ad324.add ((x5_1).toNat*2)).block,(ad324.add ((x5_1).toNat*2)).off+1,none⟩=some (.slice A324_1 ((rd_T53 l1 x5_1).f1).length c324_1)) (ds:=[]) ⟨((HB.out.cell (World.block_lt_of_cell? w _ hw323_0)).trans hw323_0),((HB.out.cell (World.block_lt_of_cell? w _ hw323_1)).trans hw323_1),((HB.out.cell (World.block_lt_of_cell? w _ hw324_0)).trans hw324_0),((HB.out.cell (World.block_lt_of_cell? w _ hw324_1)).trans hw324_1)⟩ (fun hHeld=>?_);refine with_tabW laws_eqClassS.tab6 laws_eqClassS.bits6 (fun HT_ HW_=>?_);generalize wr.drew=w9 at HB HR323_1 HR324_1 hx323_0 hx323_1 hx324_0 hx324_1 hHeld ⊢;refine pT 0 17 #[true,false,false,false,false,false,false,false,false,false] HT_ ?_;refine pT 1 18 #[true,true,false,false,false,false,false,false,false,false] HT_ ?_;refine pT 2 19 #[true,true,true,false,false,false,false,false,false,false] HT_ ?_;refine pT 4 21 #[true,true,true,false,true,false,false,false,false,false] HT_ ?_;refine pT 5 22 #[true,true,true,false,true,true,false,false,false,false] HT_ ?_;refine pT 6 23 #[true,true,true,false,true,true,true,false,false,false] HT_ ?_;refine tS 3 20 #[true,true,true,true,true,true,true,false,false,false] rfl rfl (take_ofW HT_.out HW_.out (by kernel_rfl)) hHeld zz12 ?_;refine tS 7 24 #[true,true,true,true,true,true,true,true,false,false] rfl rfl (take_ofW HT_.out HW_.out (by kernel_rfl)) hHeld zz12 ?_;refine one_ (i:=8) (N:=some 25) #[true,true,true,true,true,true,true,true,true,false] rfl rfl (one_of HT_.out (by kernel_rfl)) (by decide) (fun K hK=>?_);refine goes_ Try.func34 (by kernel_rfl) rfl #[.agg #[.int .i64 ((rd_T53 l0 x5_1).f0),.slice A323_1 ((rd_T53 l0 x5_1).f1).length c323_1],.agg #[.int .i64 ((rd_T53 l1 x5_1).f0),.slice A324_1 ((rd_T53 l1 x5_1).f1).length c324_1]] (by rfl) rfl rfl zz2 ?_;(with_reducible refine (laws_eqClass.calls k1 ((rd_T53 l0 x5_1).f0) _ _ ((rd_T53 l0 x5_1).f1) ((rd_T53 l1 x5_1).f0) _ _ ((rd_T53 l1 x5_1).f1) true _ ?side1 ?side2 ?side3 ?side4 A7.out).mono ?_)
        (case side1=>exact (by repeat (first|exact (Kd.C_below HR323_1.out HB.out)|(with_reducible refine Kd.C_alloc ?_ _)|(with_reducible refine Kd.C_drewN ?_ _)|(with_reducible refine Kd.C_drew ?_))))
        (case side2=>exact HC323_1.out)
        (case side3=>exact (by repeat (first|exact (Kd.C_below HR324_1.out HB.out)|(with_reducible refine Kd.C_alloc ?_ _)|(with_reducible refine Kd.C_drewN ?_ _)|(with_reducible refine Kd.C_drew ?_))))
        (case side4=>exact HC324_1.out)
        rintro e w10 ⟨rfl,hb⟩;refine ⟨_,rfl,?_⟩;have n0_:=aK (below_step zz1 hb);clear HB;have HB:=n0_;clear n0_;(try clear hb);(try clear hb2);(try clear hk);(try clear hi);refine hK.out _ _ ⟨((HB.out.cell (World.block_lt_of_cell? w _ hw323_0)).trans hw323_0),((HB.out.cell (World.block_lt_of_cell? w _ hw323_1)).trans hw323_1),((HB.out.cell (World.block_lt_of_cell? w _ hw324_0)).trans hw324_0),((HB.out.cell (World.block_lt_of_cell? w _ hw324_1)).trans hw324_1)⟩ (fun hHeld=>?_);clear hK K;refine nS 25 ?_;refine pT 9 26 #[true,true,true,true,true,true,true,true,true,true] HT_ ?_;refine done_ (done_of HT_.out (by kernel_rfl)) ?_;try go_wp2
        go_roundg k1
        case measure=>have:=HK1.out;omega
        case rel=>exact ⟨(wrap64 (x5_1+1)),zz5,H',⟨by have:=HK1.out;omega⟩,⟨by repeat (first|(with_reducible first|exact HB.out|apply below_alloc|apply pw_below_drewN|apply below_drew1)|exact HB.out)⟩⟩
       ·replace c8 := Bool.eq_false_iff.mpr c8
        subst c8;rw [if_neg (show¬(false=true) by decide)] at H;obtain rfl:=Option.some.inj H;try go_wp2
        have n0_:=aK (below_drew1 HB.out);clear HB;have HB:=n0_;clear n0_;have p323:0≤(x5_1:Int):=of_decide_eq_true zz3
        have q323:x5_1<(l0.length:Int):=of_decide_eq_true zz3
        obtain ⟨ad323,A323_1,c323_1,e323,hx323_0,hx323_1,hl323_1,hi323_1⟩:=at_T53 HR0.out x5_1 p323 q323;have hw323_1:=hx323_1;have hw323_0:=hx323_0
        cases e323
        replace hx323_0:=(HB.out.cell (World.block_lt_of_cell? w _ hx323_0)).trans hx323_0;replace hx323_1:=(HB.out.cell (World.block_lt_of_cell? w _ hx323_1)).trans hx323_1;have HR323_1:=aK hi323_1;have HC323_1:=aK hl323_1;clear hi323_1 hl323_1;replace p323:=eq_true p323;replace q323:=eq_true q323;have p324:0≤(x5_1:Int):=of_decide_eq_true zz3
        have q324:x5_1<(l1.length:Int):=of_decide_eq_true zz3
        obtain ⟨ad324,A324_1,c324_1,e324,hx324_0,hx324_1,hl324_1,hi324_1⟩:=at_T53 HR1.out x5_1 p324 q324;have hw324_1:=hx324_1;have hw324_0:=hx324_0
        cases e324
        replace hx324_0:=(HB.out.cell (World.block_lt_of_cell? w _ hx324_0)).trans hx324_0;replace hx324_1:=(HB.out.cell (World.block_lt_of_cell? w _ hx324_1)).trans hx324_1;have HR324_1:=aK hi324_1;have HC324_1:=aK hl324_1;clear hi324_1 hl324_1;replace p324:=eq_true p324;replace q324:=eq_true q324;refine sT 10 (S:=fun w'=>w'.cell? (ad323.add ((x5_1).toNat*2))=some (.int .i64 ((rd_T53 l0 x5_1).f0))∧w'.cell? ⟨(ad323.add ((x5_1).toNat*2)).block,(ad323.add ((x5_1).toNat*2)).off+1,none⟩=some (.slice A323_1 ((rd_T53 l0 x5_1).f1).length c323_1)∧w'.cell? (ad324.add ((x5_1).toNat*2))=some (.int .i64 ((rd_T53 l1 x5_1).f0))∧w'.cell? ⟨(ad324.add ((x5_1).toNat*2)).block,(ad324.add ((x5_1).toNat*2)).off+1,none⟩=some (.slice A324_1 ((rd_T53 l1 x5_1).f1).length c324_1)) (ds:=[]) ⟨((HB.out.cell (World.block_lt_of_cell? w _ hw323_0)).trans hw323_0),((HB.out.cell (World.block_lt_of_cell? w _ hw323_1)).trans hw323_1),((HB.out.cell (World.block_lt_of_cell? w _ hw324_0)).trans hw324_0),((HB.out.cell (World.block_lt_of_cell? w _ hw324_1)).trans hw324_1)⟩ (fun hHeld=>?_);refine with_tabW laws_eqClassS.tab6 laws_eqClassS.bits6 (fun HT_ HW_=>?_);generalize wr.drew=w11 at HB HR323_1 HR324_1 hx323_0 hx323_1 hx324_0 hx324_1 hHeld ⊢;refine pT 0 17 #[true,false,false,false,false,false,false,false,false,false] HT_ ?_;refine pT 1 18 #[true,true,false,false,false,false,false,false,false,false] HT_ ?_;refine pT 2 19 #[true,true,true,false,false,false,false,false,false,false] HT_ ?_;refine pT 4 21 #[true,true,true,false,true,false,false,false,false,false] HT_ ?_;refine pT 5 22 #[true,true,true,false,true,true,false,false,false,false] HT_ ?_;refine pT 6 23 #[true,true,true,false,true,true,true,false,false,false] HT_ ?_;refine tS 3 20 #[true,true,true,true,true,true,true,false,false,false] rfl rfl (take_ofW HT_.out HW_.out (by kernel_rfl)) hHeld zz12 ?_;refine tS 7 24 #[true,true,true,true,true,true,true,true,false,false] rfl rfl (take_ofW HT_.out HW_.out (by kernel_rfl)) hHeld zz12 ?_;refine one_ (i:=8) (N:=some 25) #[true,true,true,true,true,true,true,true,true,false] rfl rfl (one_of HT_.out (by kernel_rfl)) (by decide) (fun K hK=>?_);refine goes_ Try.func34 (by kernel_rfl) rfl #[.agg #[.int .i64 ((rd_T53 l0 x5_1).f0),.slice A323_1 ((rd_T53 l0 x5_1).f1).length c323_1],.agg #[.int .i64 ((rd_T53 l1 x5_1).f0),.slice A324_1 ((rd_T53 l1 x5_1).f1).length c324_1]] (by rfl) rfl rfl zz2 ?_;(with_reducible refine (laws_eqClass.calls k1 ((rd_T53 l0 x5_1).f0) _ _ ((rd_T53 l0 x5_1).f1) ((rd_T53 l1 x5_1).f0) _ _ ((rd_T53 l1 x5_1).f1) false _ ?side1 ?side2 ?side3 ?side4 A7.out).mono ?_)
        (case side1=>exact (by repeat (first|exact (Kd.C_below HR323_1.out HB.out)|(with_reducible refine Kd.C_alloc ?_ _)|(with_reducible refine Kd.C_drewN ?_ _)|(with_reducible refine Kd.C_drew ?_))))
        (case side2=>exact HC323_1.out)
        (case side3=>exact (by repeat (first|exact (Kd.C_below HR324_1.out HB.out)|(with_reducible refine Kd.C_alloc ?_ _)|(with_reducible refine Kd.C_drewN ?_ _)|(with_reducible refine Kd.C_drew ?_))))
        (case side4=>exact HC324_1.out)
        rintro e w12 ⟨rfl,hb⟩;refine ⟨_,rfl,?_⟩;have n0_:=aK (below_step zz1 hb);clear HB;have HB:=n0_;clear n0_;(try clear hb);(try clear hb2);(try clear hk);(try clear hi);refine hK.out _ _ ⟨((HB.out.cell (World.block_lt_of_cell? w _ hw323_0)).trans hw323_0),((HB.out.cell (World.block_lt_of_cell? w _ hw323_1)).trans hw323_1),((HB.out.cell (World.block_lt_of_cell? w _ hw324_0)).trans hw324_0),((HB.out.cell (World.block_lt_of_cell? w _ hw324_1)).trans hw324_1)⟩ (fun hHeld=>?_);clear hK K;refine nS 25 ?_;refine pT 9 26 #[true,true,true,true,true,true,true,true,true,true] HT_ ?_;refine done_ (done_of HT_.out (by kernel_rfl)) ?_;try go_wp2
        go_ret;exact ⟨zz6,zz1⟩
      ·rw [if_neg c6] at H
       exact absurd H (by simp)
     ·rw [if_neg c5] at H
      exact absurd H (by simp)
    ·rw [if_neg c4] at H
     have c4b0:decide (x5_1<(l0.length:Int))=false:=decide_eq_false c4
     clear c4;obtain rfl:=Option.some.inj H;go_wp2;go_ret;exact ⟨zz6,zz1⟩
 ·rw [if_neg c3] at H
  have c3b0:((l0.length:Int)==(l1.length:Int))=false:=beq_eq_false_iff_ne.mpr c3
  have c3b1:((l0.length:Int) !=(l1.length:Int))=true:=bne_iff_ne.mpr c3
  have c3b2:(l0.length==l1.length)=false:=by first|simpa using c3|(simp at c3 ⊢;omega)
  obtain rfl:=Option.some.inj H;go_enter Try.func14,Try.ntmps14;go_wp2;go_ret;exact ⟨zz6,zz1⟩
def laws_markIntS.l0:Nat→List Int→Int→Int→Option (Int×List Int)
  |0,_,_,_=>none
  |k+1,x0,x1,x5=>if x5<(x0.length:Int) then (if 0≤x5 then (laws_markIntS.l0 k (x0.set (x5:Int).toNat x1) (wrap64 (x1+1)) (wrap64 (x5+1))) else (none)) else (some (x1,x0))
def laws_markIntS.f (k:Nat) (l0:List Int) (a1:Int):Option (Int×List Int):=laws_markIntS.l0 k l0 a1 0
theorem laws_markIntS.mono_l: ∀k,(∀y0 y1 y2,LeO (laws_markIntS.l0 k y0 y1 y2) (laws_markIntS.l0 (k+1) y0 y1 y2))
 |0=>fun _ _ _ r h=>by simp [laws_markIntS.l0] at h
 | k + 1 => by
  have ih0:=laws_markIntS.mono_l k
  ·intro y0 y1 y2
   unfold laws_markIntS.l0;repeat' first
   |(with_reducible exact ih0 _ _ _)
   |(with_reducible exact LeO.refl _)
   |(with_reducible exact LeO.none _)
   |(with_reducible refine LeO.ite ?_ ?_)
   |(with_reducible refine LeO.bind ?_ (fun _=>?_))
   |exact ih0 _ _ _
   |exact LeO.none _
   |refine LeO.ite ?_ ?_
   |refine LeO.bind ?_ (fun _=>?_)
theorem laws_markIntS.mono: ∀a0 a1 k,LeO (laws_markIntS.f k a0 a1) (laws_markIntS.f (k+1) a0 a1):=by
  intro a0 a1 k;have ih0:=laws_markIntS.mono_l k;unfold laws_markIntS.f
  repeat' first
      |(with_reducible exact ih0 _ _ _)
      |(with_reducible exact LeO.refl _)
      |(with_reducible exact LeO.none _)
      |(with_reducible refine LeO.ite ?_ ?_)
      |(with_reducible refine LeO.bind ?_ (fun _=>?_))
      |exact ih0 _ _ _
      |exact LeO.none _
      |refine LeO.ite ?_ ?_
      |refine LeO.bind ?_ (fun _=>?_)
set_option maxHeartbeats 8000000 in
set_option maxRecDepth 100000 in
theorem laws_markIntS.calls (k:Nat) (P0_:Nat→Prop) (u9000_:Value) (l0:List Int) (a1:Int) (r1:Int) (r2:List Int) (w0 w:World) (hB:Below w0.heap.size w0 w) (ho0:Kd.R (Kd.int .i64) 3 w w0.heap.size P0_ u9000_ l0) (h:laws_markIntS.f k l0 a1=some (r1,r2)):
  Calls Try.prog 17 #[u9000_,.int .i64 a1] w fun e w'=>e= .returned (.int .i64 r1)∧Kd.R (Kd.int .i64) 3 w' w0.heap.size (fun k_=>(P0_ k_∨w.heap.size≤k_)) u9000_ r2∧Below w0.heap.size w0 w'∧Kept w w' (fun k_=>P0_ k_):=by
 have HO0:=aK (show Kd.R (Kd.int .i64) 3 w w0.heap.size (fun k_=>(P0_ k_∨w.heap.size≤k_)) u9000_ l0 from Kd.R_mono ho0 (fun k_ hk=>(.inl hk)));have HK:=aK (Kept.refl w (fun k_=>P0_ k_));have HW0:=aK hB.size;have HB:=aK hB;clear hB;have H:(laws_markIntS.l0 k l0 a1 0)=some (r1,r2):=h
 clear h;have H':=aK H;clear H;go_enter Try.func17,Try.ntmps17;go_wp2
 go_loopg [1,5] k (fun kq v1 v5 w'=> ∃(x0_1:List Int) (x1_1:Int) (x5_1:Int),v1= .int .i64 x1_1∧v5= .int .i64 x5_1∧Aside0 (laws_markIntS.l0 kq x0_1 x1_1 x5_1=some (r1,r2))∧Aside0 (kq≤k)∧Aside0 (Kd.R (Kd.int .i64) 3 w' w0.heap.size (fun k_=>(P0_ k_∨w.heap.size≤k_)) u9000_ x0_1)∧Aside0 (Kept w w' (fun k_=>P0_ k_))∧Aside0 (Below w0.heap.size w0 w'))
 case atStart=>exact ⟨(l0),(a1),(0),zz5,zz5,H',⟨Nat.le_refl _⟩,⟨by (with_reducible repeat (first|apply Kd.R_alloc|apply Kd.R_drewN|apply Kd.R_drew));exact HO0.out⟩,⟨by repeat (first|(with_reducible first|exact HK.out|apply Kept.alloc|apply Kept.drewN|apply Kept.drew)|exact HK.out)⟩,⟨by repeat (first|(with_reducible first|exact HB.out|apply below_alloc|apply pw_below_drewN|apply below_drew1)|exact HB.out)⟩⟩
 case round=>
  clear H';(try clear c1);(try clear p2);obtain ⟨x0_1,x1_1,x5_1,rfl,rfl,HA,HK1,HO_0,HK,HB⟩:=hrel
  cases gk with
  |zero=>exact absurd HA.out (by simp [laws_markIntS.l0])
  | succ k1 =>
   have H:=HA.out;clear HA;simp only [laws_markIntS.l0] at H;by_cases c3:x5_1<(x0_1.length:Int)
   ·rw [if_pos c3] at H
    have c3b0:decide (x5_1<(x0_1.length:Int))=true:=decide_eq_true c3
    clear c3;by_cases c4:0≤x5_1
    ·rw [if_pos c4] at H
     have c4b0:decide (0≤x5_1)=true:=decide_eq_true c4
     clear c4;obtain ⟨y326,hy326⟩: ∃y_:List Int,y_=(x0_1.set (x5_1:Int).toNat x1_1):=⟨_,rfl⟩;replace H:(laws_markIntS.l0 k1 y326 (wrap64 (x1_1+1)) (wrap64 (x5_1+1)))=some (r1,r2):=by first|(rw [hy326];with_reducible exact H)|(have H2_:=(Option.bind_some _ _).symm.trans H;rw [hy326];with_reducible exact H2_)|(have H2_:=(Option.bind_some _ _).symm.trans H;with_reducible exact H2_)|with_reducible exact H|(rw [hy326];exact H)|exact H
     have Ny326:=aK hy326;clear hy326;have H':=aK H;clear H;obtain ⟨Ao6,co6,eo6⟩:=Kd.R_slice HO_0.out;subst eo6;have p5:0≤(x5_1:Int):=of_decide_eq_true zz3
     have q5:(x5_1:Int)<((x0_1.length:Int):Int):=of_decide_eq_true zz3
     obtain ⟨go5,co5,eo5,gb5,gl5,cl5,HG5⟩:=Kd.R_form HO_0.out (by omega)
     (first|cases eo5|(injection eo5 with ea_ en_ ec_;(first|subst ea_|(injection ea_ with ea_;subst ea_));subst ec_;clear en_))
     have GB5:=aK gb5;have GG5:=aK HG5;clear gb5 gl5 HG5;have HMgo5:=aK (show (P0_ go5∨w.heap.size≤go5) from (HO_0.out.1 _ rfl));obtain ⟨hx5_0,hf5_0⟩:=Kd.R_celln 0 HO_0.out (x5_1:Int) p5 q5;replace p5:=eq_true p5;replace q5:=eq_true q5;have HP7:=Kd.R_putg HO_0.out (x5_1:Int) x1_1
     go_wp2_with (first|((with_reducible refine gate_store (t:=3) (p:=15) rfl ?_);refine store_event (t:=3) (p:=15) (v:=?vo_w8) (w1:=(wr.setCell ⟨go5,(x5_1:Int).toNat,none⟩ (.int .i64 x1_1))) ?hg ?ho ?hn ?hr ?_;(case ho=>rfl);(case hg=>rfl);(case hn=>rfl);(case hr=>first|(go_simp;done)|(go_simp;rfl)|((try (first|(obtain ⟨_,_,rfl⟩:=Kd.R_slice HO_0.out)|(obtain ⟨_,_,rfl⟩:=Kd.S_slice HO_0.out)));first|(go_simp;done)|(go_simp;rfl)));intro w8 hw;have hg:wr.grownBy w8 (some go5):=(by rw [hw];exact HP7.2);have hp_:Kd.R (Kd.int .i64) 3 w8 w0.heap.size (fun k_=>(P0_ k_∨w.heap.size≤k_)) (.slice (some ⟨go5,0,none⟩) x0_1.length co6) y326:=(by rw [hw,Ny326.out];exact HP7.1);clear HP7;replace HB:=aK ((by rw [hw];exact below_set (HB.out) GB5.out:Below w0.heap.size w0 w8));replace HK:=aK (Kept.of_grown (S:=(fun k_=>P0_ k_)) hg zz55 (fun k_ e_=>(HO_0.out.1 k_ e_)));replace HO_0:=aK (hp_);clear hg hw hp_))
     go_roundg k1
     case measure=>have:=HK1.out;omega
     case rel=>exact ⟨(y326),(wrap64 (x1_1+1)),(wrap64 (x5_1+1)),zz5,zz5,H',⟨by have:=HK1.out;omega⟩,⟨by (with_reducible repeat (first|apply Kd.R_alloc|apply Kd.R_drewN|apply Kd.R_drew));exact HO_0.out⟩,⟨by repeat (first|(with_reducible first|exact HK.out|apply Kept.alloc|apply Kept.drewN|apply Kept.drew)|exact HK.out)⟩,⟨by repeat (first|(with_reducible first|exact HB.out|apply below_alloc|apply pw_below_drewN|apply below_drew1)|exact HB.out)⟩⟩
    ·rw [if_neg c4] at H
     exact absurd H (by simp)
   ·rw [if_neg c3] at H
    have c3b0:decide (x5_1<(x0_1.length:Int))=false:=decide_eq_false c3
    clear c3;simp only [Option.some.injEq,Prod.mk.injEq] at H;obtain ⟨rfl,rfl⟩:=H;obtain ⟨Ao9,co9,eo9⟩:=Kd.R_slice HO_0.out;subst eo9;go_wp2;go_ret;exact ⟨by first|rfl|(simp [errW_none,errW_some]<;>rfl)|(simp [*,errW_none,errW_some]<;>rfl),by (with_reducible repeat (first|apply Kd.R_alloc|apply Kd.R_drewN|apply Kd.R_drew));exact HO_0.out,by repeat (first|(with_reducible first|exact HB.out|apply below_alloc|apply pw_below_drewN|apply below_drew1)|exact HB.out),by repeat (first|(with_reducible first|exact HK.out|apply Kept.alloc|apply Kept.drewN|apply Kept.drew)|exact HK.out)⟩
def mcs (K:Nat):List S53→Int→Option Int
  |[],a=>some a
  |x::r,a=>(laws_markIntS.f K x.f1 (wrap64 (a+1))).bind fun p=>mcs K r p.1
set_option maxHeartbeats 8000000 in
set_option maxRecDepth 100000 in
theorem laws_markClassS.calls (K:Nat) (P:Nat→Prop) (A:Option Addr) (n cap:Nat) (l:List S53) (a r:Int) (w0 w:World) (hB:Below w0.heap.size w0 w) (hs:Kd.S k53 53 w w0.heap.size P (.slice A n cap) l) (hl:l.length≤1048576) (h:mcs K l a=some r):
  Calls Try.prog 15 #[.slice A n cap,.int .i64 a] w fun e w'=>e= .returned (.int .i64 r)∧Below w0.heap.size w0 w'∧Kept w w' P:=by
 have HN:=(Kd.R_reads' (Kd.S_R hs)).1;subst HN;have HS:=aK hs;have HB:=aK hB;have HL:=aK hl;have HA:=aK h;clear hs hB hl h;go_enter Try.func15,Try.ntmps15;go_wp2
 go_loopw [1,5] (fun v1 v5 wr=> ∃(j:Nat) (b:Int) (l2:List S53),v1= .int .i64 b∧v5= .int .i64 j∧l2.length=l.length∧j≤l.length∧Aside0 (mcs K (l2.drop j) b=some r)∧Aside0 (Kd.S k53 53 wr w0.heap.size P (.slice A l.length cap) l2)∧Aside0 (Below w0.heap.size w0 wr)∧Aside0 (Kept w wr P)) (fun _ v5 _=>l.length - (intOf v5).toNat)
 case atStart=>exact ⟨0,a,l,rfl,rfl,rfl,Nat.zero_le _,by rw [List.drop_zero];exact HA,HS,HB,⟨Kept.refl _ _⟩⟩
 case round=>
  clear HA HS HB;obtain ⟨j,b,l2,rfl,rfl,hl2,hj,HA,HS,HB,HK⟩:=hrel;by_cases c:j<l.length
  ·have d0 : decide ((j : Int) < l.length) = true := decide_eq_true (by omega)
   have hlt:j<l2.length:=by omega
   obtain ⟨g,cp,hv,hbg,hgl,_⟩:=Kd.R_form (Kd.S_R HS.out) (by omega);injection hv with e1 e2 e3;subst e1 e3;have hPg:P g:=(Kd.S_R HS.out).1 g (by simp [Value.ownBlock])
   obtain ⟨oki,cc,hcl,hM,hcc,hoki,hH⟩:=Kd.S_lend HS.out z53 (j:Int) (by omega) (by omega);obtain ⟨x,hx⟩: ∃x,x=l2.getD ((j:Int)).toNat z53:=⟨_,rfl⟩;rw [←hx] at hM;obtain ⟨v1,hc1,hr1⟩:=k53_openM hM;subst hc1;obtain ⟨hc0,hfr⟩:=Kd.H_at hH (by omega) (by omega);have q0:wr.cell? ⟨g,j*2,none⟩=some (.int .i64 x.f0):=hc0 0 _ rfl
   have f0:wr.frozen? ⟨g,j*2,none⟩=false:=hfr 0
   have hst:Kd.S k53 53 (wr.setCell ⟨g,j*2,none⟩ (.int .i64 b)) w0.heap.size P (.slice (some ⟨g,0,none⟩) l.length cap) (l2.set j ⟨b,x.f1⟩):=(Kd.S_seg0 (seg:=[.int .i64 b]) (j:=0) (x':=⟨b,x.f1⟩) hH (by omega) (by omega) (show 0+1≤2 by omega) (k53_mkM wr w0.heap.size oki ⟨b,x.f1⟩ hr1) (fun _ h=>h)).1
   obtain ⟨oki2,cc2,hcl2,hM2,hcc2,hoki2,hH2⟩:=Kd.S_lend hst z53 (j:Int) (by omega) (by omega)
   have hx2:(l2.set j ⟨b,x.f1⟩).getD ((j:Int)).toNat z53=⟨b,x.f1⟩:=by
    rw [Int.toNat_natCast,List.getD_eq_getElem?_getD,List.getElem?_set_self hlt];rfl
   rw [hx2] at hM2;obtain ⟨v2,hc2,hr2⟩:=k53_openM hM2;subst hc2;obtain ⟨A2,c2,rfl⟩:=Kd.R_slice hr2;have q3:(wr.setCell ⟨g,j*2,none⟩ (.int .i64 b)).cell? ⟨g,j*2+1,none⟩=some (.slice A2 x.f1.length c2):=hcc2 1 _ rfl
   have ha:=HA.out;have hxe:l2[j]=x:=by rw [hx,Int.toNat_natCast,List.getD_eq_getElem?_getD,List.getElem?_eq_getElem hlt];rfl
   rw [List.drop_eq_getElem_cons hlt,hxe,mcs] at ha;obtain ⟨⟨n1,n2⟩,hm,hrest⟩:=Option.bind_eq_some_iff.mp ha;have HM:=aK hm;have HRest:=aK hrest;have HH:=aK hH2;have HO2:=aK hoki2;have HR2:=aK hr2;have HPg:=aK hPg;have HJ:=aK (show j<l2.length∧l2.length=l.length∧j<l.length from ⟨hlt,hl2,c⟩);have HB2:=aK (HB.out.setCell (p:=⟨g,j*2,none⟩) hbg (.int .i64 b));have HK2:=aK (HK.out.setCell (p:=⟨g,j*2,none⟩) (.inl hPg) (.int .i64 b));have p1:=eq_true (show (0:Int)≤(j:Int) by omega);have p2:=eq_true (show (j:Int)<(l.length:Int) by omega);clear hH hM hoki hr1 hx hcc hc0 hfr hcl e2 hbg hgl hlt hl2 c hj hst hcl2 hM2 hcc2 hoki2 hH2 hx2 hr2 ha hxe hm hrest hPg HA HB HK HS
   go_wp2_with fail
   go_at_call 17;refine (laws_markIntS.calls K oki2 (.slice A2 x.f1.length c2) x.f1 (wrap64 (b+1)) n1 n2 w0 _ HB2.out HR2.out HM.out).mono ?_;rintro e w3 ⟨rfl,hr3,hb3,hk3⟩;have HB3:=aK hb3;have HK3:=aK (HK2.out.then_ hk3 (fun k hk=> .inl (HO2.out k hk).1));have HS3:=aK (Kd.H_back (Kd.H_kept HH.out hk3 (fun _ _ hn=>hn)) (x':=⟨b,n2⟩) (k53_mkM w3 w0.heap.size oki2 ⟨b,n2⟩ (Kd.R_of_own (Kd.own_of_R hr3) HR2.out.1)) (fun _ h=>h));clear hr3 hb3 hk3 q0 q3 f0;go_wp2
   go_roundw
   case rel=>exact ⟨j+1,n1,_,rfl,by rw [show wrap64 ((j:Int)+1)=((j+1:Nat):Int) by have:=HL.out;have:=HJ.out;unfold wrap64;omega],by rw [List.length_set,List.length_set];exact HJ.out.2.1,by have:=HJ.out;omega,⟨by rw [Int.toNat_natCast,List.drop_set_of_lt (by omega),List.drop_set_of_lt (by omega)];exact HRest.out⟩,HS3,HB3,HK3⟩
   case measure=>rw [show wrap64 ((j:Int)+1)=((j+1:Nat):Int) by have:=HL.out;have:=HJ.out;unfold wrap64;omega];have:=HJ.out;simp only [intOf,Int.toNat_natCast];omega
  ·have d0 : decide ((j : Int) < l.length) = false := decide_eq_false (by omega)
   have ha:=HA.out;rw [List.drop_eq_nil_of_le (by omega)] at ha;have HR:=aK (Option.some.inj ha);clear ha;go_wp2;go_ret;exact ⟨by rw [←HR.out];rfl,HB.out,HK.out⟩
def laws_markBoolS.l0:Nat→List Bool→Int→Int→Option (Int×List Bool)
  |0,_,_,_=>none
  |k+1,x0,x1,x5=>if x5<(x0.length:Int) then (if 0≤x5 then (laws_markBoolS.l0 k (x0.set (x5:Int).toNat ((Int.tmod x1 3)==0)) (wrap64 (x1+1)) (wrap64 (x5+1))) else (none)) else (some (x1,x0))
def laws_markBoolS.f (k:Nat) (l0:List Bool) (a1:Int):Option (Int×List Bool):=laws_markBoolS.l0 k l0 a1 0
theorem laws_markBoolS.mono_l: ∀k,(∀y0 y1 y2,LeO (laws_markBoolS.l0 k y0 y1 y2) (laws_markBoolS.l0 (k+1) y0 y1 y2))
 |0=>fun _ _ _ r h=>by simp [laws_markBoolS.l0] at h
 | k + 1 => by
  have ih0:=laws_markBoolS.mono_l k
  ·intro y0 y1 y2
   unfold laws_markBoolS.l0;repeat' first
   |(with_reducible exact ih0 _ _ _)
   |(with_reducible exact LeO.refl _)
   |(with_reducible exact LeO.none _)
   |(with_reducible refine LeO.ite ?_ ?_)
   |(with_reducible refine LeO.bind ?_ (fun _=>?_))
   |exact ih0 _ _ _
   |exact LeO.none _
   |refine LeO.ite ?_ ?_
   |refine LeO.bind ?_ (fun _=>?_)
theorem laws_markBoolS.mono: ∀a0 a1 k,LeO (laws_markBoolS.f k a0 a1) (laws_markBoolS.f (k+1) a0 a1):=by
  intro a0 a1 k;have ih0:=laws_markBoolS.mono_l k;unfold laws_markBoolS.f
  repeat' first
      |(with_reducible exact ih0 _ _ _)
      |(with_reducible exact LeO.refl _)
      |(with_reducible exact LeO.none _)
      |(with_reducible refine LeO.ite ?_ ?_)
      |(with_reducible refine LeO.bind ?_ (fun _=>?_))
      |exact ih0 _ _ _
      |exact LeO.none _
      |refine LeO.ite ?_ ?_
      |refine LeO.bind ?_ (fun _=>?_)
set_option maxHeartbeats 8000000 in
set_option maxRecDepth 100000 in
theorem laws_markBoolS.calls (k:Nat) (P0_:Nat→Prop) (u9000_:Value) (l0:List Bool) (a1:Int) (r1:Int) (r2:List Bool) (w0 w:World) (hB:Below w0.heap.size w0 w) (ho0:Kd.R Kd.bool 4 w w0.heap.size P0_ u9000_ l0) (h:laws_markBoolS.f k l0 a1=some (r1,r2)):
  Calls Try.prog 35 #[u9000_,.int .i64 a1] w fun e w'=>e= .returned (.int .i64 r1)∧Kd.R Kd.bool 4 w' w0.heap.size (fun k_=>(P0_ k_∨w.heap.size≤k_)) u9000_ r2∧Below w0.heap.size w0 w'∧Kept w w' (fun k_=>P0_ k_):=by
 have HO0:=aK (show Kd.R Kd.bool 4 w w0.heap.size (fun k_=>(P0_ k_∨w.heap.size≤k_)) u9000_ l0 from Kd.R_mono ho0 (fun k_ hk=>(.inl hk)));have HK:=aK (Kept.refl w (fun k_=>P0_ k_));have HW0:=aK hB.size;have HB:=aK hB;clear hB;have H:(laws_markBoolS.l0 k l0 a1 0)=some (r1,r2):=h
 clear h;have H':=aK H;clear H;go_enter Try.func35,Try.ntmps35;go_wp2
 go_loopg [1,5] k (fun kq v1 v5 w'=> ∃(x0_1:List Bool) (x1_1:Int) (x5_1:Int),v1= .int .i64 x1_1∧v5= .int .i64 x5_1∧Aside0 (laws_markBoolS.l0 kq x0_1 x1_1 x5_1=some (r1,r2))∧Aside0 (kq≤k)∧Aside0 (Kd.R Kd.bool 4 w' w0.heap.size (fun k_=>(P0_ k_∨w.heap.size≤k_)) u9000_ x0_1)∧Aside0 (Kept w w' (fun k_=>P0_ k_))∧Aside0 (Below w0.heap.size w0 w'))
 case atStart=>exact ⟨(l0),(a1),(0),zz5,zz5,H',⟨Nat.le_refl _⟩,⟨by (with_reducible repeat (first|apply Kd.R_alloc|apply Kd.R_drewN|apply Kd.R_drew));exact HO0.out⟩,⟨by repeat (first|(with_reducible first|exact HK.out|apply Kept.alloc|apply Kept.drewN|apply Kept.drew)|exact HK.out)⟩,⟨by repeat (first|(with_reducible first|exact HB.out|apply below_alloc|apply pw_below_drewN|apply below_drew1)|exact HB.out)⟩⟩
 case round=>
  clear H';(try clear p2);obtain ⟨x0_1,x1_1,x5_1,rfl,rfl,HA,HK1,HO_0,HK,HB⟩:=hrel
  cases gk with
  |zero=>exact absurd HA.out (by simp [laws_markBoolS.l0])
  | succ k1 =>
   have H:=HA.out;clear HA;simp only [laws_markBoolS.l0] at H;by_cases c3:x5_1<(x0_1.length:Int)
   ·rw [if_pos c3] at H
    have c3b0:decide (x5_1<(x0_1.length:Int))=true:=decide_eq_true c3
    clear c3;by_cases c4:0≤x5_1
    ·rw [if_pos c4] at H
     have c4b0:decide (0≤x5_1)=true:=decide_eq_true c4
     clear c4;obtain ⟨y327,hy327⟩: ∃y_:List Bool,y_=(x0_1.set (x5_1:Int).toNat ((Int.tmod x1_1 3)==0)):=⟨_,rfl⟩;replace H:(laws_markBoolS.l0 k1 y327 (wrap64 (x1_1+1)) (wrap64 (x5_1+1)))=some (r1,r2):=by first|(rw [hy327];with_reducible exact H)|(have H2_:=(Option.bind_some _ _).symm.trans H;rw [hy327];with_reducible exact H2_)|(have H2_:=(Option.bind_some _ _).symm.trans H;with_reducible exact H2_)|with_reducible exact H|(rw [hy327];exact H)|exact H
     have Ny327:=aK hy327;clear hy327;have H':=aK H;clear H;obtain ⟨Ao6,co6,eo6⟩:=Kd.R_slice HO_0.out;subst eo6;have p5:0≤(x5_1:Int):=of_decide_eq_true zz3
     have q5:(x5_1:Int)<((x0_1.length:Int):Int):=of_decide_eq_true zz3
     obtain ⟨go5,co5,eo5,gb5,gl5,cl5,HG5⟩:=Kd.R_form HO_0.out (by omega)
     (first|cases eo5|(injection eo5 with ea_ en_ ec_;(first|subst ea_|(injection ea_ with ea_;subst ea_));subst ec_;clear en_))
     have GB5:=aK gb5;have GG5:=aK HG5;clear gb5 gl5 HG5;have HMgo5:=aK (show (P0_ go5∨w.heap.size≤go5) from (HO_0.out.1 _ rfl));obtain ⟨hx5_0,hf5_0⟩:=Kd.R_celln false HO_0.out (x5_1:Int) p5 q5;replace p5:=eq_true p5;replace q5:=eq_true q5;have HP7:=Kd.R_putg HO_0.out (x5_1:Int) ((Int.tmod x1_1 3)==0)
     go_wp2_with (first|((with_reducible refine gate_store (t:=4) (p:=17) rfl ?_);refine store_event (t:=4) (p:=17) (v:=?vo_w8) (w1:=(wr.setCell ⟨go5,(x5_1:Int).toNat,none⟩ (.bool ((Int.tmod x1_1 3)==0)))) ?hg ?ho ?hn ?hr ?_;(case ho=>rfl);(case hg=>rfl);(case hn=>rfl);(case hr=>first|(go_simp;done)|(go_simp;rfl)|((try (first|(obtain ⟨_,_,rfl⟩:=Kd.R_slice HO_0.out)|(obtain ⟨_,_,rfl⟩:=Kd.S_slice HO_0.out)));first|(go_simp;done)|(go_simp;rfl)));intro w8 hw;have hg:wr.grownBy w8 (some go5):=(by rw [hw];exact HP7.2);have hp_:Kd.R Kd.bool 4 w8 w0.heap.size (fun k_=>(P0_ k_∨w.heap.size≤k_)) (.slice (some ⟨go5,0,none⟩) x0_1.length co6) y327:=(by rw [hw,Ny327.out];exact HP7.1);clear HP7;replace HB:=aK ((by rw [hw];exact below_set (HB.out) GB5.out:Below w0.heap.size w0 w8));replace HK:=aK (Kept.of_grown (S:=(fun k_=>P0_ k_)) hg zz55 (fun k_ e_=>(HO_0.out.1 k_ e_)));replace HO_0:=aK (hp_);clear hg hw hp_))
     go_roundg k1
     case measure=>have:=HK1.out;omega
     case rel=>exact ⟨(y327),(wrap64 (x1_1+1)),(wrap64 (x5_1+1)),zz5,zz5,H',⟨by have:=HK1.out;omega⟩,⟨by (with_reducible repeat (first|apply Kd.R_alloc|apply Kd.R_drewN|apply Kd.R_drew));exact HO_0.out⟩,⟨by repeat (first|(with_reducible first|exact HK.out|apply Kept.alloc|apply Kept.drewN|apply Kept.drew)|exact HK.out)⟩,⟨by repeat (first|(with_reducible first|exact HB.out|apply below_alloc|apply pw_below_drewN|apply below_drew1)|exact HB.out)⟩⟩
    ·rw [if_neg c4] at H
     exact absurd H (by simp)
   ·rw [if_neg c3] at H
    have c3b0:decide (x5_1<(x0_1.length:Int))=false:=decide_eq_false c3
    clear c3;simp only [Option.some.injEq,Prod.mk.injEq] at H;obtain ⟨rfl,rfl⟩:=H;obtain ⟨Ao9,co9,eo9⟩:=Kd.R_slice HO_0.out;subst eo9;go_wp2;go_ret;exact ⟨by first|rfl|(simp [errW_none,errW_some]<;>rfl)|(simp [*,errW_none,errW_some]<;>rfl),by (with_reducible repeat (first|apply Kd.R_alloc|apply Kd.R_drewN|apply Kd.R_drew));exact HO_0.out,by repeat (first|(with_reducible first|exact HB.out|apply below_alloc|apply pw_below_drewN|apply below_drew1)|exact HB.out),by repeat (first|(with_reducible first|exact HK.out|apply Kept.alloc|apply Kept.drewN|apply Kept.drew)|exact HK.out)⟩
def laws_markMem.f (k:Nat) (l0_0:List Int) (a0_1:Int) (a0_2:Int) (a0_3:Int) (l0_4:List Bool) (a1:Int):Option (Int×List Int×List Bool):=(laws_markIntS.f k l0_0 a1).bind fun bt329=>((laws_markBoolS.f k l0_4 bt329.1).bind fun bt331=>(some (bt331.1,bt329.2,bt331.2)))
set_option maxHeartbeats 8000000 in
set_option maxRecDepth 100000 in
theorem laws_markMem.calls (k:Nat) (P0_0_:Nat→Prop) (u9000_:Value) (l0_0:List Int) (a0_1:Int) (a0_2:Int) (a0_3:Int) (P0_4_:Nat→Prop) (u9001_:Value) (l0_4:List Bool) (a1:Int) (r1:Int) (r2:List Int) (r3:List Bool) (w0 w:World) (hB:Below w0.heap.size w0 w) (ho0_0:Kd.R (Kd.int .i64) 3 w w0.heap.size P0_0_ u9000_ l0_0) (ho0_4:Kd.R Kd.bool 4 w w0.heap.size P0_4_ u9001_ l0_4) (h:laws_markMem.f k l0_0 a0_1 a0_2 a0_3 l0_4 a1=some (r1,r2,r3)):
  Calls Try.prog 16 #[.agg #[u9000_,.int .i64 a0_1,.int .i64 a0_2,.int .i64 a0_3,u9001_],.int .i64 a1] w fun e w'=>e= .returned (.int .i64 r1)∧Kd.R (Kd.int .i64) 3 w' w0.heap.size (fun k_=>((P0_0_ k_∨P0_4_ k_)∨w.heap.size≤k_)) u9000_ r2∧Kd.R Kd.bool 4 w' w0.heap.size (fun k_=>((P0_0_ k_∨P0_4_ k_)∨w.heap.size≤k_)) u9001_ r3∧Below w0.heap.size w0 w'∧Kept w w' (fun k_=>P0_0_ k_∨P0_4_ k_):=by
 have hu29:=Try.underlying29;have HO0_0:=aK (show Kd.R (Kd.int .i64) 3 w w0.heap.size (fun k_=>((P0_0_ k_∨P0_4_ k_)∨w.heap.size≤k_)) u9000_ l0_0 from Kd.R_mono ho0_0 (fun k_ hk=>(.inl (.inl hk))));have HO0_4:=aK (show Kd.R Kd.bool 4 w w0.heap.size (fun k_=>((P0_0_ k_∨P0_4_ k_)∨w.heap.size≤k_)) u9001_ l0_4 from Kd.R_mono ho0_4 (fun k_ hk=>(.inl (.inr hk))));have HK:=aK (Kept.refl w (fun k_=>P0_0_ k_∨P0_4_ k_));have HW0:=aK hB.size;have HB:=aK hB;clear hB;have H:((laws_markIntS.f k l0_0 a1).bind fun bt329=>((laws_markBoolS.f k l0_4 bt329.1).bind fun bt331=>(some (bt331.1,bt329.2,bt331.2))))=some (r1,r2,r3):=h
 clear h;replace H:=Option.bind_eq_some_iff.mp H;obtain ⟨⟨t329,t330⟩,A30,H⟩:=H;(try dsimp only at H);have A3:=aK A30;clear A30;replace H:=Option.bind_eq_some_iff.mp H;obtain ⟨⟨t331,t332⟩,A40,H⟩:=H;(try dsimp only at H);have A4:=aK A40;clear A40;simp only [Option.some.injEq,Prod.mk.injEq] at H;obtain ⟨rfl,rfl,rfl⟩:=H;obtain ⟨Ao5,co5,eo5⟩:=Kd.R_slice HO0_0.out;subst eo5;obtain ⟨Ao6,co6,eo6⟩:=Kd.R_slice HO0_4.out;subst eo6;go_enter Try.func16,Try.ntmps16
 go_wp2_with (first|((with_reducible refine gate_dst (N:=2) rfl ?_);refine box_event ?hg (N:=2) ?hd (cs:= #[.slice Ao5 l0_0.length co5,.int .i64 a0_1,.int .i64 a0_2,.int .i64 a0_3,.slice Ao6 l0_4.length co6]) (t:=29) ?hr ?_;(case hd=>rfl);(case hg=>rfl);(case hr=>first|(go_simp;done)|(go_simp;rfl));intro gb328 hg w7 hbox hb;have BK328:=aK (hbox);have GW328:=aK ((by rw [hg];exact (by first|exact HK.out.1|exact (show Kept w _ (fun k_=>P0_0_ k_∨P0_4_ k_) from by repeat (first|(with_reducible first|exact HK.out|apply Kept.alloc|apply Kept.drewN|apply Kept.drew)|exact HK.out)).1):w.heap.size≤gb328));have GE328:=aK ((by rw [hg];exact (below_size zz1):w0.heap.size≤gb328));replace HO0_0:=aK (Kd.R_below (by (with_reducible repeat (first|apply Kd.R_alloc|apply Kd.R_drewN|apply Kd.R_drew));exact HO0_0.out) hb);replace HO0_4:=aK (Kd.R_below (by (with_reducible repeat (first|apply Kd.R_alloc|apply Kd.R_drewN|apply Kd.R_drew));exact HO0_4.out) hb);replace HK:=aK (Kept.below (S:=(fun k_=>P0_0_ k_∨P0_4_ k_)) zz55 hb);replace HB:=aK (below_step zz1 hb);clear hb hbox hg;obtain ⟨hcz8_0,hcz8_1,hcz8_2,hcz8_3,hcz8_4,hfz8_0,hfz8_1,hfz8_2,hfz8_3,hfz8_4⟩:=cbf5 BK328)|((with_reducible refine gate_callee (f:=17) rfl ?_);refine goesL_ (some 8) rfl rfl Try.func17 (by kernel_rfl) rfl #[.slice Ao5 l0_0.length co5,.int .i64 a1] rfl zz2 ?_;(with_reducible refine (laws_markIntS.calls k (fun k_=>some k_=(.slice Ao5 l0_0.length co5:Value).ownBlock) (.slice Ao5 l0_0.length co5) l0_0 a1 t329 t330 w0 _ ?side1 ?side2 A3.out).mono ?_);(case side1=>exact (by repeat (first|(with_reducible first|exact HB.out|apply below_alloc|apply pw_below_drewN|apply below_drew1|refine below_set ?_ GE328.out)|exact HB.out)));(case side2=>exact Kd.R_tight rfl HO0_0.out);rintro e w9 ⟨rfl,hy0,hb,hkp⟩;refine ⟨_,rfl,?_⟩;replace HO0_4:=aK (Kd.R_mono (ok':=fun k_=>((P0_0_ k_∨P0_4_ k_)∨w.heap.size≤k_)) (Kd.R_keptB ((Kd.R_apart' HO0_4.out (Kd.R_typed HO0_0.out) (by decide))) hkp (fun k_ hk_ hs_=>(hk_.2) hs_)) (fun k_ hk_=>hk_.1.1));replace BK328:=aK (blk_kept (by (with_reducible repeat (first|refine blk_drewN ?_ _|refine blk_drew ?_|refine blk_alloc ?_ _));exact BK328.out) hkp (fun hs_=>(fun e_=>(Kd.R_ne HO0_0.out BK328.out (by decide)) e_) hs_));replace HK:=aK (Kept.then_ (S:=(fun k_=>P0_0_ k_∨P0_4_ k_)) (by repeat (first|(with_reducible first|exact HK.out|apply Kept.alloc|apply Kept.drewN|apply Kept.drew|refine Kept.setCell ?_ (.inr GW328.out) _)|exact HK.out)) hkp (fun k_ hs_=>(fun e_=>(HO0_0.out.1 k_ e_.symm)) hs_));replace HO0_0:=aK (Kd.R_reok rfl hy0 (fun k_ e_=>HO0_0.out.1 k_ e_));replace HB:=aK (hb);(try clear hb);(try clear hkp);(try clear hy0);obtain ⟨hcz10_0,hcz10_1,hcz10_2,hcz10_3,hcz10_4,hfz10_0,hfz10_1,hfz10_2,hfz10_3,hfz10_4⟩:=cbf5 BK328)|((with_reducible refine gate_callee (f:=35) rfl ?_);refine goesL_ (some 12) rfl rfl Try.func35 (by kernel_rfl) rfl #[.slice Ao6 l0_4.length co6,.int .i64 t329] rfl zz2 ?_;(with_reducible refine (laws_markBoolS.calls k (fun k_=>some k_=(.slice Ao6 l0_4.length co6:Value).ownBlock) (.slice Ao6 l0_4.length co6) l0_4 t329 t331 t332 w0 _ ?side1 ?side2 A4.out).mono ?_);(case side1=>exact (by repeat (first|(with_reducible first|exact HB.out|apply below_alloc|apply pw_below_drewN|apply below_drew1|refine below_set ?_ GE328.out)|exact HB.out)));(case side2=>exact Kd.R_tight rfl HO0_4.out);rintro e w11 ⟨rfl,hy0,hb,hkp⟩;refine ⟨_,rfl,?_⟩;replace HO0_0:=aK (Kd.R_mono (ok':=fun k_=>((P0_0_ k_∨P0_4_ k_)∨w.heap.size≤k_)) (Kd.R_keptB ((Kd.R_apart' HO0_0.out (Kd.R_typed HO0_4.out) (by decide))) hkp (fun k_ hk_ hs_=>(hk_.2) hs_)) (fun k_ hk_=>hk_.1.1));replace BK328:=aK (blk_kept (by (with_reducible repeat (first|refine blk_drewN ?_ _|refine blk_drew ?_|refine blk_alloc ?_ _));exact BK328.out) hkp (fun hs_=>(fun e_=>(Kd.R_ne HO0_4.out BK328.out (by decide)) e_) hs_));replace HK:=aK (Kept.then_ (S:=(fun k_=>P0_0_ k_∨P0_4_ k_)) (by repeat (first|(with_reducible first|exact HK.out|apply Kept.alloc|apply Kept.drewN|apply Kept.drew|refine Kept.setCell ?_ (.inr GW328.out) _)|exact HK.out)) hkp (fun k_ hs_=>(fun e_=>(HO0_4.out.1 k_ e_.symm)) hs_));replace HO0_4:=aK (Kd.R_reok rfl hy0 (fun k_ e_=>HO0_4.out.1 k_ e_));replace HB:=aK (hb);(try clear hb);(try clear hkp);(try clear hy0)))
 go_ret;exact ⟨by first|rfl|(simp [errW_none,errW_some]<;>rfl)|(simp [*,errW_none,errW_some]<;>rfl),by (with_reducible repeat (first|apply Kd.R_alloc|apply Kd.R_drewN|apply Kd.R_drew));exact HO0_0.out,by (with_reducible repeat (first|apply Kd.R_alloc|apply Kd.R_drewN|apply Kd.R_drew));exact HO0_4.out,by repeat (first|(with_reducible first|exact HB.out|apply below_alloc|apply pw_below_drewN|apply below_drew1|refine below_set ?_ GE328.out)|exact HB.out),by repeat (first|(with_reducible first|exact HK.out|apply Kept.alloc|apply Kept.drewN|apply Kept.drew|refine Kept.setCell ?_ (.inr GW328.out) _)|exact HK.out)⟩
def laws_heldIntS.l0:Nat→List Int→Int→Int→Option (Int)
  |0,_,_,_=>none
  |k+1,x0,x1,x5=>if x5<(x0.length:Int) then (if 0≤x5 then (if (rd x0 x5)=x1 then (laws_heldIntS.l0 k x0 (wrap64 (x1+1)) (wrap64 (x5+1))) else (some (-1))) else (none)) else (some x1)
def laws_heldIntS.f (k:Nat) (l0:List Int) (a1:Int):Option (Int):=laws_heldIntS.l0 k l0 a1 0
theorem laws_heldIntS.mono_l: ∀k,(∀y0 y1 y2,LeO (laws_heldIntS.l0 k y0 y1 y2) (laws_heldIntS.l0 (k+1) y0 y1 y2))
 |0=>fun _ _ _ r h=>by simp [laws_heldIntS.l0] at h
 | k + 1 => by
  have ih0:=laws_heldIntS.mono_l k
  ·intro y0 y1 y2
   unfold laws_heldIntS.l0;repeat' first
   |(with_reducible exact ih0 _ _ _)
   |(with_reducible exact LeO.refl _)
   |(with_reducible exact LeO.none _)
   |(with_reducible refine LeO.ite ?_ ?_)
   |(with_reducible refine LeO.bind ?_ (fun _=>?_))
   |exact ih0 _ _ _
   |exact LeO.none _
   |refine LeO.ite ?_ ?_
   |refine LeO.bind ?_ (fun _=>?_)
theorem laws_heldIntS.mono: ∀a0 a1 k,LeO (laws_heldIntS.f k a0 a1) (laws_heldIntS.f (k+1) a0 a1):=by
  intro a0 a1 k;have ih0:=laws_heldIntS.mono_l k;unfold laws_heldIntS.f
  repeat' first
      |(with_reducible exact ih0 _ _ _)
      |(with_reducible exact LeO.refl _)
      |(with_reducible exact LeO.none _)
      |(with_reducible refine LeO.ite ?_ ?_)
      |(with_reducible refine LeO.bind ?_ (fun _=>?_))
      |exact ih0 _ _ _
      |exact LeO.none _
      |refine LeO.ite ?_ ?_
      |refine LeO.bind ?_ (fun _=>?_)
set_option maxHeartbeats 8000000 in
set_option maxRecDepth 100000 in
theorem laws_heldIntS.calls (k:Nat) (A0:Option Addr) (c0:Nat) (l0:List Int) (a1:Int) (r:Int) (w:World) (hr0:Kd.C (Kd.int .i64) w A0 l0.length l0) (hc0:l0.length≤c0) (h:laws_heldIntS.f k l0 a1=some r):
  Calls Try.prog 19 #[.slice A0 l0.length c0,.int .i64 a1] w fun e w'=>e= .returned (.int .i64 r)∧Drawn0 w w':=by
 have HR0:=aK hr0;have HC0:=aK hc0;clear hr0 hc0;have H:(laws_heldIntS.l0 k l0 a1 0)=some r:=h
 clear h;have H':=aK H;clear H;go_enter Try.func19,Try.ntmps19;go_wp2
 go_loopg [1,5] k (fun kq v1 v5 w'=> ∃(x1_1:Int) (x5_1:Int),v1= .int .i64 x1_1∧v5= .int .i64 x5_1∧Aside0 (laws_heldIntS.l0 kq l0 x1_1 x5_1=some r)∧Aside0 (kq≤k)∧Drawn0 w w')
 case atStart=>exact ⟨(a1),(0),zz5,zz5,H',⟨Nat.le_refl _⟩,by repeat (first|exact Drawn0.refl _|apply Drawn0.step)⟩
 case round =>
  clear H';(try clear c1);(try clear p2);obtain ⟨x1_1,x5_1,rfl,rfl,HA,HK1,⟨m1,rfl⟩⟩:=hrel
  cases gk with
  |zero=>exact absurd HA.out (by simp [laws_heldIntS.l0])
  | succ k1 =>
   have H:=HA.out;clear HA;simp only [laws_heldIntS.l0] at H;by_cases c3:x5_1<(l0.length:Int)
   ·rw [if_pos c3] at H
    have c3b0:decide (x5_1<(l0.length:Int))=true:=decide_eq_true c3
    clear c3;by_cases c4:0≤x5_1
    ·rw [if_pos c4] at H
     have c4b0:decide (0≤x5_1)=true:=decide_eq_true c4
     clear c4;by_cases c5:(rd l0 x5_1)=x1_1
     ·rw [if_pos c5] at H
      have c5b0:((rd l0 x5_1)==x1_1)=true:=beq_iff_eq.mpr c5
      have c5b1:((rd l0 x5_1) !=x1_1)=false:=bne_eq_false_iff_eq.mpr c5
      clear c5;have H':=aK H;clear H;have p333:0≤(x5_1:Int):=of_decide_eq_true zz3
      have q333:x5_1<(l0.length:Int):=of_decide_eq_true zz3
      obtain ⟨ad333,e333,hx333_0⟩:=Kd.at_int HR0.out x5_1 p333 q333
      cases e333
      replace p333:=eq_true p333;replace q333:=eq_true q333;go_wp2
      go_roundg k1
      case measure=>have:=HK1.out;omega
      case rel=>exact ⟨(wrap64 (x1_1+1)),(wrap64 (x5_1+1)),zz5,zz5,H',⟨by have:=HK1.out;omega⟩,by repeat (first|exact Drawn0.refl _|apply Drawn0.step)⟩
     ·rw [if_neg c5] at H
      have c5b0:((rd l0 x5_1)==x1_1)=false:=beq_eq_false_iff_ne.mpr c5
      have c5b1:((rd l0 x5_1) !=x1_1)=true:=bne_iff_ne.mpr c5
      obtain rfl:=Option.some.inj H;have p333:0≤(x5_1:Int):=of_decide_eq_true zz3
      have q333:x5_1<(l0.length:Int):=of_decide_eq_true zz3
      obtain ⟨ad333,e333,hx333_0⟩:=Kd.at_int HR0.out x5_1 p333 q333
      cases e333
      replace p333:=eq_true p333;replace q333:=eq_true q333;go_wp2;go_ret;exact ⟨zz5,zz10⟩
    ·rw [if_neg c4] at H
     exact absurd H (by simp)
   ·rw [if_neg c3] at H
    have c3b0:decide (x5_1<(l0.length:Int))=false:=decide_eq_false c3
    clear c3;obtain rfl:=Option.some.inj H;go_wp2;go_ret;exact ⟨zz5,zz10⟩
def laws_heldBoolS.l0:Nat→List Bool→Int→Int→Option (Int)
  |0,_,_,_=>none
  |k+1,x0,x1,x5=>if x5<(x0.length:Int) then (if 0≤x5 then (if ((rdOf false x0 x5) !=((Int.tmod x1 3)==0))=true then (some (-1)) else (laws_heldBoolS.l0 k x0 (wrap64 (x1+1)) (wrap64 (x5+1)))) else (none)) else (some x1)
def laws_heldBoolS.f (k:Nat) (l0:List Bool) (a1:Int):Option (Int):=laws_heldBoolS.l0 k l0 a1 0
theorem laws_heldBoolS.mono_l: ∀k,(∀y0 y1 y2,LeO (laws_heldBoolS.l0 k y0 y1 y2) (laws_heldBoolS.l0 (k+1) y0 y1 y2))
 |0=>fun _ _ _ r h=>by simp [laws_heldBoolS.l0] at h
 | k + 1 => by
  have ih0:=laws_heldBoolS.mono_l k
  ·intro y0 y1 y2
   unfold laws_heldBoolS.l0;repeat' first
   |(with_reducible exact ih0 _ _ _)
   |(with_reducible exact LeO.refl _)
   |(with_reducible exact LeO.none _)
   |(with_reducible refine LeO.ite ?_ ?_)
   |(with_reducible refine LeO.bind ?_ (fun _=>?_))
   |exact ih0 _ _ _
   |exact LeO.none _
   |refine LeO.ite ?_ ?_
   |refine LeO.bind ?_ (fun _=>?_)
theorem laws_heldBoolS.mono: ∀a0 a1 k,LeO (laws_heldBoolS.f k a0 a1) (laws_heldBoolS.f (k+1) a0 a1):=by
  intro a0 a1 k;have ih0:=laws_heldBoolS.mono_l k;unfold laws_heldBoolS.f
  repeat' first
      |(with_reducible exact ih0 _ _ _)
      |(with_reducible exact LeO.refl _)
      |(with_reducible exact LeO.none _)
      |(with_reducible refine LeO.ite ?_ ?_)
      |(with_reducible refine LeO.bind ?_ (fun _=>?_))
      |exact ih0 _ _ _
      |exact LeO.none _
      |refine LeO.ite ?_ ?_
      |refine LeO.bind ?_ (fun _=>?_)
set_option maxHeartbeats 8000000 in
set_option maxRecDepth 100000 in
theorem laws_heldBoolS.calls (k:Nat) (A0:Option Addr) (c0:Nat) (l0:List Bool) (a1:Int) (r:Int) (w:World) (hr0:Kd.C Kd.bool w A0 l0.length l0) (hc0:l0.length≤c0) (h:laws_heldBoolS.f k l0 a1=some r):
  Calls Try.prog 36 #[.slice A0 l0.length c0,.int .i64 a1] w fun e w'=>e= .returned (.int .i64 r)∧Drawn0 w w':=by
 have HR0:=aK hr0;have HC0:=aK hc0;clear hr0 hc0;have H:(laws_heldBoolS.l0 k l0 a1 0)=some r:=h
 clear h;have H':=aK H;clear H;go_enter Try.func36,Try.ntmps36;go_wp2
 go_loopg [1,5] k (fun kq v1 v5 w'=> ∃(x1_1:Int) (x5_1:Int),v1= .int .i64 x1_1∧v5= .int .i64 x5_1∧Aside0 (laws_heldBoolS.l0 kq l0 x1_1 x5_1=some r)∧Aside0 (kq≤k)∧Drawn0 w w')
 case atStart=>exact ⟨(a1),(0),zz5,zz5,H',⟨Nat.le_refl _⟩,by repeat (first|exact Drawn0.refl _|apply Drawn0.step)⟩
 case round =>
  clear H';(try clear p2);obtain ⟨x1_1,x5_1,rfl,rfl,HA,HK1,⟨m1,rfl⟩⟩:=hrel
  cases gk with
  |zero=>exact absurd HA.out (by simp [laws_heldBoolS.l0])
  | succ k1 =>
   have H:=HA.out;clear HA;simp only [laws_heldBoolS.l0] at H;by_cases c3:x5_1<(l0.length:Int)
   ·rw [if_pos c3] at H
    have c3b0:decide (x5_1<(l0.length:Int))=true:=decide_eq_true c3
    clear c3;by_cases c4:0≤x5_1
    ·rw [if_pos c4] at H
     have c4b0:decide (0≤x5_1)=true:=decide_eq_true c4
     clear c4;by_cases c5:((rdOf false l0 x5_1) !=((Int.tmod x1_1 3)==0))=true
     ·rw [if_pos c5] at H
      have c5b0:((rdOf false l0 x5_1) !=((Int.tmod x1_1 3)==0))=true:=c5
      (try (have c5b1:decide ((rdOf false l0 x5_1)=((Int.tmod x1_1 3)==0))=false:=by simpa using c5))
      (try (have c5b2:((rdOf false l0 x5_1)==((Int.tmod x1_1 3)==0))=false:=by simpa using c5))
      (try (have c5b3: ¬((rdOf false l0 x5_1)=((Int.tmod x1_1 3)==0)):=by simpa using c5))
      clear c5;obtain rfl:=Option.some.inj H;have p334:0≤(x5_1:Int):=of_decide_eq_true zz3
      have q334:x5_1<(l0.length:Int):=of_decide_eq_true zz3
      obtain ⟨ad334,e334,hx334_0⟩:=Kd.at_bool HR0.out x5_1 p334 q334
      cases e334
      replace p334:=eq_true p334;replace q334:=eq_true q334;go_wp2;go_ret;exact ⟨zz5,zz10⟩
     ·rw [if_neg c5] at H
      have c5b0:((rdOf false l0 x5_1) !=((Int.tmod x1_1 3)==0))=false:=by simpa using c5
      (try (have c5b1:decide ((rdOf false l0 x5_1)=((Int.tmod x1_1 3)==0))=true:=by simpa using c5))
      (try (have c5b2:((rdOf false l0 x5_1)==((Int.tmod x1_1 3)==0))=true:=by simpa using c5))
      clear c5;have H':=aK H;clear H;have p334:0≤(x5_1:Int):=of_decide_eq_true zz3
      have q334:x5_1<(l0.length:Int):=of_decide_eq_true zz3
      obtain ⟨ad334,e334,hx334_0⟩:=Kd.at_bool HR0.out x5_1 p334 q334
      cases e334
      replace p334:=eq_true p334;replace q334:=eq_true q334;go_wp2
      go_roundg k1
      case measure=>have:=HK1.out;omega
      case rel=>exact ⟨(wrap64 (x1_1+1)),(wrap64 (x5_1+1)),zz5,zz5,H',⟨by have:=HK1.out;omega⟩,by repeat (first|exact Drawn0.refl _|apply Drawn0.step)⟩
    ·rw [if_neg c4] at H
     exact absurd H (by simp)
   ·rw [if_neg c3] at H
    have c3b0:decide (x5_1<(l0.length:Int))=false:=decide_eq_false c3
    clear c3;obtain rfl:=Option.some.inj H;go_wp2;go_ret;exact ⟨zz5,zz10⟩
def laws_heldMem.f (k:Nat) (l0_0:List Int) (a0_1:Int) (a0_2:Int) (a0_3:Int) (l0_4:List Bool) (a1:Int):Option (Int):=(laws_heldIntS.f k l0_0 a1).bind fun t336=>(if t336<0 then (some (-1)) else ((laws_heldBoolS.f k l0_4 t336).bind fun t337=>(if t337<0 then (some (-1)) else (some t337))))
set_option maxHeartbeats 8000000 in
set_option maxRecDepth 100000 in
theorem laws_heldMem.calls (k:Nat) (A0_0:Option Addr) (c0_0:Nat) (l0_0:List Int) (a0_1:Int) (a0_2:Int) (a0_3:Int) (A0_4:Option Addr) (c0_4:Nat) (l0_4:List Bool) (a1:Int) (r:Int) (w:World) (hr0_0:Kd.C (Kd.int .i64) w A0_0 l0_0.length l0_0) (hc0_0:l0_0.length≤c0_0) (hr0_4:Kd.C Kd.bool w A0_4 l0_4.length l0_4) (hc0_4:l0_4.length≤c0_4) (h:laws_heldMem.f k l0_0 a0_1 a0_2 a0_3 l0_4 a1=some r):
  Calls Try.prog 18 #[.agg #[.slice A0_0 l0_0.length c0_0,.int .i64 a0_1,.int .i64 a0_2,.int .i64 a0_3,.slice A0_4 l0_4.length c0_4],.int .i64 a1] w fun e w'=>e= .returned (.int .i64 r)∧Below w.heap.size w w':=by
 have hu29:=Try.underlying29;have HR0_0:=aK hr0_0;have HC0_0:=aK hc0_0;clear hr0_0 hc0_0;have HR0_4:=aK hr0_4;have HC0_4:=aK hc0_4;clear hr0_4 hc0_4;have HB:=aK (Below.refl w.heap.size w);have H:((laws_heldIntS.f k l0_0 a1).bind fun t336=>(if t336<0 then (some (-1)) else ((laws_heldBoolS.f k l0_4 t336).bind fun t337=>(if t337<0 then (some (-1)) else (some t337)))))=some r:=h
 clear h;replace H:=Option.bind_eq_some_iff.mp H;obtain ⟨t336,A30,H⟩:=H;(try dsimp only at H);have A3:=aK A30;clear A30;by_cases c4:t336<0
 ·rw [if_pos c4] at H
  have c4b0:decide (t336<0)=true:=decide_eq_true c4
  clear c4;obtain rfl:=Option.some.inj H;go_enter Try.func18,Try.ntmps18
  go_wp2_with (first|((with_reducible refine gate_dst (N:=2) rfl ?_);refine box_event ?hg (N:=2) ?hd (cs:= #[.slice A0_0 l0_0.length c0_0,.int .i64 a0_1,.int .i64 a0_2,.int .i64 a0_3,.slice A0_4 l0_4.length c0_4]) (t:=29) ?hr ?_;(case hd=>rfl);(case hg=>rfl);(case hr=>first|(go_simp;done)|(go_simp;rfl));intro gb335 hg w5 hbox hb;have BK335:=aK (hbox);have GW335:=aK ((by rw [hg];exact (below_size zz1):w.heap.size≤gb335));have GE335:=aK ((by rw [hg];exact (below_size zz1):w.heap.size≤gb335));replace HB:=aK (below_step zz1 hb);clear hb hbox hg;obtain ⟨hcz6_0,hcz6_1,hcz6_2,hcz6_3,hcz6_4,hfz6_0,hfz6_1,hfz6_2,hfz6_3,hfz6_4⟩:=cbf5 BK335)|((with_reducible refine gate_callee (f:=19) rfl ?_);refine goesL_ (some 8) rfl rfl Try.func19 (by kernel_rfl) rfl #[.slice A0_0 l0_0.length c0_0,.int .i64 a1] rfl zz2 ?_;(with_reducible refine (laws_heldIntS.calls k _ _ l0_0 a1 t336 _ ?side1 ?side2 A3.out).mono ?_);(case side1=>exact zz13);(case side2=>exact HC0_0.out);rintro e w' ⟨rfl,⟨nd,rfl⟩⟩;refine ⟨_,rfl,?_⟩))
  go_ret;exact ⟨zz6,zz36⟩
 ·rw [if_neg c4] at H
  have c4b0:decide (t336<0)=false:=decide_eq_false c4
  clear c4;replace H:=Option.bind_eq_some_iff.mp H;obtain ⟨t337,A70,H⟩:=H;(try dsimp only at H);have A7:=aK A70;clear A70;by_cases c8:t337<0
  ·rw [if_pos c8] at H
   have c8b0:decide (t337<0)=true:=decide_eq_true c8
   clear c8;obtain rfl:=Option.some.inj H;go_enter Try.func18,Try.ntmps18
   go_wp2_with (first|((with_reducible refine gate_dst (N:=2) rfl ?_);refine box_event ?hg (N:=2) ?hd (cs:= #[.slice A0_0 l0_0.length c0_0,.int .i64 a0_1,.int .i64 a0_2,.int .i64 a0_3,.slice A0_4 l0_4.length c0_4]) (t:=29) ?hr ?_;(case hd=>rfl);(case hg=>rfl);(case hr=>first|(go_simp;done)|(go_simp;rfl));intro gb335 hg w9 hbox hb;have BK335:=aK (hbox);have GW335:=aK ((by rw [hg];exact (below_size zz1):w.heap.size≤gb335));have GE335:=aK ((by rw [hg];exact (below_size zz1):w.heap.size≤gb335));replace HB:=aK (below_step zz1 hb);clear hb hbox hg;obtain ⟨hcz10_0,hcz10_1,hcz10_2,hcz10_3,hcz10_4,hfz10_0,hfz10_1,hfz10_2,hfz10_3,hfz10_4⟩:=cbf5 BK335)|((with_reducible refine gate_callee (f:=19) rfl ?_);refine goesL_ (some 8) rfl rfl Try.func19 (by kernel_rfl) rfl #[.slice A0_0 l0_0.length c0_0,.int .i64 a1] rfl zz2 ?_;(with_reducible refine (laws_heldIntS.calls k _ _ l0_0 a1 t336 _ ?side1 ?side2 A3.out).mono ?_);(case side1=>exact zz13);(case side2=>exact HC0_0.out);rintro e w' ⟨rfl,⟨nd,rfl⟩⟩;refine ⟨_,rfl,?_⟩)|((with_reducible refine gate_callee (f:=36) rfl ?_);refine goesL_ (some 14) rfl rfl Try.func36 (by kernel_rfl) rfl #[.slice A0_4 l0_4.length c0_4,.int .i64 t336] rfl zz2 ?_;(with_reducible refine (laws_heldBoolS.calls k _ _ l0_4 t336 t337 _ ?side1 ?side2 A7.out).mono ?_);(case side1=>repeat (first|exact (Kd.C_below HR0_4.out zz36)|(with_reducible refine Kd.C_alloc ?_ _)|(with_reducible refine Kd.C_drewN ?_ _)|(with_reducible refine Kd.C_drew ?_)));(case side2=>exact HC0_4.out);rintro e w' ⟨rfl,⟨nd,rfl⟩⟩;refine ⟨_,rfl,?_⟩))
   go_ret;exact ⟨zz6,zz36⟩
  ·rw [if_neg c8] at H
   have c8b0:decide (t337<0)=false:=decide_eq_false c8
   clear c8;obtain rfl:=Option.some.inj H;go_enter Try.func18,Try.ntmps18
   go_wp2_with (first|((with_reducible refine gate_dst (N:=2) rfl ?_);refine box_event ?hg (N:=2) ?hd (cs:= #[.slice A0_0 l0_0.length c0_0,.int .i64 a0_1,.int .i64 a0_2,.int .i64 a0_3,.slice A0_4 l0_4.length c0_4]) (t:=29) ?hr ?_;(case hd=>rfl);(case hg=>rfl);(case hr=>first|(go_simp;done)|(go_simp;rfl));intro gb335 hg w11 hbox hb;have BK335:=aK (hbox);have GW335:=aK ((by rw [hg];exact (below_size zz1):w.heap.size≤gb335));have GE335:=aK ((by rw [hg];exact (below_size zz1):w.heap.size≤gb335));replace HB:=aK (below_step zz1 hb);clear hb hbox hg;obtain ⟨hcz12_0,hcz12_1,hcz12_2,hcz12_3,hcz12_4,hfz12_0,hfz12_1,hfz12_2,hfz12_3,hfz12_4⟩:=cbf5 BK335)|((with_reducible refine gate_callee (f:=19) rfl ?_);refine goesL_ (some 8) rfl rfl Try.func19 (by kernel_rfl) rfl #[.slice A0_0 l0_0.length c0_0,.int .i64 a1] rfl zz2 ?_;(with_reducible refine (laws_heldIntS.calls k _ _ l0_0 a1 t336 _ ?side1 ?side2 A3.out).mono ?_);(case side1=>exact zz13);(case side2=>exact HC0_0.out);rintro e w' ⟨rfl,⟨nd,rfl⟩⟩;refine ⟨_,rfl,?_⟩)|((with_reducible refine gate_callee (f:=36) rfl ?_);refine goesL_ (some 14) rfl rfl Try.func36 (by kernel_rfl) rfl #[.slice A0_4 l0_4.length c0_4,.int .i64 t336] rfl zz2 ?_;(with_reducible refine (laws_heldBoolS.calls k _ _ l0_4 t336 t337 _ ?side1 ?side2 A7.out).mono ?_);(case side1=>repeat (first|exact (Kd.C_below HR0_4.out zz36)|(with_reducible refine Kd.C_alloc ?_ _)|(with_reducible refine Kd.C_drewN ?_ _)|(with_reducible refine Kd.C_drew ?_)));(case side2=>exact HC0_4.out);rintro e w' ⟨rfl,⟨nd,rfl⟩⟩;refine ⟨_,rfl,?_⟩))
   go_ret;exact ⟨zz6,zz36⟩
def laws_szIntS.f (l0:List Int) (a1:Int):Option (Int):=if (wrap64 (a1 - (l0.length:Int)))<0 then (some (-1)) else (some (wrap64 (a1 - (l0.length:Int))))
set_option maxHeartbeats 8000000 in
set_option maxRecDepth 100000 in
theorem laws_szIntS.calls (A0:Option Addr) (c0:Nat) (l0:List Int) (a1:Int) (r:Int) (w:World) (hr0:Kd.C (Kd.int .i64) w A0 l0.length l0) (hc0:l0.length≤c0) (h:laws_szIntS.f l0 a1=some r):
  Calls Try.prog 25 #[.slice A0 l0.length c0,.int .i64 a1] w fun e w'=>e= .returned (.int .i64 r)∧Drawn0 w w':=by
 have HR0:=aK hr0;have HC0:=aK hc0;clear hr0 hc0;have H:(if (wrap64 (a1 - (l0.length:Int)))<0 then (some (-1)) else (some (wrap64 (a1 - (l0.length:Int)))))=some r:=h
 clear h;by_cases c3:(wrap64 (a1 - (l0.length:Int)))<0
 ·rw [if_pos c3] at H
  have c3b0:decide ((wrap64 (a1 - (l0.length:Int)))<0)=true:=decide_eq_true c3
  clear c3;obtain rfl:=Option.some.inj H;go_enter Try.func25,Try.ntmps25;go_wp2;go_ret;exact ⟨zz5,zz10⟩
 ·rw [if_neg c3] at H
  have c3b0:decide ((wrap64 (a1 - (l0.length:Int)))<0)=false:=decide_eq_false c3
  clear c3;obtain rfl:=Option.some.inj H;go_enter Try.func25,Try.ntmps25;go_wp2;go_ret;exact ⟨zz5,zz10⟩
def laws_szClass.f (a0_0:Int) (l0_1:List Int) (a1:Int):Option (Int):=(laws_szIntS.f l0_1 a1).bind fun t102=>(if t102<0 then (some (-1)) else (some t102))
set_option maxHeartbeats 8000000 in
set_option maxRecDepth 100000 in
theorem laws_szClass.calls (a0_0:Int) (A0_1:Option Addr) (c0_1:Nat) (l0_1:List Int) (a1:Int) (r:Int) (w:World) (hr0_1:Kd.C (Kd.int .i64) w A0_1 l0_1.length l0_1) (hc0_1:l0_1.length≤c0_1) (h:laws_szClass.f a0_0 l0_1 a1=some r):
  Calls Try.prog 24 #[.agg #[.int .i64 a0_0,.slice A0_1 l0_1.length c0_1],.int .i64 a1] w fun e w'=>e= .returned (.int .i64 r)∧Below w.heap.size w w':=by
 have hu50:=Try.underlying50;have HR0_1:=aK hr0_1;have HC0_1:=aK hc0_1;clear hr0_1 hc0_1;have HB:=aK (Below.refl w.heap.size w);have H:((laws_szIntS.f l0_1 a1).bind fun t102=>(if t102<0 then (some (-1)) else (some t102)))=some r:=h
 clear h;replace H:=Option.bind_eq_some_iff.mp H;obtain ⟨t102,A30,H⟩:=H;(try dsimp only at H);have A3:=aK A30;clear A30;by_cases c4:t102<0
 ·rw [if_pos c4] at H
  have c4b0:decide (t102<0)=true:=decide_eq_true c4
  clear c4;obtain rfl:=Option.some.inj H;go_enter Try.func24,Try.ntmps24
  go_wp2_with (first|((with_reducible refine gate_dst (N:=2) rfl ?_);refine box_event ?hg (N:=2) ?hd (cs:= #[.int .i64 a0_0,.slice A0_1 l0_1.length c0_1]) (t:=50) ?hr ?_;(case hd=>rfl);(case hg=>rfl);(case hr=>first|(go_simp;done)|(go_simp;rfl));intro gb101 hg w5 hbox hb;have BK101:=aK (hbox);have GW101:=aK ((by rw [hg];exact (below_size zz1):w.heap.size≤gb101));have GE101:=aK ((by rw [hg];exact (below_size zz1):w.heap.size≤gb101));replace HB:=aK (below_step zz1 hb);clear hb hbox hg;obtain ⟨hcz6_0,hcz6_1,hfz6_0,hfz6_1⟩:=cbf2 BK101)|((with_reducible refine gate_callee (f:=25) rfl ?_);refine goesL_ (some 8) rfl rfl Try.func25 (by kernel_rfl) rfl #[.slice A0_1 l0_1.length c0_1,.int .i64 a1] rfl zz2 ?_;(with_reducible refine (laws_szIntS.calls _ _ l0_1 a1 t102 _ ?side1 ?side2 A3.out).mono ?_);(case side1=>exact zz46);(case side2=>exact HC0_1.out);rintro e w' ⟨rfl,⟨nd,rfl⟩⟩;refine ⟨_,rfl,?_⟩))
  go_ret;exact ⟨zz6,(by repeat (first|(with_reducible first|exact HB.out|apply below_alloc|apply pw_below_drewN|apply below_drew1|refine below_set ?_ GE101.out)|exact HB.out))⟩
 ·rw [if_neg c4] at H
  have c4b0:decide (t102<0)=false:=decide_eq_false c4
  clear c4;obtain rfl:=Option.some.inj H;go_enter Try.func24,Try.ntmps24
  go_wp2_with (first|((with_reducible refine gate_dst (N:=2) rfl ?_);refine box_event ?hg (N:=2) ?hd (cs:= #[.int .i64 a0_0,.slice A0_1 l0_1.length c0_1]) (t:=50) ?hr ?_;(case hd=>rfl);(case hg=>rfl);(case hr=>first|(go_simp;done)|(go_simp;rfl));intro gb101 hg w7 hbox hb;have BK101:=aK (hbox);have GW101:=aK ((by rw [hg];exact (below_size zz1):w.heap.size≤gb101));have GE101:=aK ((by rw [hg];exact (below_size zz1):w.heap.size≤gb101));replace HB:=aK (below_step zz1 hb);clear hb hbox hg;obtain ⟨hcz8_0,hcz8_1,hfz8_0,hfz8_1⟩:=cbf2 BK101)|((with_reducible refine gate_callee (f:=25) rfl ?_);refine goesL_ (some 8) rfl rfl Try.func25 (by kernel_rfl) rfl #[.slice A0_1 l0_1.length c0_1,.int .i64 a1] rfl zz2 ?_;(with_reducible refine (laws_szIntS.calls _ _ l0_1 a1 t102 _ ?side1 ?side2 A3.out).mono ?_);(case side1=>exact zz46);(case side2=>exact HC0_1.out);rintro e w' ⟨rfl,⟨nd,rfl⟩⟩;refine ⟨_,rfl,?_⟩))
  go_ret;exact ⟨zz6,(by repeat (first|(with_reducible first|exact HB.out|apply below_alloc|apply pw_below_drewN|apply below_drew1|refine below_set ?_ GE101.out)|exact HB.out))⟩
def laws_szClassS.l0:Nat→List (S50)→Int→Int→Option (Int)
  |0,_,_,_=>none
  |k+1,x0,x1,x5=>if x5<(x0.length:Int) then (if 0≤x5 then ((laws_szClass.f ((rd_T50 x0 x5).f0) ((rd_T50 x0 x5).f1) x1).bind fun t104=>(if t104<0 then (some (-1)) else (laws_szClassS.l0 k x0 t104 (wrap64 (x5+1))))) else (none)) else (some x1)
def laws_szClassS.f (k:Nat) (l0:List (S50)) (a1:Int):Option (Int):=if (wrap64 (a1 - (l0.length:Int)))<0 then (some (-1)) else (laws_szClassS.l0 k l0 (wrap64 (a1 - (l0.length:Int))) 0)
theorem laws_szClassS.mono_l: ∀k,(∀y0 y1 y2,LeO (laws_szClassS.l0 k y0 y1 y2) (laws_szClassS.l0 (k+1) y0 y1 y2))
 |0=>fun _ _ _ r h=>by simp [laws_szClassS.l0] at h
 | k + 1 => by
  have ih0:=laws_szClassS.mono_l k
  ·intro y0 y1 y2
   unfold laws_szClassS.l0;repeat' first
   |(with_reducible exact ih0 _ _ _)
   |(with_reducible exact LeO.refl _)
   |(with_reducible exact LeO.none _)
   |(with_reducible refine LeO.ite ?_ ?_)
   |(with_reducible refine LeO.bind ?_ (fun _=>?_))
   |exact ih0 _ _ _
   |exact LeO.none _
   |refine LeO.ite ?_ ?_
   |refine LeO.bind ?_ (fun _=>?_)
theorem laws_szClassS.mono: ∀a0 a1 k,LeO (laws_szClassS.f k a0 a1) (laws_szClassS.f (k+1) a0 a1):=by
  intro a0 a1 k;have ih0:=laws_szClassS.mono_l k;unfold laws_szClassS.f
  repeat' first
      |(with_reducible exact ih0 _ _ _)
      |(with_reducible exact LeO.refl _)
      |(with_reducible exact LeO.none _)
      |(with_reducible refine LeO.ite ?_ ?_)
      |(with_reducible refine LeO.bind ?_ (fun _=>?_))
      |exact ih0 _ _ _
      |exact LeO.none _
      |refine LeO.ite ?_ ?_
      |refine LeO.bind ?_ (fun _=>?_)
set_option maxHeartbeats 8000000 in
set_option maxRecDepth 100000 in
theorem laws_szClassS.calls (k:Nat) (A0:Option Addr) (c0:Nat) (l0:List (S50)) (a1:Int) (r:Int) (w:World) (hr0:Kd.C k50 w A0 l0.length l0) (hc0:l0.length≤c0) (h:laws_szClassS.f k l0 a1=some r):
  Calls Try.prog 5 #[.slice A0 l0.length c0,.int .i64 a1] w fun e w'=>e= .returned (.int .i64 r)∧Below w.heap.size w w':=by
 have hu50:=Try.underlying50;have HR0:=aK hr0;have HC0:=aK hc0;clear hr0 hc0;have HB:=aK (Below.refl w.heap.size w);have H:(if (wrap64 (a1 - (l0.length:Int)))<0 then (some (-1)) else (laws_szClassS.l0 k l0 (wrap64 (a1 - (l0.length:Int))) 0))=some r:=h
 clear h;by_cases c3:(wrap64 (a1 - (l0.length:Int)))<0
 ·rw [if_pos c3] at H
  have c3b0:decide ((wrap64 (a1 - (l0.length:Int)))<0)=true:=decide_eq_true c3
  clear c3;obtain rfl:=Option.some.inj H;go_enter Try.func5,Try.ntmps5;go_wp2;go_ret;exact ⟨zz6,zz1⟩
 ·rw [if_neg c3] at H
  have c3b0:decide ((wrap64 (a1 - (l0.length:Int)))<0)=false:=decide_eq_false c3
  clear c3;have H':=aK H;clear H;go_enter Try.func5,Try.ntmps5;go_wp2
  go_loopg [1,5] k (fun kq v1 v5 w'=> ∃(x1_1:Int) (x5_1:Int),v1= .int .i64 x1_1∧v5= .int .i64 x5_1∧Aside0 (laws_szClassS.l0 kq l0 x1_1 x5_1=some r)∧Aside0 (kq≤k)∧Aside0 (Below w.heap.size w w'))
  case atStart=>exact ⟨(wrap64 (a1 - (l0.length:Int))),(0),zz5,zz5,H',⟨Nat.le_refl _⟩,⟨by repeat (first|(with_reducible first|exact HB.out|apply below_alloc|apply pw_below_drewN|apply below_drew1)|exact HB.out)⟩⟩
  case round =>
   clear H';(try clear p2);(try clear c3);(try clear c3b0);obtain ⟨x1_1,x5_1,rfl,rfl,HA,HK1,HB⟩:=hrel
   cases gk with
   |zero=>exact absurd HA.out (by simp [laws_szClassS.l0])
   | succ k1 =>
    have H:=HA.out;clear HA;simp only [laws_szClassS.l0] at H;by_cases c4:x5_1<(l0.length:Int)
    ·rw [if_pos c4] at H
     have c4b0:decide (x5_1<(l0.length:Int))=true:=decide_eq_true c4
     clear c4;by_cases c5:0≤x5_1
     ·rw [if_pos c5] at H
      have c5b0:decide (0≤x5_1)=true:=decide_eq_true c5
      clear c5;replace H:=Option.bind_eq_some_iff.mp H;obtain ⟨t104,A60,H⟩:=H;(try dsimp only at H);have A6:=aK A60;clear A60;by_cases c7:t104<0
      ·rw [if_pos c7] at H
       have c7b0:decide (t104<0)=true:=decide_eq_true c7
       clear c7;obtain rfl:=Option.some.inj H;have p103:0≤(x5_1:Int):=of_decide_eq_true zz3
       have q103:x5_1<(l0.length:Int):=of_decide_eq_true zz3
       obtain ⟨ad103,A103_1,c103_1,e103,hx103_0,hx103_1,hl103_1,hi103_1⟩:=at_T50 HR0.out x5_1 p103 q103
       cases e103
       replace hx103_0:=(HB.out.cell (World.block_lt_of_cell? w _ hx103_0)).trans hx103_0;replace hx103_1:=(HB.out.cell (World.block_lt_of_cell? w _ hx103_1)).trans hx103_1;have HR103_1:=aK hi103_1;have HC103_1:=aK hl103_1;clear hi103_1 hl103_1;replace p103:=eq_true p103;replace q103:=eq_true q103
       go_wp2_with (first|((with_reducible refine gate_callee (f:=24) rfl ?_);refine goesL_ (some 23) rfl rfl Try.func24 (by kernel_rfl) rfl #[.agg #[.int .i64 ((rd_T50 l0 x5_1).f0),.slice A103_1 ((rd_T50 l0 x5_1).f1).length c103_1],.int .i64 x1_1] rfl zz2 ?_;(with_reducible refine (laws_szClass.calls ((rd_T50 l0 x5_1).f0) _ _ ((rd_T50 l0 x5_1).f1) x1_1 t104 _ ?side1 ?side2 A6.out).mono ?_);(case side1=>exact (by repeat (first|exact (Kd.C_below HR103_1.out HB.out)|(with_reducible refine Kd.C_alloc ?_ _)|(with_reducible refine Kd.C_drewN ?_ _)|(with_reducible refine Kd.C_drew ?_))));(case side2=>exact HC103_1.out);rintro e w8 ⟨rfl,hb⟩;refine ⟨_,rfl,?_⟩;replace HB:=aK (below_step zz1 hb);(try clear hb);(try clear hb2);(try clear hk);(try clear hi)))
       go_ret;exact ⟨zz6,zz1⟩
      ·rw [if_neg c7] at H
       have c7b0:decide (t104<0)=false:=decide_eq_false c7
       clear c7;have H':=aK H;clear H;have p103:0≤(x5_1:Int):=of_decide_eq_true zz3
       have q103:x5_1<(l0.length:Int):=of_decide_eq_true zz3
       obtain ⟨ad103,A103_1,c103_1,e103,hx103_0,hx103_1,hl103_1,hi103_1⟩:=at_T50 HR0.out x5_1 p103 q103
       cases e103
       replace hx103_0:=(HB.out.cell (World.block_lt_of_cell? w _ hx103_0)).trans hx103_0;replace hx103_1:=(HB.out.cell (World.block_lt_of_cell? w _ hx103_1)).trans hx103_1;have HR103_1:=aK hi103_1;have HC103_1:=aK hl103_1;clear hi103_1 hl103_1;replace p103:=eq_true p103;replace q103:=eq_true q103
       go_wp2_with (first|((with_reducible refine gate_callee (f:=24) rfl ?_);refine goesL_ (some 23) rfl rfl Try.func24 (by kernel_rfl) rfl #[.agg #[.int .i64 ((rd_T50 l0 x5_1).f0),.slice A103_1 ((rd_T50 l0 x5_1).f1).length c103_1],.int .i64 x1_1] rfl zz2 ?_;(with_reducible refine (laws_szClass.calls ((rd_T50 l0 x5_1).f0) _ _ ((rd_T50 l0 x5_1).f1) x1_1 t104 _ ?side1 ?side2 A6.out).mono ?_);(case side1=>exact (by repeat (first|exact (Kd.C_below HR103_1.out HB.out)|(with_reducible refine Kd.C_alloc ?_ _)|(with_reducible refine Kd.C_drewN ?_ _)|(with_reducible refine Kd.C_drew ?_))));(case side2=>exact HC103_1.out);rintro e w9 ⟨rfl,hb⟩;refine ⟨_,rfl,?_⟩;replace HB:=aK (below_step zz1 hb);(try clear hb);(try clear hb2);(try clear hk);(try clear hi)))
       go_roundg k1
       case measure=>have:=HK1.out;omega
       case rel=>exact ⟨(t104),(wrap64 (x5_1+1)),zz5,zz5,H',⟨by have:=HK1.out;omega⟩,⟨by repeat (first|(with_reducible first|exact HB.out|apply below_alloc|apply pw_below_drewN|apply below_drew1)|exact HB.out)⟩⟩
     ·rw [if_neg c5] at H
      exact absurd H (by simp)
    ·rw [if_neg c4] at H
     have c4b0:decide (x5_1<(l0.length:Int))=false:=decide_eq_false c4
     clear c4;obtain rfl:=Option.some.inj H;go_wp2;go_ret;exact ⟨zz6,zz1⟩
def laws_szBoolS.f (l0:List Bool) (a1:Int):Option (Int):=if (wrap64 (a1 - (l0.length:Int)))<0 then (some (-1)) else (some (wrap64 (a1 - (l0.length:Int))))
set_option maxHeartbeats 8000000 in
set_option maxRecDepth 100000 in
theorem laws_szBoolS.calls (A0:Option Addr) (c0:Nat) (l0:List Bool) (a1:Int) (r:Int) (w:World) (hr0:Kd.C Kd.bool w A0 l0.length l0) (hc0:l0.length≤c0) (h:laws_szBoolS.f l0 a1=some r):
  Calls Try.prog 26 #[.slice A0 l0.length c0,.int .i64 a1] w fun e w'=>e= .returned (.int .i64 r)∧Drawn0 w w':=by
 have HR0:=aK hr0;have HC0:=aK hc0;clear hr0 hc0;have H:(if (wrap64 (a1 - (l0.length:Int)))<0 then (some (-1)) else (some (wrap64 (a1 - (l0.length:Int)))))=some r:=h
 clear h;by_cases c3:(wrap64 (a1 - (l0.length:Int)))<0
 ·rw [if_pos c3] at H
  have c3b0:decide ((wrap64 (a1 - (l0.length:Int)))<0)=true:=decide_eq_true c3
  clear c3;obtain rfl:=Option.some.inj H;go_enter Try.func26,Try.ntmps26;go_wp2;go_ret;exact ⟨zz5,zz10⟩
 ·rw [if_neg c3] at H
  have c3b0:decide ((wrap64 (a1 - (l0.length:Int)))<0)=false:=decide_eq_false c3
  clear c3;obtain rfl:=Option.some.inj H;go_enter Try.func26,Try.ntmps26;go_wp2;go_ret;exact ⟨zz5,zz10⟩
def laws_szMem.f (l0_0:List Int) (a0_1:Int) (a0_2:Int) (a0_3:Int) (l0_4:List Bool) (a1:Int):Option (Int):=(laws_szIntS.f l0_0 a1).bind fun t106=>(if t106<0 then (some (-1)) else ((laws_szBoolS.f l0_4 t106).bind fun t107=>(if t107<0 then (some (-1)) else (some t107))))
set_option maxHeartbeats 8000000 in
set_option maxRecDepth 100000 in
theorem laws_szMem.calls (A0_0:Option Addr) (c0_0:Nat) (l0_0:List Int) (a0_1:Int) (a0_2:Int) (a0_3:Int) (A0_4:Option Addr) (c0_4:Nat) (l0_4:List Bool) (a1:Int) (r:Int) (w:World) (hr0_0:Kd.C (Kd.int .i64) w A0_0 l0_0.length l0_0) (hc0_0:l0_0.length≤c0_0) (hr0_4:Kd.C Kd.bool w A0_4 l0_4.length l0_4) (hc0_4:l0_4.length≤c0_4) (h:laws_szMem.f l0_0 a0_1 a0_2 a0_3 l0_4 a1=some r):
  Calls Try.prog 6 #[.agg #[.slice A0_0 l0_0.length c0_0,.int .i64 a0_1,.int .i64 a0_2,.int .i64 a0_3,.slice A0_4 l0_4.length c0_4],.int .i64 a1] w fun e w'=>e= .returned (.int .i64 r)∧Below w.heap.size w w':=by
 have hu26:=Try.underlying26;have HR0_0:=aK hr0_0;have HC0_0:=aK hc0_0;clear hr0_0 hc0_0;have HR0_4:=aK hr0_4;have HC0_4:=aK hc0_4;clear hr0_4 hc0_4;have HB:=aK (Below.refl w.heap.size w);have H:((laws_szIntS.f l0_0 a1).bind fun t106=>(if t106<0 then (some (-1)) else ((laws_szBoolS.f l0_4 t106).bind fun t107=>(if t107<0 then (some (-1)) else (some t107)))))=some r:=h
 clear h;replace H:=Option.bind_eq_some_iff.mp H;obtain ⟨t106,A30,H⟩:=H;(try dsimp only at H);have A3:=aK A30;clear A30;by_cases c4:t106<0
 ·rw [if_pos c4] at H
  have c4b0:decide (t106<0)=true:=decide_eq_true c4
  clear c4;obtain rfl:=Option.some.inj H;go_enter Try.func6,Try.ntmps6
  go_wp2_with (first|((with_reducible refine gate_dst (N:=2) rfl ?_);refine box_event ?hg (N:=2) ?hd (cs:= #[.slice A0_0 l0_0.length c0_0,.int .i64 a0_1,.int .i64 a0_2,.int .i64 a0_3,.slice A0_4 l0_4.length c0_4]) (t:=26) ?hr ?_;(case hd=>rfl);(case hg=>rfl);(case hr=>first|(go_simp;done)|(go_simp;rfl));intro gb105 hg w5 hbox hb;have BK105:=aK (hbox);have GW105:=aK ((by rw [hg];exact (below_size zz1):w.heap.size≤gb105));have GE105:=aK ((by rw [hg];exact (below_size zz1):w.heap.size≤gb105));replace HB:=aK (below_step zz1 hb);clear hb hbox hg;obtain ⟨hcz6_0,hcz6_1,hcz6_2,hcz6_3,hcz6_4,hfz6_0,hfz6_1,hfz6_2,hfz6_3,hfz6_4⟩:=cbf5 BK105)|((with_reducible refine gate_callee (f:=25) rfl ?_);refine goesL_ (some 8) rfl rfl Try.func25 (by kernel_rfl) rfl #[.slice A0_0 l0_0.length c0_0,.int .i64 a1] rfl zz2 ?_;(with_reducible refine (laws_szIntS.calls _ _ l0_0 a1 t106 _ ?side1 ?side2 A3.out).mono ?_);(case side1=>exact zz13);(case side2=>exact HC0_0.out);rintro e w' ⟨rfl,⟨nd,rfl⟩⟩;refine ⟨_,rfl,?_⟩))
  go_ret;exact ⟨zz6,zz39⟩
 ·rw [if_neg c4] at H
  have c4b0:decide (t106<0)=false:=decide_eq_false c4
  clear c4;replace H:=Option.bind_eq_some_iff.mp H;obtain ⟨t107,A70,H⟩:=H;(try dsimp only at H);have A7:=aK A70;clear A70;by_cases c8:t107<0
  ·rw [if_pos c8] at H
   have c8b0:decide (t107<0)=true:=decide_eq_true c8
   clear c8;obtain rfl:=Option.some.inj H;go_enter Try.func6,Try.ntmps6
   go_wp2_with (first|((with_reducible refine gate_dst (N:=2) rfl ?_);refine box_event ?hg (N:=2) ?hd (cs:= #[.slice A0_0 l0_0.length c0_0,.int .i64 a0_1,.int .i64 a0_2,.int .i64 a0_3,.slice A0_4 l0_4.length c0_4]) (t:=26) ?hr ?_;(case hd=>rfl);(case hg=>rfl);(case hr=>first|(go_simp;done)|(go_simp;rfl));intro gb105 hg w9 hbox hb;have BK105:=aK (hbox);have GW105:=aK ((by rw [hg];exact (below_size zz1):w.heap.size≤gb105));have GE105:=aK ((by rw [hg];exact (below_size zz1):w.heap.size≤gb105));replace HB:=aK (below_step zz1 hb);clear hb hbox hg;obtain ⟨hcz10_0,hcz10_1,hcz10_2,hcz10_3,hcz10_4,hfz10_0,hfz10_1,hfz10_2,hfz10_3,hfz10_4⟩:=cbf5 BK105)|((with_reducible refine gate_callee (f:=25) rfl ?_);refine goesL_ (some 8) rfl rfl Try.func25 (by kernel_rfl) rfl #[.slice A0_0 l0_0.length c0_0,.int .i64 a1] rfl zz2 ?_;(with_reducible refine (laws_szIntS.calls _ _ l0_0 a1 t106 _ ?side1 ?side2 A3.out).mono ?_);(case side1=>exact zz13);(case side2=>exact HC0_0.out);rintro e w' ⟨rfl,⟨nd,rfl⟩⟩;refine ⟨_,rfl,?_⟩)|((with_reducible refine gate_callee (f:=26) rfl ?_);refine goesL_ (some 14) rfl rfl Try.func26 (by kernel_rfl) rfl #[.slice A0_4 l0_4.length c0_4,.int .i64 t106] rfl zz2 ?_;(with_reducible refine (laws_szBoolS.calls _ _ l0_4 t106 t107 _ ?side1 ?side2 A7.out).mono ?_);(case side1=>repeat (first|exact (Kd.C_below HR0_4.out zz39)|(with_reducible refine Kd.C_alloc ?_ _)|(with_reducible refine Kd.C_drewN ?_ _)|(with_reducible refine Kd.C_drew ?_)));(case side2=>exact HC0_4.out);rintro e w' ⟨rfl,⟨nd,rfl⟩⟩;refine ⟨_,rfl,?_⟩))
   go_ret;exact ⟨zz6,zz39⟩
  ·rw [if_neg c8] at H
   have c8b0:decide (t107<0)=false:=decide_eq_false c8
   clear c8;obtain rfl:=Option.some.inj H;go_enter Try.func6,Try.ntmps6
   go_wp2_with (first|((with_reducible refine gate_dst (N:=2) rfl ?_);refine box_event ?hg (N:=2) ?hd (cs:= #[.slice A0_0 l0_0.length c0_0,.int .i64 a0_1,.int .i64 a0_2,.int .i64 a0_3,.slice A0_4 l0_4.length c0_4]) (t:=26) ?hr ?_;(case hd=>rfl);(case hg=>rfl);(case hr=>first|(go_simp;done)|(go_simp;rfl));intro gb105 hg w11 hbox hb;have BK105:=aK (hbox);have GW105:=aK ((by rw [hg];exact (below_size zz1):w.heap.size≤gb105));have GE105:=aK ((by rw [hg];exact (below_size zz1):w.heap.size≤gb105));replace HB:=aK (below_step zz1 hb);clear hb hbox hg;obtain ⟨hcz12_0,hcz12_1,hcz12_2,hcz12_3,hcz12_4,hfz12_0,hfz12_1,hfz12_2,hfz12_3,hfz12_4⟩:=cbf5 BK105)|((with_reducible refine gate_callee (f:=25) rfl ?_);refine goesL_ (some 8) rfl rfl Try.func25 (by kernel_rfl) rfl #[.slice A0_0 l0_0.length c0_0,.int .i64 a1] rfl zz2 ?_;(with_reducible refine (laws_szIntS.calls _ _ l0_0 a1 t106 _ ?side1 ?side2 A3.out).mono ?_);(case side1=>exact zz13);(case side2=>exact HC0_0.out);rintro e w' ⟨rfl,⟨nd,rfl⟩⟩;refine ⟨_,rfl,?_⟩)|((with_reducible refine gate_callee (f:=26) rfl ?_);refine goesL_ (some 14) rfl rfl Try.func26 (by kernel_rfl) rfl #[.slice A0_4 l0_4.length c0_4,.int .i64 t106] rfl zz2 ?_;(with_reducible refine (laws_szBoolS.calls _ _ l0_4 t106 t107 _ ?side1 ?side2 A7.out).mono ?_);(case side1=>repeat (first|exact (Kd.C_below HR0_4.out zz39)|(with_reducible refine Kd.C_alloc ?_ _)|(with_reducible refine Kd.C_drewN ?_ _)|(with_reducible refine Kd.C_drew ?_)));(case side2=>exact HC0_4.out);rintro e w' ⟨rfl,⟨nd,rfl⟩⟩;refine ⟨_,rfl,?_⟩))
   go_ret;exact ⟨zz6,zz39⟩
def spec_l6In.f (a0:Int) (a1:Int) (a2:Int):Option (Bool):=if a0≥a1 then (some (decide (a0≤a2))) else (some false)
set_option maxHeartbeats 8000000 in
set_option maxRecDepth 100000 in
theorem spec_l6In.calls (a0:Int) (a1:Int) (a2:Int) (r:Bool) (w:World) (h:spec_l6In.f a0 a1 a2=some r):
  Calls Try.prog 73 #[.int .i64 a0,.int .i64 a1,.int .i64 a2] w fun e w'=>e= .returned (.bool r)∧Drawn0 w w':=by
 have H:(if a0≥a1 then (some (decide (a0≤a2))) else (some false))=some r:=h
 clear h;by_cases c4:a0≥a1
 ·rw [if_pos c4] at H
  have c4b0:decide (a1≤a0)=true:=decide_eq_true c4
  clear c4;obtain rfl:=Option.some.inj H;go_enter Try.func73,Try.ntmps73;go_wp2;go_ret;exact ⟨zz5,zz10⟩
 ·rw [if_neg c4] at H
  have c4b0:decide (a1≤a0)=false:=decide_eq_false c4
  clear c4;obtain rfl:=Option.some.inj H;go_enter Try.func73,Try.ntmps73;go_wp2;go_ret;exact ⟨zz5,zz10⟩
def spec_l2Fields.f:Nat→List (S53)→Int→Option (List Int)
  |0,_,_=>none
  |k+1,l0,a1=>if a1=0 then (some (([]:List Int))) else (if 0≤a1 then (if a1<(l0.length:Int) then ((spec_l2Fields.f k l0 ((rd_T53 l0 a1).f0)).bind fun t112=>(if t112.length+((rd_T53 l0 a1).f1).length<17592186044416 then (some (t112++((rd_T53 l0 a1).f1))) else (none))) else (none)) else (none))
def spec_l2Fields.T3:Bool×List (List Nat×List Nat):=(true,[([],[]),([],[]),([],[]),([1,2],[1,2]),([3],[3]),([4],[4]),([0,5],[0,5]),([],[]),([],[]),([7,8],[7,8]),([9],[9]),([10],[10]),([6,11,6],[6,11]),([12,12,0,1,2,3,4,5,6,7,8,9,10,11,12],[12])])
def spec_l2Fields.B3:List Nat:=[0,0,0,6,14,30,63,0,0,384,896,1920,4095,8191]
theorem spec_l2Fields.tab3:rtab .any (opsOf Try.f75 3)=spec_l2Fields.T3:=by kernel_rfl
theorem spec_l2Fields.bits3:waitsOk spec_l2Fields.T3.2 spec_l2Fields.B3=true:=by kernel_rfl
set_option maxHeartbeats 8000000 in
set_option maxRecDepth 100000 in
theorem spec_l2Fields.calls (k:Nat): ∀(A0:Option Addr) (c0:Nat) (l0:List (S53)) (a1:Int) (r:List Int) (w:World) (hr0:Kd.C k53 w A0 l0.length l0) (hc0:l0.length≤c0) (h:spec_l2Fields.f k l0 a1=some r),
  Calls Try.prog 75 #[.slice A0 l0.length c0,.int .i64 a1] w fun e w'=> ∃v0_:Value,e= .returned (v0_)∧Kd.R (Kd.int .i64) 3 w' w.heap.size (fun _=>True) v0_ r∧Below w.heap.size w w':=by
 induction k using Nat.strongRecOn with
 |_ k ih=>
 intro A0 c0 l0 a1 r w hr0 hc0 h
 cases k with
 |zero=>exact absurd h (by simp [spec_l2Fields.f])
 |succ k=>
 simp only [spec_l2Fields.f] at h;have HR0:=aK hr0;have HC0:=aK hc0;clear hr0 hc0;have HB:=aK (Below.refl w.heap.size w);have H:(if a1=0 then (some (([]:List Int))) else (if 0≤a1 then (if a1<(l0.length:Int) then ((spec_l2Fields.f k l0 ((rd_T53 l0 a1).f0)).bind fun t112=>(if t112.length+((rd_T53 l0 a1).f1).length<17592186044416 then (some (t112++((rd_T53 l0 a1).f1))) else (none))) else (none)) else (none)))=some r:=h
 clear h;by_cases c3:a1=0
 ·rw [if_pos c3] at H
  have c3b0:(a1==0)=true:=beq_iff_eq.mpr c3
  have c3b1:(a1 !=0)=false:=bne_eq_false_iff_eq.mpr c3
  clear c3;obtain ⟨y108,hy108⟩: ∃y_:List Int,y_=(([]:List Int)):=⟨_,rfl⟩;replace H:(some y108)=some r:=by first|(rw [hy108];with_reducible exact H)|(have H2_:=(Option.bind_some _ _).symm.trans H;rw [hy108];with_reducible exact H2_)|(have H2_:=(Option.bind_some _ _).symm.trans H;with_reducible exact H2_)|with_reducible exact H|(rw [hy108];exact H)|exact H
  have Ny108:=aK hy108;clear hy108;obtain rfl:=Option.some.inj H;go_enter Try.func75,Try.ntmps75
  go_wp2_with (first|((with_reducible refine gate_dst (N:=7) rfl ?_);refine Kd.R_lit (Kd.int .i64) _ 3 ?hg (N:=7) ?hd (xs:=([]:List Int)) (inner:=[]) (ok:=fun _=>True) (okp:=fun _=>True) ?hr ?hp (fun _ hk=>hk) trivial (Below.refl _ _) (Nat.le_refl _) (by simp) ?_;(case hd=>rfl);(case hg=>rfl);(case hr=>first|(go_simp;done)|(go_simp;rfl));(case hp=>exact (Reps.none _ _));intro v109 w4 ho5 hb hg_ hnew_;clear hg_ hnew_;(first|rw [←Ny108.out] at ho5|(simp only [Int.reduceToNat] at ho5;rw [←Ny108.out] at ho5));have HO110:=aK (Kd.R_lower ho5 (below_size zz1));replace HB:=aK (below_step zz1 hb);clear hb ho5))
  go_ret;exact ⟨_,by first|rfl|(simp [errW_none,errW_some]<;>rfl)|(simp [*,errW_none,errW_some]<;>rfl),by (with_reducible repeat (first|apply Kd.R_alloc|apply Kd.R_drewN|apply Kd.R_drew));exact HO110.out,by repeat (first|(with_reducible first|exact HB.out|apply below_alloc|apply pw_below_drewN|apply below_drew1)|exact HB.out)⟩
 ·rw [if_neg c3] at H
  have c3b0:(a1==0)=false:=beq_eq_false_iff_ne.mpr c3
  have c3b1:(a1 !=0)=true:=bne_iff_ne.mpr c3
  by_cases c6:0≤a1
  ·rw [if_pos c6] at H
   have c6b0:decide (0≤a1)=true:=decide_eq_true c6
   clear c6;by_cases c7:a1<(l0.length:Int)
   ·rw [if_pos c7] at H
    have c7b0:decide (a1<(l0.length:Int))=true:=decide_eq_true c7
    clear c7;replace H:=Option.bind_eq_some_iff.mp H;obtain ⟨t112,A80,H⟩:=H;(try dsimp only at H);have A8:=aK A80;clear A80;by_cases c9:t112.length+((rd_T53 l0 a1).f1).length<17592186044416
    ·rw [if_pos c9] at H
     have LMc9:=aK c9;clear c9;obtain ⟨y116,hy116⟩: ∃y_:List Int,y_=(t112++((rd_T53 l0 a1).f1)):=⟨_,rfl⟩;replace H:(some y116)=some r:=by first|(rw [hy116];with_reducible exact H)|(have H2_:=(Option.bind_some _ _).symm.trans H;rw [hy116];with_reducible exact H2_)|(have H2_:=(Option.bind_some _ _).symm.trans H;with_reducible exact H2_)|with_reducible exact H|(rw [hy116];exact H)|exact H
     have Ny116:=aK hy116;clear hy116;obtain rfl:=Option.some.inj H;go_enter Try.func75,Try.ntmps75;try go_wp2
     have n0_:=aK (below_drew1 HB.out);clear HB;have HB:=n0_;clear n0_;have p111:0≤(a1:Int):=of_decide_eq_true zz3
     have q111:a1<(l0.length:Int):=of_decide_eq_true zz3
     obtain ⟨ad111,A111_1,c111_1,e111,hx111_0,hx111_1,hl111_1,hi111_1⟩:=at_T53 HR0.out a1 p111 q111;have hw111_1:=hx111_1;have hw111_0:=hx111_0
     cases e111
     replace hx111_0:=(HB.out.cell (World.block_lt_of_cell? w _ hx111_0)).trans hx111_0;replace hx111_1:=(HB.out.cell (World.block_lt_of_cell? w _ hx111_1)).trans hx111_1;have HR111_1:=aK hi111_1;have HC111_1:=aK hl111_1;clear hi111_1 hl111_1;replace p111:=eq_true p111;replace q111:=eq_true q111;have p115:0≤(a1:Int):=of_decide_eq_true zz3
     have q115:a1<(l0.length:Int):=of_decide_eq_true zz3
     obtain ⟨ad115,A115_1,c115_1,e115,hx115_0,hx115_1,hl115_1,hi115_1⟩:=at_T53 HR0.out a1 p115 q115;have hw115_1:=hx115_1;have hw115_0:=hx115_0;obtain rfl:ad111=ad115:=(by injection e115);replace hx115_0:=(HB.out.cell (World.block_lt_of_cell? w _ hx115_0)).trans hx115_0;replace hx115_1:=(HB.out.cell (World.block_lt_of_cell? w _ hx115_1)).trans hx115_1;have HR115_1:=aK hi115_1;have HC115_1:=aK hl115_1;clear hi115_1 hl115_1;replace p115:=eq_true p115;replace q115:=eq_true q115;have ea_:=Option.some.inj (hx111_1.symm.trans hx115_1);injection ea_ with ea_ en_ ec_;subst ea_;subst ec_;clear en_;refine sT 14 (S:=fun w'=>w'.cell? (ad111.add ((a1).toNat*2))=some (.int .i64 ((rd_T53 l0 a1).f0))∧w'.cell? ⟨(ad111.add ((a1).toNat*2)).block,(ad111.add ((a1).toNat*2)).off+1,none⟩=some (.slice A111_1 ((rd_T53 l0 a1).f1).length c111_1)∧w'.cell? (ad111.add ((a1).toNat*2))=some (.int .i64 ((rd_T53 l0 a1).f0))∧w'.cell? ⟨(ad111.add ((a1).toNat*2)).block,(ad111.add ((a1).toNat*2)).off+1,none⟩=some (.slice A111_1 ((rd_T53 l0 a1).f1).length c111_1)) (ds:=[]) ⟨((HB.out.cell (World.block_lt_of_cell? w _ hw111_0)).trans hw111_0),((HB.out.cell (World.block_lt_of_cell? w _ hw111_1)).trans hw111_1),((HB.out.cell (World.block_lt_of_cell? w _ hw115_0)).trans hw115_0),((HB.out.cell (World.block_lt_of_cell? w _ hw115_1)).trans hw115_1)⟩ (fun hHeld=>?_);refine with_tabW spec_l2Fields.tab3 spec_l2Fields.bits3 (fun HT_ HW_=>?_);generalize w.drew=w10 at HB HR111_1 HR115_1 hx111_0 hx111_1 hx115_0 hx115_1 hHeld ⊢;refine pT 0 8 (lA 14 1) HT_ ?_;refine pT 1 9 (lA 14 3) HT_ ?_;refine pT 2 10 (lA 14 7) HT_ ?_;refine pT 3 11 (lA 14 15) HT_ ?_;refine pT 4 12 (lA 14 31) HT_ ?_;refine pT 7 15 (lA 14 159) HT_ ?_;refine pT 8 16 (lA 14 415) HT_ ?_;refine pT 9 17 (lA 14 927) HT_ ?_;refine pT 10 18 (lA 14 1951) HT_ ?_;refine tS 5 13 (lA 14 1983) rfl rfl (take_ofW HT_.out HW_.out (by kernel_rfl)) hHeld zz12 ?_;refine tS 11 19 (lA 14 4031) rfl rfl (take_ofW HT_.out HW_.out (by kernel_rfl)) hHeld zz12 ?_;refine one_ (i:=6) (N:=some 14) (lA 14 4095) rfl rfl (one_of HT_.out (by kernel_rfl)) (by decide) (fun K hK=>?_);refine goes_ Try.func75 (by kernel_rfl) rfl #[.slice (some ad111) l0.length c0,.int .i64 ((rd_T53 l0 a1).f0)] (by rfl) rfl rfl zz2 ?_;(with_reducible refine (ih k (by omega) _ _ l0 ((rd_T53 l0 a1).f0) t112 _ ?side1 ?side2 A8.out).mono ?_)
     (case side1=>exact zz7)
     (case side2=>exact HC0.out)
     rintro e w11 ⟨v113,rfl,ho0,hb⟩;refine ⟨_,rfl,?_⟩;have n0_:=aK (Kd.R_lower ho0 (below_size zz1));have n1_:=aK (below_step zz1 hb);clear HB;have HO114:=n0_;have HB:=n1_;clear n0_ n1_;(try clear hb);(try clear hb2);(try clear hk);(try clear hi);(try clear ho0);refine hK.out _ _ ⟨((HB.out.cell (World.block_lt_of_cell? w _ hw111_0)).trans hw111_0),((HB.out.cell (World.block_lt_of_cell? w _ hw111_1)).trans hw111_1),((HB.out.cell (World.block_lt_of_cell? w _ hw115_0)).trans hw115_0),((HB.out.cell (World.block_lt_of_cell? w _ hw115_1)).trans hw115_1)⟩ (fun hHeld=>?_);clear hK K;refine nS 14 ?_;refine one_ (i:=12) (N:=some 20) (lA 14 8191) rfl rfl (one_of HT_.out (by kernel_rfl)) (by decide) (fun K hK=>?_);refine Kd.R_append_rows_step (Kd.int .i64) (w0:=w) w.heap.size (by rfl) (.tmp 14) (.tmp 19) 23 3 (.int .i64 0) 8 rfl Try.underlying23 info3 rfl (by decide) (by omega) v113 t112 ((rd_T53 l0 a1).f1) _ _ _ (fun _=>True) (fun _=>False) rfl rfl ?aO ?aR (fun _ _ h=>h) (fun _ h=>h.elim) ?aF ?aB ?aS ?aL ?_
     (case aR=>repeat (first|exact (Kd.C_below HR115_1.out HB.out)|(with_reducible refine Kd.C_alloc ?_ _)|(with_reducible refine Kd.C_drewN ?_ _)|(with_reducible refine Kd.C_drew ?_)))
     (case aB=>exact zz1)
     (case aF=>exact (fun _ _=>trivial))
     (case aO=>exact (by (with_reducible repeat (first|apply Kd.R_alloc|apply Kd.R_drewN|apply Kd.R_drew));exact HO114.out))
     (case aS=>exact (below_size zz1))
     (case aL=>have:=LMc9.out;omega)
     intro v117 w12 ho hb hg hat;rw [←Ny116.out] at ho;have n0_:=aK (hb);have n1_:=aK (ho);clear HB;clear HO114;have HB:=n0_;have HO118:=n1_;clear n0_ n1_;clear ho hb hg hat;refine hK.out _ _ ⟨((HB.out.cell (World.block_lt_of_cell? w _ hw111_0)).trans hw111_0),((HB.out.cell (World.block_lt_of_cell? w _ hw111_1)).trans hw111_1),((HB.out.cell (World.block_lt_of_cell? w _ hw115_0)).trans hw115_0),((HB.out.cell (World.block_lt_of_cell? w _ hw115_1)).trans hw115_1)⟩ (fun hHeld=>?_);clear hK K;refine nS 20 ?_;refine pT 13 4 (lA 14 16383) HT_ ?_;refine done_ (done_of HT_.out (by kernel_rfl)) ?_;try go_wp2
     go_ret;exact ⟨_,by first|rfl|(simp [errW_none,errW_some]<;>rfl)|(simp [*,errW_none,errW_some]<;>rfl),by (with_reducible repeat (first|apply Kd.R_alloc|apply Kd.R_drewN|apply Kd.R_drew));exact HO118.out,by repeat (first|(with_reducible first|exact HB.out|apply below_alloc|apply pw_below_drewN|apply below_drew1)|exact HB.out)⟩
    ·rw [if_neg c9] at H
     exact absurd H (by simp)
   ·rw [if_neg c7] at H
    exact absurd H (by simp)
  ·rw [if_neg c6] at H
   exact absurd H (by simp)
end Go.Proofs.Ytbaklikaoleplaa.K
