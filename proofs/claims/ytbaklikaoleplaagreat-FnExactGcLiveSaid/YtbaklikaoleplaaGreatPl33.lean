import Derived.Test.YtbaklikaoleplaaGreatPl24
import Derived.Test.YtbaklikaoleplaaGreatPl32
set_option maxHeartbeats 8000000
set_option maxRecDepth 100000
namespace Go.Proofs.YtbaklikaoleplaaGreat.K
open Go.RowKit Go.Proofs.YtbaklikaoleplaaGreatW.PrintWords Go.Proofs.YtbaklikaoleplaaGreatW.PrintLast Go.Proofs.YtbaklikaoleplaaGreatW.PrintMore
attribute [local go_sem] gV gT jT jS fY fX gU gR
set_option linter.unusedVariables false
set_option linter.unusedSimpArgs false
def kF:Nat→List (S78)→List (S78)→Int→Option (Bool)
  |0,_,_,_=>none
  |k+1,x0,x1,x5=>if x5<(x0.length:Int) then (if 0≤x5 then (if x5<(x1.length:Int) then ((vV k ((bX x0 x5).f0) ((bX x0 x5).f1) ((bX x1 x5).f0) ((bX x1 x5).f1)).bind fun t454=>(if t454=true then (kF k x0 x1 (wrap64 (x5+1))) else (some false))) else (none)) else (none)) else (some true)
def qE (k:Nat) (l0:List (S78)) (l1:List (S78)):Option (Bool):=if (l0.length:Int)=(l1.length:Int) then (kF k l0 l1 0) else (some false)
def laws_eqClassS.T6:Bool×List (List Nat×List Nat):=(true,[([],[]),([],[]),([0,1],[0,1]),([2],[2]),([],[]),([],[]),([4,5],[4,5]),([6],[6]),([3,7],[3,7]),([8],[8])])
def laws_eqClassS.B6:List Nat:=[0,0,3,7,0,0,48,112,255,511]
theorem vU:sK .any (bHa Tryz.f24 6)=laws_eqClassS.T6:=by kernel_rfl
theorem tZ:vE laws_eqClassS.T6.2 laws_eqClassS.B6=true:=by kernel_rfl
theorem bAk (k : Nat) (A0 : Option Addr) (c0 : Nat) (l0 : List (S78)) (A1 : Option Addr) (c1 : Nat) (l1 : List (S78)) (r : Bool) (w : World) (hr0 : Kd.C yD w A0 l0.length l0) (hc0 : l0.length ≤ c0) (hr1 : Kd.C yD w A1 l1.length l1) (hc1 : l1.length ≤ c1) (h : qE k l0 l1 = some r) :
  Calls Tryz.prog 24 #[.slice A0 l0.length c0,.slice A1 l1.length c1] w fun e w'=>e= .returned (.bool r)∧Below w.heap.size w w':=by
 have hu78:=Tryz.underlying78;have HR0:=aK hr0;have HC0:=aK hc0;clear hr0 hc0;have HR1:=aK hr1;have HC1:=aK hc1;clear hr1 hc1;have HB:=aK (bQ w.heap.size w);have H:(if (l0.length:Int)=(l1.length:Int) then (kF k l0 l1 0) else (some false))=some r:=h
 clear h;by_cases c3:(l0.length:Int)=(l1.length:Int)
 ·rw [if_pos c3] at H
  have c3b0:((l0.length:Int)==(l1.length:Int))=true:=beq_iff_eq.mpr c3
  have c3b1:((l0.length:Int) !=(l1.length:Int))=false:=bne_eq_false_iff_eq.mpr c3
  have c3b2:(l0.length==l1.length)=true:=by first|simpa using c3|(simp at c3 ⊢;omega)
  clear c3;have H':=aK H;clear H;go_enter Tryz.func24,Tryz.ntmps24;go_wp2
  go_loopg [5] k (fun kq v5 w'=> ∃(x5_1:Int),v5= .int .i64 x5_1∧Aside0 (kF kq l0 l1 x5_1=some r)∧Aside0 (kq≤k)∧Aside0 (Below w.heap.size w w'))
  case atStart=>exact ⟨(0),kG,H',⟨bV _⟩,⟨by repeat (first|(with_reducible first|exact HB.out|apply bI|apply bF|apply bH)|exact HB.out)⟩⟩
  case round =>
   clear H';(try clear c1);(try clear c2);(try clear p2);(try clear c3);(try clear c3b0);(try clear c3b1);(try clear c3b2);obtain ⟨x5_1,rfl,HA,HK1,HB⟩:=hrel
   cases gk with
   |zero=>exact absurd HA.out (by simp [kF])
   | succ k1 =>
    have H:=HA.out;clear HA;simp only [kF] at H;by_cases c4:x5_1<(l0.length:Int)
    ·rw [if_pos c4] at H
     have c4b0:decide (x5_1<(l0.length:Int))=true:=bB c4
     clear c4;by_cases c5:0≤x5_1
     ·rw [if_pos c5] at H
      have c5b0:decide (0≤x5_1)=true:=bB c5
      clear c5;by_cases c6:x5_1<(l1.length:Int)
      ·rw [if_pos c6] at H
       have c6b0:decide (x5_1<(l1.length:Int))=true:=bB c6
       clear c6;replace H:=Option.bind_eq_some_iff.mp H;obtain ⟨t454,A70,H⟩:=H;(try dsimp only at H);have A7:=aK A70;clear A70;by_cases c8:t454=true
       ·subst c8
        rw [if_pos rfl] at H;have H':=aK H;clear H;try go_wp2
        have n0_:=aK (bH HB.out);clear HB;have HB:=n0_;clear n0_;have p452:0≤(x5_1:Int):=bA fU
        have q452:x5_1<(l0.length:Int):=bA fU
        obtain ⟨ad452,A452_1,c452_1,e452,hx452_0,hx452_1,hl452_1,hi452_1⟩:=sF HR0.out x5_1 p452 q452;have hw452_1:=hx452_1;have hw452_0:=hx452_0
        cases e452
        replace hx452_0:=(HB.out.cell (bE w _ hx452_0)).trans hx452_0;replace hx452_1:=(HB.out.cell (bE w _ hx452_1)).trans hx452_1;have HR452_1:=aK hi452_1;have HC452_1:=aK hl452_1;clear hi452_1 hl452_1;replace p452:=bL p452;replace q452:=bL q452;have p453:0≤(x5_1:Int):=bA fU
        have q453:x5_1<(l1.length:Int):=bA fU
        obtain ⟨ad453,A453_1,c453_1,e453,hx453_0,hx453_1,hl453_1,hi453_1⟩:=sF HR1.out x5_1 p453 q453;have hw453_1:=hx453_1;have hw453_0:=hx453_0
        cases e453
        replace hx453_0:=(HB.out.cell (bE w _ hx453_0)).trans hx453_0;replace hx453_1:=(HB.out.cell (bE w _ hx453_1)).trans hx453_1;have HR453_1:=aK hi453_1;have HC453_1:=aK hl453_1;clear hi453_1 hl453_1;replace p453:=bL p453;replace q453:=bL q453;refine sT 10 (S:=fun w'=>w'.cell? (ad452.add ((x5_1).toNat*2))=some (.int .i64 ((bX l0 x5_1).f0))∧w'.cell? ⟨(ad452.add ((x5_1).toNat*2)).block,(ad452.add ((x5_1).toNat*2)).off+1,none⟩=some (.slice A452_1 ((bX l0 x5_1).f1).length c452_1)∧w'.cell? (ad453.add ((x5_1).toNat*2))=some (.int .i64 ((bX l1 x5_1).f0))∧w'.cell? ⟨(ad453.add ((x5_1).toNat*2)).block,(ad453.add ((x5_1).toNat*2)).off+1,none⟩=some (.slice A453_1 ((bX l1 x5_1).f1).length c453_1)) (ds:=[]) ⟨((HB.out.cell (bE w _ hw452_0)).trans hw452_0),((HB.out.cell (bE w _ hw452_1)).trans hw452_1),((HB.out.cell (bE w _ hw453_0)).trans hw453_0),((HB.out.cell (bE w _ hw453_1)).trans hw453_1)⟩ (fun hHeld=>?_);refine nN vU tZ (fun HT_ HW_=>?_);generalize wr.drew=w9 at HB HR452_1 HR453_1 hx452_0 hx452_1 hx453_0 hx453_1 hHeld ⊢;refine pT 0 17 #[true,false,false,false,false,false,false,false,false,false] HT_ ?_;refine pT 1 18 #[true,true,false,false,false,false,false,false,false,false] HT_ ?_;refine pT 2 19 #[true,true,true,false,false,false,false,false,false,false] HT_ ?_;refine pT 4 21 #[true,true,true,false,true,false,false,false,false,false] HT_ ?_;refine pT 5 22 #[true,true,true,false,true,true,false,false,false,false] HT_ ?_;refine pT 6 23 #[true,true,true,false,true,true,true,false,false,false] HT_ ?_;refine tS 3 20 #[true,true,true,true,true,true,true,false,false,false] rfl rfl (fV HT_.out HW_.out (by kernel_rfl)) hHeld yL ?_;refine tS 7 24 #[true,true,true,true,true,true,true,true,false,false] rfl rfl (fV HT_.out HW_.out (by kernel_rfl)) hHeld yL ?_;refine rQ (i:=8) (N:=some 25) #[true,true,true,true,true,true,true,true,true,false] rfl rfl (mA HT_.out (by kernel_rfl)) (by decide) (fun K hK=>?_);refine pA Tryz.func54 (by kernel_rfl) rfl #[.agg #[.int .i64 ((bX l0 x5_1).f0),.slice A452_1 ((bX l0 x5_1).f1).length c452_1],.agg #[.int .i64 ((bX l1 x5_1).f0),.slice A453_1 ((bX l1 x5_1).f1).length c453_1]] (by rfl) rfl rfl mO ?_;(with_reducible refine (vW k1 ((bX l0 x5_1).f0) _ _ ((bX l0 x5_1).f1) ((bX l1 x5_1).f0) _ _ ((bX l1 x5_1).f1) true _ ?side1 ?side2 ?side3 ?side4 A7.out).mono ?_)
        (case side1=>exact (by repeat (first|exact (bS HR452_1.out HB.out)|(with_reducible refine Kd.C_alloc ?_ _)|(with_reducible refine Kd.C_drewN ?_ _)|(with_reducible refine Kd.C_drew ?_))))
        (case side2=>exact HC452_1.out)
        (case side3=>exact (by repeat (first|exact (bS HR453_1.out HB.out)|(with_reducible refine Kd.C_alloc ?_ _)|(with_reducible refine Kd.C_drewN ?_ _)|(with_reducible refine Kd.C_drew ?_))))
        (case side4=>exact HC453_1.out)
        rintro e w10 ⟨rfl,hb⟩;refine ⟨_,rfl,?_⟩;have n0_:=aK (bG jR hb);clear HB;have HB:=n0_;clear n0_;(try clear hb);(try clear hb2);(try clear hk);(try clear hi);refine hK.out _ _ ⟨((HB.out.cell (bE w _ hw452_0)).trans hw452_0),((HB.out.cell (bE w _ hw452_1)).trans hw452_1),((HB.out.cell (bE w _ hw453_0)).trans hw453_0),((HB.out.cell (bE w _ hw453_1)).trans hw453_1)⟩ (fun hHeld=>?_);clear hK K;refine nS 25 ?_;refine pT 9 26 #[true,true,true,true,true,true,true,true,true,true] HT_ ?_;refine kX (rE HT_.out (by kernel_rfl)) ?_;try go_wp2
        go_roundg k1
        case measure=>have:=HK1.out;omega
        case rel=>exact ⟨(wrap64 (x5_1+1)),kG,H',⟨by have:=HK1.out;omega⟩,⟨by repeat (first|(with_reducible first|exact HB.out|apply bI|apply bF|apply bH)|exact HB.out)⟩⟩
       ·replace c8 := Bool.eq_false_iff.mpr c8
        subst c8;rw [if_neg (show¬(false=true) by decide)] at H;obtain rfl:=bC H;try go_wp2
        have n0_:=aK (bH HB.out);clear HB;have HB:=n0_;clear n0_;have p452:0≤(x5_1:Int):=bA fU
        have q452:x5_1<(l0.length:Int):=bA fU
        obtain ⟨ad452,A452_1,c452_1,e452,hx452_0,hx452_1,hl452_1,hi452_1⟩:=sF HR0.out x5_1 p452 q452;have hw452_1:=hx452_1;have hw452_0:=hx452_0
        cases e452
        replace hx452_0:=(HB.out.cell (bE w _ hx452_0)).trans hx452_0;replace hx452_1:=(HB.out.cell (bE w _ hx452_1)).trans hx452_1;have HR452_1:=aK hi452_1;have HC452_1:=aK hl452_1;clear hi452_1 hl452_1;replace p452:=bL p452;replace q452:=bL q452;have p453:0≤(x5_1:Int):=bA fU
        have q453:x5_1<(l1.length:Int):=bA fU
        obtain ⟨ad453,A453_1,c453_1,e453,hx453_0,hx453_1,hl453_1,hi453_1⟩:=sF HR1.out x5_1 p453 q453;have hw453_1:=hx453_1;have hw453_0:=hx453_0
        cases e453
        replace hx453_0:=(HB.out.cell (bE w _ hx453_0)).trans hx453_0;replace hx453_1:=(HB.out.cell (bE w _ hx453_1)).trans hx453_1;have HR453_1:=aK hi453_1;have HC453_1:=aK hl453_1;clear hi453_1 hl453_1;replace p453:=bL p453;replace q453:=bL q453;refine sT 10 (S:=fun w'=>w'.cell? (ad452.add ((x5_1).toNat*2))=some (.int .i64 ((bX l0 x5_1).f0))∧w'.cell? ⟨(ad452.add ((x5_1).toNat*2)).block,(ad452.add ((x5_1).toNat*2)).off+1,none⟩=some (.slice A452_1 ((bX l0 x5_1).f1).length c452_1)∧w'.cell? (ad453.add ((x5_1).toNat*2))=some (.int .i64 ((bX l1 x5_1).f0))∧w'.cell? ⟨(ad453.add ((x5_1).toNat*2)).block,(ad453.add ((x5_1).toNat*2)).off+1,none⟩=some (.slice A453_1 ((bX l1 x5_1).f1).length c453_1)) (ds:=[]) ⟨((HB.out.cell (bE w _ hw452_0)).trans hw452_0),((HB.out.cell (bE w _ hw452_1)).trans hw452_1),((HB.out.cell (bE w _ hw453_0)).trans hw453_0),((HB.out.cell (bE w _ hw453_1)).trans hw453_1)⟩ (fun hHeld=>?_);refine nN vU tZ (fun HT_ HW_=>?_);generalize wr.drew=w11 at HB HR452_1 HR453_1 hx452_0 hx452_1 hx453_0 hx453_1 hHeld ⊢;refine pT 0 17 #[true,false,false,false,false,false,false,false,false,false] HT_ ?_;refine pT 1 18 #[true,true,false,false,false,false,false,false,false,false] HT_ ?_;refine pT 2 19 #[true,true,true,false,false,false,false,false,false,false] HT_ ?_;refine pT 4 21 #[true,true,true,false,true,false,false,false,false,false] HT_ ?_;refine pT 5 22 #[true,true,true,false,true,true,false,false,false,false] HT_ ?_;refine pT 6 23 #[true,true,true,false,true,true,true,false,false,false] HT_ ?_;refine tS 3 20 #[true,true,true,true,true,true,true,false,false,false] rfl rfl (fV HT_.out HW_.out (by kernel_rfl)) hHeld yL ?_;refine tS 7 24 #[true,true,true,true,true,true,true,true,false,false] rfl rfl (fV HT_.out HW_.out (by kernel_rfl)) hHeld yL ?_;refine rQ (i:=8) (N:=some 25) #[true,true,true,true,true,true,true,true,true,false] rfl rfl (mA HT_.out (by kernel_rfl)) (by decide) (fun K hK=>?_);refine pA Tryz.func54 (by kernel_rfl) rfl #[.agg #[.int .i64 ((bX l0 x5_1).f0),.slice A452_1 ((bX l0 x5_1).f1).length c452_1],.agg #[.int .i64 ((bX l1 x5_1).f0),.slice A453_1 ((bX l1 x5_1).f1).length c453_1]] (by rfl) rfl rfl mO ?_;(with_reducible refine (vW k1 ((bX l0 x5_1).f0) _ _ ((bX l0 x5_1).f1) ((bX l1 x5_1).f0) _ _ ((bX l1 x5_1).f1) false _ ?side1 ?side2 ?side3 ?side4 A7.out).mono ?_)
        (case side1=>exact (by repeat (first|exact (bS HR452_1.out HB.out)|(with_reducible refine Kd.C_alloc ?_ _)|(with_reducible refine Kd.C_drewN ?_ _)|(with_reducible refine Kd.C_drew ?_))))
        (case side2=>exact HC452_1.out)
        (case side3=>exact (by repeat (first|exact (bS HR453_1.out HB.out)|(with_reducible refine Kd.C_alloc ?_ _)|(with_reducible refine Kd.C_drewN ?_ _)|(with_reducible refine Kd.C_drew ?_))))
        (case side4=>exact HC453_1.out)
        rintro e w12 ⟨rfl,hb⟩;refine ⟨_,rfl,?_⟩;have n0_:=aK (bG jR hb);clear HB;have HB:=n0_;clear n0_;(try clear hb);(try clear hb2);(try clear hk);(try clear hi);refine hK.out _ _ ⟨((HB.out.cell (bE w _ hw452_0)).trans hw452_0),((HB.out.cell (bE w _ hw452_1)).trans hw452_1),((HB.out.cell (bE w _ hw453_0)).trans hw453_0),((HB.out.cell (bE w _ hw453_1)).trans hw453_1)⟩ (fun hHeld=>?_);clear hK K;refine nS 25 ?_;refine pT 9 26 #[true,true,true,true,true,true,true,true,true,true] HT_ ?_;refine kX (rE HT_.out (by kernel_rfl)) ?_;try go_wp2
        go_ret;exact ⟨sL,jR⟩
      ·rw [if_neg c6] at H
       exact absurd H (by simp)
     ·rw [if_neg c5] at H
      exact absurd H (by simp)
    ·rw [if_neg c4] at H
     have c4b0:decide (x5_1<(l0.length:Int))=false:=bJ c4
     clear c4;obtain rfl:=bC H;go_wp2;go_ret;exact ⟨sL,jR⟩
 ·rw [if_neg c3] at H
  have c3b0:((l0.length:Int)==(l1.length:Int))=false:=tP.mpr c3
  have c3b1:((l0.length:Int) !=(l1.length:Int))=true:=bne_iff_ne.mpr c3
  have c3b2:(l0.length==l1.length)=false:=by first|simpa using c3|(simp at c3 ⊢;omega)
  obtain rfl:=bC H;go_enter Tryz.func24,Tryz.ntmps24;go_wp2;go_ret;exact ⟨sL,jR⟩
def gJ:Nat→List Bool→List Bool→Int→Option (Bool)
  |0,_,_,_=>none
  |k+1,x0,x1,x5=>if x5<(x0.length:Int) then (if 0≤x5 then (if x5<(x1.length:Int) then (if ((fW false x0 x5) !=(fW false x1 x5))=true then (some false) else (gJ k x0 x1 (wrap64 (x5+1)))) else (none)) else (none)) else (some true)
def mB (k:Nat) (l0:List Bool) (l1:List Bool):Option (Bool):=if (l0.length:Int)=(l1.length:Int) then (gJ k l0 l1 0) else (some false)
theorem vA: ∀k,(∀y0 y1 y2,bBf (gJ k y0 y1 y2) (gJ (k+1) y0 y1 y2))
 |0=>fun _ _ _ r h=>by simp [gJ] at h
 | k + 1 => by
  have ih0:=vA k
  ·intro y0 y1 y2
   unfold gJ;repeat' first
   |(with_reducible exact ih0 _ _ _)
   |(with_reducible exact bBf.refl _)
   |(with_reducible exact bBf.none _)
   |(with_reducible refine bBf.ite ?_ ?_)
   |(with_reducible refine bBf.bind ?_ (fun _=>?_))
   |exact ih0 _ _ _
   |exact bBf.none _
   |refine bBf.ite ?_ ?_
   |refine bBf.bind ?_ (fun _=>?_)
theorem xN: ∀a0 a1 k,bBf (mB k a0 a1) (mB (k+1) a0 a1):=by
  intro a0 a1 k;have ih0:=vA k;unfold mB
  repeat' first
      |(with_reducible exact ih0 _ _ _)
      |(with_reducible exact bBf.refl _)
      |(with_reducible exact bBf.none _)
      |(with_reducible refine bBf.ite ?_ ?_)
      |(with_reducible refine bBf.bind ?_ (fun _=>?_))
      |exact ih0 _ _ _
      |exact bBf.none _
      |refine bBf.ite ?_ ?_
      |refine bBf.bind ?_ (fun _=>?_)
theorem vX (k : Nat) (A0 : Option Addr) (c0 : Nat) (l0 : List Bool) (A1 : Option Addr) (c1 : Nat) (l1 : List Bool) (r : Bool) (w : World) (hr0 : Kd.C Kd.bool w A0 l0.length l0) (hc0 : l0.length ≤ c0) (hr1 : Kd.C Kd.bool w A1 l1.length l1) (hc1 : l1.length ≤ c1) (h : mB k l0 l1 = some r) :
  Calls Tryz.prog 55 #[.slice A0 l0.length c0,.slice A1 l1.length c1] w fun e w'=>e= .returned (.bool r)∧Drawn0 w w':=by
 have HR0:=aK hr0;have HC0:=aK hc0;clear hr0 hc0;have HR1:=aK hr1;have HC1:=aK hc1;clear hr1 hc1;have H:(if (l0.length:Int)=(l1.length:Int) then (gJ k l0 l1 0) else (some false))=some r:=h
 clear h;by_cases c3:(l0.length:Int)=(l1.length:Int)
 ·rw [if_pos c3] at H
  have c3b0:((l0.length:Int)==(l1.length:Int))=true:=beq_iff_eq.mpr c3
  have c3b1:((l0.length:Int) !=(l1.length:Int))=false:=bne_eq_false_iff_eq.mpr c3
  have c3b2:(l0.length==l1.length)=true:=by first|simpa using c3|(simp at c3 ⊢;omega)
  clear c3;have H':=aK H;clear H;go_enter Tryz.func55,Tryz.ntmps55;go_wp2;repeat (go_quiet (fail);try go_wp2)
  go_loopg [5] k (fun kq v5 w'=> ∃(x5_1:Int),v5= .int .i64 x5_1∧Aside0 (gJ kq l0 l1 x5_1=some r)∧Aside0 (kq≤k)∧Drawn0 w w')
  case atStart=>exact ⟨(0),kG,H',⟨bV _⟩,by repeat (first|exact Drawn0.refl _|apply Drawn0.step)⟩
  case round =>
   clear H';(try clear c1);(try clear p2);(try clear c3);(try clear c3b0);(try clear c3b1);(try clear c3b2);obtain ⟨x5_1,rfl,HA,HK1,⟨m1,rfl⟩⟩:=hrel
   cases gk with
   |zero=>exact absurd HA.out (by simp [gJ])
   | succ k1 =>
    have H:=HA.out;clear HA;simp only [gJ] at H;by_cases c4:x5_1<(l0.length:Int)
    ·rw [if_pos c4] at H
     have c4b0:decide (x5_1<(l0.length:Int))=true:=bB c4
     clear c4;by_cases c5:0≤x5_1
     ·rw [if_pos c5] at H
      have c5b0:decide (0≤x5_1)=true:=bB c5
      clear c5;by_cases c6:x5_1<(l1.length:Int)
      ·rw [if_pos c6] at H
       have c6b0:decide (x5_1<(l1.length:Int))=true:=bB c6
       clear c6;by_cases c7:((fW false l0 x5_1) !=(fW false l1 x5_1))=true
       ·rw [if_pos c7] at H
        have c7b0:((fW false l0 x5_1) !=(fW false l1 x5_1))=true:=c7
        (try (have c7b1:decide ((fW false l0 x5_1)=(fW false l1 x5_1))=false:=by simpa using c7))
        (try (have c7b2:((fW false l0 x5_1)==(fW false l1 x5_1))=false:=by simpa using c7))
        (try (have c7b3: ¬((fW false l0 x5_1)=(fW false l1 x5_1)):=by simpa using c7))
        clear c7;obtain rfl:=bC H;have p455:0≤(x5_1:Int):=bA fU
        have q455:x5_1<(l0.length:Int):=bA fU
        obtain ⟨ad455,e455,hx455_0⟩:=gQ HR0.out x5_1 p455 q455
        cases e455
        replace p455:=bL p455;replace q455:=bL q455;have p456:0≤(x5_1:Int):=bA fU
        have q456:x5_1<(l1.length:Int):=bA fU
        obtain ⟨ad456,e456,hx456_0⟩:=gQ HR1.out x5_1 p456 q456
        cases e456
        replace p456:=bL p456;replace q456:=bL q456;go_wp2;repeat (go_quiet (fail);try go_wp2)
        go_ret;exact ⟨kG,nP⟩
       ·rw [if_neg c7] at H
        have c7b0:((fW false l0 x5_1) !=(fW false l1 x5_1))=false:=by simpa using c7
        (try (have c7b1:decide ((fW false l0 x5_1)=(fW false l1 x5_1))=true:=by simpa using c7))
        (try (have c7b2:((fW false l0 x5_1)==(fW false l1 x5_1))=true:=by simpa using c7))
        clear c7;have H':=aK H;clear H;have p455:0≤(x5_1:Int):=bA fU
        have q455:x5_1<(l0.length:Int):=bA fU
        obtain ⟨ad455,e455,hx455_0⟩:=gQ HR0.out x5_1 p455 q455
        cases e455
        replace p455:=bL p455;replace q455:=bL q455;have p456:0≤(x5_1:Int):=bA fU
        have q456:x5_1<(l1.length:Int):=bA fU
        obtain ⟨ad456,e456,hx456_0⟩:=gQ HR1.out x5_1 p456 q456
        cases e456
        replace p456:=bL p456;replace q456:=bL q456;go_wp2;repeat (go_quiet (fail);try go_wp2)
        go_roundg k1
        case measure=>have:=HK1.out;omega
        case rel=>exact ⟨(wrap64 (x5_1+1)),kG,H',⟨by have:=HK1.out;omega⟩,by repeat (first|exact Drawn0.refl _|apply Drawn0.step)⟩
      ·rw [if_neg c6] at H
       exact absurd H (by simp)
     ·rw [if_neg c5] at H
      exact absurd H (by simp)
    ·rw [if_neg c4] at H
     have c4b0:decide (x5_1<(l0.length:Int))=false:=bJ c4
     clear c4;obtain rfl:=bC H;go_wp2;repeat (go_quiet (fail);try go_wp2)
     go_ret;exact ⟨kG,nP⟩
 ·rw [if_neg c3] at H
  have c3b0:((l0.length:Int)==(l1.length:Int))=false:=tP.mpr c3
  have c3b1:((l0.length:Int) !=(l1.length:Int))=true:=bne_iff_ne.mpr c3
  have c3b2:(l0.length==l1.length)=false:=by first|simpa using c3|(simp at c3 ⊢;omega)
  obtain rfl:=bC H;go_enter Tryz.func55,Tryz.ntmps55;go_wp2;repeat (go_quiet (fail);try go_wp2)
  go_ret;exact ⟨kG,nP⟩
def sC (k:Nat) (l0_0:List Int) (a0_1:Int) (a0_2:Int) (a0_3:Int) (l0_4:List Bool) (l1_0:List Int) (a1_1:Int) (a1_2:Int) (a1_3:Int) (l1_4:List Bool):Option (Bool):=(gP k l0_0 l1_0).bind fun t459=>(if t459=true then (if a0_1=a1_1 then (if a0_2=a1_2 then (if a0_3=a1_3 then ((mB k l0_4 l1_4).bind fun t460=>(if t460=true then (some true) else (some false))) else (some false)) else (some false)) else (some false)) else (some false))
theorem bCf (k:Nat) (A0_0:Option Addr) (c0_0:Nat) (l0_0:List Int) (a0_1:Int) (a0_2:Int) (a0_3:Int) (A0_4:Option Addr) (c0_4:Nat) (l0_4:List Bool) (A1_0:Option Addr) (c1_0:Nat) (l1_0:List Int) (a1_1:Int) (a1_2:Int) (a1_3:Int) (A1_4:Option Addr) (c1_4:Nat) (l1_4:List Bool) (r:Bool) (w:World) (hr0_0:Kd.C (Kd.int .i64) w A0_0 l0_0.length l0_0) (hc0_0:l0_0.length≤c0_0) (hr0_4:Kd.C Kd.bool w A0_4 l0_4.length l0_4) (hc0_4:l0_4.length≤c0_4) (hr1_0:Kd.C (Kd.int .i64) w A1_0 l1_0.length l1_0) (hc1_0:l1_0.length≤c1_0) (hr1_4:Kd.C Kd.bool w A1_4 l1_4.length l1_4) (hc1_4:l1_4.length≤c1_4) (h:sC k l0_0 a0_1 a0_2 a0_3 l0_4 l1_0 a1_1 a1_2 a1_3 l1_4=some r):
  Calls Tryz.prog 25 #[.agg #[.slice A0_0 l0_0.length c0_0,.int .i64 a0_1,.int .i64 a0_2,.int .i64 a0_3,.slice A0_4 l0_4.length c0_4],.agg #[.slice A1_0 l1_0.length c1_0,.int .i64 a1_1,.int .i64 a1_2,.int .i64 a1_3,.slice A1_4 l1_4.length c1_4]] w fun e w'=>e= .returned (.bool r)∧Below w.heap.size w w':=by
 have hu27:=Tryz.underlying27;have HR0_0:=aK hr0_0;have HC0_0:=aK hc0_0;clear hr0_0 hc0_0;have HR0_4:=aK hr0_4;have HC0_4:=aK hc0_4;clear hr0_4 hc0_4;have HR1_0:=aK hr1_0;have HC1_0:=aK hc1_0;clear hr1_0 hc1_0;have HR1_4:=aK hr1_4;have HC1_4:=aK hc1_4;clear hr1_4 hc1_4;have HB:=aK (bQ w.heap.size w);have H:((gP k l0_0 l1_0).bind fun t459=>(if t459=true then (if a0_1=a1_1 then (if a0_2=a1_2 then (if a0_3=a1_3 then ((mB k l0_4 l1_4).bind fun t460=>(if t460=true then (some true) else (some false))) else (some false)) else (some false)) else (some false)) else (some false)))=some r:=h
 clear h;replace H:=Option.bind_eq_some_iff.mp H;obtain ⟨t459,A30,H⟩:=H;(try dsimp only at H);have A3:=aK A30;clear A30;by_cases c4:t459=true
 ·subst c4
  rw [if_pos rfl] at H;by_cases c5:a0_1=a1_1
  ·rw [if_pos c5] at H
   have c5b0:(a0_1==a1_1)=true:=beq_iff_eq.mpr c5
   have c5b1:(a0_1 !=a1_1)=false:=bne_eq_false_iff_eq.mpr c5
   clear c5;by_cases c6:a0_2=a1_2
   ·rw [if_pos c6] at H
    have c6b0:(a0_2==a1_2)=true:=beq_iff_eq.mpr c6
    have c6b1:(a0_2 !=a1_2)=false:=bne_eq_false_iff_eq.mpr c6
    clear c6;by_cases c7:a0_3=a1_3
    ·rw [if_pos c7] at H
     have c7b0:(a0_3==a1_3)=true:=beq_iff_eq.mpr c7
     have c7b1:(a0_3 !=a1_3)=false:=bne_eq_false_iff_eq.mpr c7
     clear c7;replace H:=Option.bind_eq_some_iff.mp H;obtain ⟨t460,A80,H⟩:=H;(try dsimp only at H);have A8:=aK A80;clear A80;by_cases c9:t460=true
     ·subst c9
      rw [if_pos rfl] at H;obtain rfl:=bC H;go_enter Tryz.func25,Tryz.ntmps25
      go_wp2_with (first|((with_reducible refine dG (N:=2) rfl ?_);refine dN ?hg (N:=2) ?hd (cs:= #[.slice A0_0 l0_0.length c0_0,.int .i64 a0_1,.int .i64 a0_2,.int .i64 a0_3,.slice A0_4 l0_4.length c0_4]) (t:=27) ?hr ?_;(case hd=>rfl);(case hg=>rfl);(case hr=>first|(go_simp;done)|(go_simp;rfl));intro gb457 hg w10 hbox hb;have BK457:=aK (hbox);have GW457:=aK (bCy);have GE457:=aK (bCy);replace HB:=aK (bG jR hb);clear hb hbox hg)|((with_reducible refine dG (N:=3) rfl ?_);refine dN ?hg (N:=3) ?hd (cs:= #[.slice A1_0 l1_0.length c1_0,.int .i64 a1_1,.int .i64 a1_2,.int .i64 a1_3,.slice A1_4 l1_4.length c1_4]) (t:=27) ?hr ?_;(case hd=>rfl);(case hg=>rfl);(case hr=>first|(go_simp;done)|(go_simp;rfl));intro gb458 hg w11 hbox hb;have BK458:=aK (hbox);have GW458:=aK (bCz);have GE458:=aK (bCz);have NB457_458:=aK (bKf);have NB458_457:=aK (bKe);replace BK457:=aK (cJ (g:=gb457) (o:= .cells #[.slice A0_0 l0_0.length c0_0,.int .i64 a0_1,.int .i64 a0_2,.int .i64 a0_3,.slice A0_4 l0_4.length c0_4] 27 (0,0)) bGp hb);replace HB:=aK (bG zz9 hb);clear hb hbox hg;have hnb12:=NB457_458.out;have hnc12:=NB458_457.out;obtain ⟨hcz13_0,hcz13_1,hcz13_2,hcz13_3,hcz13_4,hfz13_0,hfz13_1,hfz13_2,hfz13_3,hfz13_4⟩:=mG BK457;obtain ⟨hcz14_0,hcz14_1,hcz14_2,hcz14_3,hcz14_4,hfz14_0,hfz14_1,hfz14_2,hfz14_3,hfz14_4⟩:=mG BK458)|((with_reducible refine cD (f:=23) rfl ?_);refine dT (some 9) rfl rfl Tryz.func23 (by kernel_rfl) rfl #[.slice A0_0 l0_0.length c0_0,.slice A1_0 l1_0.length c1_0] rfl mO ?_;(with_reducible refine (gB k _ _ l0_0 _ _ l1_0 true _ ?side1 ?side2 ?side3 ?side4 A3.out).mono ?_);(case side1=>exact bEt);(case side2=>exact HC0_0.out);(case side3=>exact bCx);(case side4=>exact HC1_0.out);rintro e w' ⟨rfl,⟨nd,rfl⟩⟩;refine ⟨_,rfl,?_⟩)|((with_reducible refine cD (f:=55) rfl ?_);refine dT (some 30) rfl rfl Tryz.func55 (by kernel_rfl) rfl #[.slice A0_4 l0_4.length c0_4,.slice A1_4 l1_4.length c1_4] rfl mO ?_;(with_reducible refine (vX k _ _ l0_4 _ _ l1_4 true _ ?side1 ?side2 ?side3 ?side4 A8.out).mono ?_);(case side1=>repeat (first|exact (bS HR0_4.out bEu)|(with_reducible refine Kd.C_alloc ?_ _)|(with_reducible refine Kd.C_drewN ?_ _)|(with_reducible refine Kd.C_drew ?_)));(case side2=>exact HC0_4.out);(case side3=>repeat (first|exact (bS HR1_4.out bEu)|(with_reducible refine Kd.C_alloc ?_ _)|(with_reducible refine Kd.C_drewN ?_ _)|(with_reducible refine Kd.C_drew ?_)));(case side4=>exact HC1_4.out);rintro e w' ⟨rfl,⟨nd,rfl⟩⟩;refine ⟨_,rfl,?_⟩))
      go_ret;exact ⟨sL,bEu⟩
     ·replace c9 := Bool.eq_false_iff.mpr c9
      subst c9;rw [if_neg (show¬(false=true) by decide)] at H;obtain rfl:=bC H;go_enter Tryz.func25,Tryz.ntmps25
      go_wp2_with (first|((with_reducible refine dG (N:=2) rfl ?_);refine dN ?hg (N:=2) ?hd (cs:= #[.slice A0_0 l0_0.length c0_0,.int .i64 a0_1,.int .i64 a0_2,.int .i64 a0_3,.slice A0_4 l0_4.length c0_4]) (t:=27) ?hr ?_;(case hd=>rfl);(case hg=>rfl);(case hr=>first|(go_simp;done)|(go_simp;rfl));intro gb457 hg w15 hbox hb;have BK457:=aK (hbox);have GW457:=aK (bCy);have GE457:=aK (bCy);replace HB:=aK (bG jR hb);clear hb hbox hg)|((with_reducible refine dG (N:=3) rfl ?_);refine dN ?hg (N:=3) ?hd (cs:= #[.slice A1_0 l1_0.length c1_0,.int .i64 a1_1,.int .i64 a1_2,.int .i64 a1_3,.slice A1_4 l1_4.length c1_4]) (t:=27) ?hr ?_;(case hd=>rfl);(case hg=>rfl);(case hr=>first|(go_simp;done)|(go_simp;rfl));intro gb458 hg w16 hbox hb;have BK458:=aK (hbox);have GW458:=aK (bCz);have GE458:=aK (bCz);have NB457_458:=aK (bKf);have NB458_457:=aK (bKe);replace BK457:=aK (cJ (g:=gb457) (o:= .cells #[.slice A0_0 l0_0.length c0_0,.int .i64 a0_1,.int .i64 a0_2,.int .i64 a0_3,.slice A0_4 l0_4.length c0_4] 27 (0,0)) bGp hb);replace HB:=aK (bG zz9 hb);clear hb hbox hg;have hnb17:=NB457_458.out;have hnc17:=NB458_457.out;obtain ⟨hcz18_0,hcz18_1,hcz18_2,hcz18_3,hcz18_4,hfz18_0,hfz18_1,hfz18_2,hfz18_3,hfz18_4⟩:=mG BK457;obtain ⟨hcz19_0,hcz19_1,hcz19_2,hcz19_3,hcz19_4,hfz19_0,hfz19_1,hfz19_2,hfz19_3,hfz19_4⟩:=mG BK458)|((with_reducible refine cD (f:=23) rfl ?_);refine dT (some 9) rfl rfl Tryz.func23 (by kernel_rfl) rfl #[.slice A0_0 l0_0.length c0_0,.slice A1_0 l1_0.length c1_0] rfl mO ?_;(with_reducible refine (gB k _ _ l0_0 _ _ l1_0 true _ ?side1 ?side2 ?side3 ?side4 A3.out).mono ?_);(case side1=>exact bEt);(case side2=>exact HC0_0.out);(case side3=>exact bCx);(case side4=>exact HC1_0.out);rintro e w' ⟨rfl,⟨nd,rfl⟩⟩;refine ⟨_,rfl,?_⟩)|((with_reducible refine cD (f:=55) rfl ?_);refine dT (some 30) rfl rfl Tryz.func55 (by kernel_rfl) rfl #[.slice A0_4 l0_4.length c0_4,.slice A1_4 l1_4.length c1_4] rfl mO ?_;(with_reducible refine (vX k _ _ l0_4 _ _ l1_4 false _ ?side1 ?side2 ?side3 ?side4 A8.out).mono ?_);(case side1=>repeat (first|exact (bS HR0_4.out bEu)|(with_reducible refine Kd.C_alloc ?_ _)|(with_reducible refine Kd.C_drewN ?_ _)|(with_reducible refine Kd.C_drew ?_)));(case side2=>exact HC0_4.out);(case side3=>repeat (first|exact (bS HR1_4.out bEu)|(with_reducible refine Kd.C_alloc ?_ _)|(with_reducible refine Kd.C_drewN ?_ _)|(with_reducible refine Kd.C_drew ?_)));(case side4=>exact HC1_4.out);rintro e w' ⟨rfl,⟨nd,rfl⟩⟩;refine ⟨_,rfl,?_⟩))
      go_ret;exact ⟨sL,bEu⟩
    ·rw [if_neg c7] at H
     have c7b0:(a0_3==a1_3)=false:=tP.mpr c7
     have c7b1:(a0_3 !=a1_3)=true:=bne_iff_ne.mpr c7
     obtain rfl:=bC H;go_enter Tryz.func25,Tryz.ntmps25
     go_wp2_with (first|((with_reducible refine dG (N:=2) rfl ?_);refine dN ?hg (N:=2) ?hd (cs:= #[.slice A0_0 l0_0.length c0_0,.int .i64 a0_1,.int .i64 a0_2,.int .i64 a0_3,.slice A0_4 l0_4.length c0_4]) (t:=27) ?hr ?_;(case hd=>rfl);(case hg=>rfl);(case hr=>first|(go_simp;done)|(go_simp;rfl));intro gb457 hg w20 hbox hb;have BK457:=aK (hbox);have GW457:=aK (bCy);have GE457:=aK (bCy);replace HB:=aK (bG jR hb);clear hb hbox hg)|((with_reducible refine dG (N:=3) rfl ?_);refine dN ?hg (N:=3) ?hd (cs:= #[.slice A1_0 l1_0.length c1_0,.int .i64 a1_1,.int .i64 a1_2,.int .i64 a1_3,.slice A1_4 l1_4.length c1_4]) (t:=27) ?hr ?_;(case hd=>rfl);(case hg=>rfl);(case hr=>first|(go_simp;done)|(go_simp;rfl));intro gb458 hg w21 hbox hb;have BK458:=aK (hbox);have GW458:=aK (bCz);have GE458:=aK (bCz);have NB457_458:=aK (bKf);have NB458_457:=aK (bKe);replace BK457:=aK (cJ (g:=gb457) (o:= .cells #[.slice A0_0 l0_0.length c0_0,.int .i64 a0_1,.int .i64 a0_2,.int .i64 a0_3,.slice A0_4 l0_4.length c0_4] 27 (0,0)) bGp hb);replace HB:=aK (bG zz9 hb);clear hb hbox hg;have hnb22:=NB457_458.out;have hnc22:=NB458_457.out;obtain ⟨hcz23_0,hcz23_1,hcz23_2,hcz23_3,hcz23_4,hfz23_0,hfz23_1,hfz23_2,hfz23_3,hfz23_4⟩:=mG BK457;obtain ⟨hcz24_0,hcz24_1,hcz24_2,hcz24_3,hcz24_4,hfz24_0,hfz24_1,hfz24_2,hfz24_3,hfz24_4⟩:=mG BK458)|((with_reducible refine cD (f:=23) rfl ?_);refine dT (some 9) rfl rfl Tryz.func23 (by kernel_rfl) rfl #[.slice A0_0 l0_0.length c0_0,.slice A1_0 l1_0.length c1_0] rfl mO ?_;(with_reducible refine (gB k _ _ l0_0 _ _ l1_0 true _ ?side1 ?side2 ?side3 ?side4 A3.out).mono ?_);(case side1=>exact bEt);(case side2=>exact HC0_0.out);(case side3=>exact bCx);(case side4=>exact HC1_0.out);rintro e w' ⟨rfl,⟨nd,rfl⟩⟩;refine ⟨_,rfl,?_⟩))
     go_ret;exact ⟨sL,bEu⟩
   ·rw [if_neg c6] at H
    have c6b0:(a0_2==a1_2)=false:=tP.mpr c6
    have c6b1:(a0_2 !=a1_2)=true:=bne_iff_ne.mpr c6
    obtain rfl:=bC H;go_enter Tryz.func25,Tryz.ntmps25
    go_wp2_with (first|((with_reducible refine dG (N:=2) rfl ?_);refine dN ?hg (N:=2) ?hd (cs:= #[.slice A0_0 l0_0.length c0_0,.int .i64 a0_1,.int .i64 a0_2,.int .i64 a0_3,.slice A0_4 l0_4.length c0_4]) (t:=27) ?hr ?_;(case hd=>rfl);(case hg=>rfl);(case hr=>first|(go_simp;done)|(go_simp;rfl));intro gb457 hg w25 hbox hb;have BK457:=aK (hbox);have GW457:=aK (bCy);have GE457:=aK (bCy);replace HB:=aK (bG jR hb);clear hb hbox hg)|((with_reducible refine dG (N:=3) rfl ?_);refine dN ?hg (N:=3) ?hd (cs:= #[.slice A1_0 l1_0.length c1_0,.int .i64 a1_1,.int .i64 a1_2,.int .i64 a1_3,.slice A1_4 l1_4.length c1_4]) (t:=27) ?hr ?_;(case hd=>rfl);(case hg=>rfl);(case hr=>first|(go_simp;done)|(go_simp;rfl));intro gb458 hg w26 hbox hb;have BK458:=aK (hbox);have GW458:=aK (bCz);have GE458:=aK (bCz);have NB457_458:=aK (bKf);have NB458_457:=aK (bKe);replace BK457:=aK (cJ (g:=gb457) (o:= .cells #[.slice A0_0 l0_0.length c0_0,.int .i64 a0_1,.int .i64 a0_2,.int .i64 a0_3,.slice A0_4 l0_4.length c0_4] 27 (0,0)) bGp hb);replace HB:=aK (bG zz9 hb);clear hb hbox hg;have hnb27:=NB457_458.out;have hnc27:=NB458_457.out;obtain ⟨hcz28_0,hcz28_1,hcz28_2,hcz28_3,hcz28_4,hfz28_0,hfz28_1,hfz28_2,hfz28_3,hfz28_4⟩:=mG BK457;obtain ⟨hcz29_0,hcz29_1,hcz29_2,hcz29_3,hcz29_4,hfz29_0,hfz29_1,hfz29_2,hfz29_3,hfz29_4⟩:=mG BK458)|((with_reducible refine cD (f:=23) rfl ?_);refine dT (some 9) rfl rfl Tryz.func23 (by kernel_rfl) rfl #[.slice A0_0 l0_0.length c0_0,.slice A1_0 l1_0.length c1_0] rfl mO ?_;(with_reducible refine (gB k _ _ l0_0 _ _ l1_0 true _ ?side1 ?side2 ?side3 ?side4 A3.out).mono ?_);(case side1=>exact bEt);(case side2=>exact HC0_0.out);(case side3=>exact bCx);(case side4=>exact HC1_0.out);rintro e w' ⟨rfl,⟨nd,rfl⟩⟩;refine ⟨_,rfl,?_⟩))
    go_ret;exact ⟨sL,bEu⟩
  ·rw [if_neg c5] at H
   have c5b0:(a0_1==a1_1)=false:=tP.mpr c5
   have c5b1:(a0_1 !=a1_1)=true:=bne_iff_ne.mpr c5
   obtain rfl:=bC H;go_enter Tryz.func25,Tryz.ntmps25
   go_wp2_with (first|((with_reducible refine dG (N:=2) rfl ?_);refine dN ?hg (N:=2) ?hd (cs:= #[.slice A0_0 l0_0.length c0_0,.int .i64 a0_1,.int .i64 a0_2,.int .i64 a0_3,.slice A0_4 l0_4.length c0_4]) (t:=27) ?hr ?_;(case hd=>rfl);(case hg=>rfl);(case hr=>first|(go_simp;done)|(go_simp;rfl));intro gb457 hg w30 hbox hb;have BK457:=aK (hbox);have GW457:=aK (bCy);have GE457:=aK (bCy);replace HB:=aK (bG jR hb);clear hb hbox hg)|((with_reducible refine dG (N:=3) rfl ?_);refine dN ?hg (N:=3) ?hd (cs:= #[.slice A1_0 l1_0.length c1_0,.int .i64 a1_1,.int .i64 a1_2,.int .i64 a1_3,.slice A1_4 l1_4.length c1_4]) (t:=27) ?hr ?_;(case hd=>rfl);(case hg=>rfl);(case hr=>first|(go_simp;done)|(go_simp;rfl));intro gb458 hg w31 hbox hb;have BK458:=aK (hbox);have GW458:=aK (bCz);have GE458:=aK (bCz);have NB457_458:=aK (bKf);have NB458_457:=aK (bKe);replace BK457:=aK (cJ (g:=gb457) (o:= .cells #[.slice A0_0 l0_0.length c0_0,.int .i64 a0_1,.int .i64 a0_2,.int .i64 a0_3,.slice A0_4 l0_4.length c0_4] 27 (0,0)) bGp hb);replace HB:=aK (bG zz9 hb);clear hb hbox hg;have hnb32:=NB457_458.out;have hnc32:=NB458_457.out;obtain ⟨hcz33_0,hcz33_1,hcz33_2,hcz33_3,hcz33_4,hfz33_0,hfz33_1,hfz33_2,hfz33_3,hfz33_4⟩:=mG BK457;obtain ⟨hcz34_0,hcz34_1,hcz34_2,hcz34_3,hcz34_4,hfz34_0,hfz34_1,hfz34_2,hfz34_3,hfz34_4⟩:=mG BK458)|((with_reducible refine cD (f:=23) rfl ?_);refine dT (some 9) rfl rfl Tryz.func23 (by kernel_rfl) rfl #[.slice A0_0 l0_0.length c0_0,.slice A1_0 l1_0.length c1_0] rfl mO ?_;(with_reducible refine (gB k _ _ l0_0 _ _ l1_0 true _ ?side1 ?side2 ?side3 ?side4 A3.out).mono ?_);(case side1=>exact bEt);(case side2=>exact HC0_0.out);(case side3=>exact bCx);(case side4=>exact HC1_0.out);rintro e w' ⟨rfl,⟨nd,rfl⟩⟩;refine ⟨_,rfl,?_⟩))
   go_ret;exact ⟨sL,bEu⟩
 ·replace c4 := Bool.eq_false_iff.mpr c4
  subst c4;rw [if_neg (show¬(false=true) by decide)] at H;obtain rfl:=bC H;go_enter Tryz.func25,Tryz.ntmps25
  go_wp2_with (first|((with_reducible refine dG (N:=2) rfl ?_);refine dN ?hg (N:=2) ?hd (cs:= #[.slice A0_0 l0_0.length c0_0,.int .i64 a0_1,.int .i64 a0_2,.int .i64 a0_3,.slice A0_4 l0_4.length c0_4]) (t:=27) ?hr ?_;(case hd=>rfl);(case hg=>rfl);(case hr=>first|(go_simp;done)|(go_simp;rfl));intro gb457 hg w35 hbox hb;have BK457:=aK (hbox);have GW457:=aK (bCy);have GE457:=aK (bCy);replace HB:=aK (bG jR hb);clear hb hbox hg)|((with_reducible refine dG (N:=3) rfl ?_);refine dN ?hg (N:=3) ?hd (cs:= #[.slice A1_0 l1_0.length c1_0,.int .i64 a1_1,.int .i64 a1_2,.int .i64 a1_3,.slice A1_4 l1_4.length c1_4]) (t:=27) ?hr ?_;(case hd=>rfl);(case hg=>rfl);(case hr=>first|(go_simp;done)|(go_simp;rfl));intro gb458 hg w36 hbox hb;have BK458:=aK (hbox);have GW458:=aK (bCz);have GE458:=aK (bCz);have NB457_458:=aK (bKf);have NB458_457:=aK (bKe);replace BK457:=aK (cJ (g:=gb457) (o:= .cells #[.slice A0_0 l0_0.length c0_0,.int .i64 a0_1,.int .i64 a0_2,.int .i64 a0_3,.slice A0_4 l0_4.length c0_4] 27 (0,0)) bGp hb);replace HB:=aK (bG zz9 hb);clear hb hbox hg;have hnb37:=NB457_458.out;have hnc37:=NB458_457.out;obtain ⟨hcz38_0,hcz38_1,hcz38_2,hcz38_3,hcz38_4,hfz38_0,hfz38_1,hfz38_2,hfz38_3,hfz38_4⟩:=mG BK457;obtain ⟨hcz39_0,hcz39_1,hcz39_2,hcz39_3,hcz39_4,hfz39_0,hfz39_1,hfz39_2,hfz39_3,hfz39_4⟩:=mG BK458)|((with_reducible refine cD (f:=23) rfl ?_);refine dT (some 9) rfl rfl Tryz.func23 (by kernel_rfl) rfl #[.slice A0_0 l0_0.length c0_0,.slice A1_0 l1_0.length c1_0] rfl mO ?_;(with_reducible refine (gB k _ _ l0_0 _ _ l1_0 false _ ?side1 ?side2 ?side3 ?side4 A3.out).mono ?_);(case side1=>exact bEt);(case side2=>exact HC0_0.out);(case side3=>exact bCx);(case side4=>exact HC1_0.out);rintro e w' ⟨rfl,⟨nd,rfl⟩⟩;refine ⟨_,rfl,?_⟩))
  go_ret;exact ⟨sL,bEu⟩
def fP:Nat→List Int→Int→Int→Option (Int×List Int)
  |0,_,_,_=>none
  |k+1,x0,x1,x5=>if x5<(x0.length:Int) then (if 0≤x5 then (fP k (x0.set (x5:Int).toNat x1) (wrap64 (x1+1)) (wrap64 (x5+1))) else (none)) else (some (x1,x0))
def jJ (k:Nat) (l0:List Int) (a1:Int):Option (Int×List Int):=fP k l0 a1 0
theorem sZ: ∀k,(∀y0 y1 y2,bBf (fP k y0 y1 y2) (fP (k+1) y0 y1 y2))
 |0=>fun _ _ _ r h=>by simp [fP] at h
 | k + 1 => by
  have ih0:=sZ k
  ·intro y0 y1 y2
   unfold fP;repeat' first
   |(with_reducible exact ih0 _ _ _)
   |(with_reducible exact bBf.refl _)
   |(with_reducible exact bBf.none _)
   |(with_reducible refine bBf.ite ?_ ?_)
   |(with_reducible refine bBf.bind ?_ (fun _=>?_))
   |exact ih0 _ _ _
   |exact bBf.none _
   |refine bBf.ite ?_ ?_
   |refine bBf.bind ?_ (fun _=>?_)
theorem bBa: ∀a0 a1 k,bBf (jJ k a0 a1) (jJ (k+1) a0 a1):=by
  intro a0 a1 k;have ih0:=sZ k;unfold jJ
  repeat' first
      |(with_reducible exact ih0 _ _ _)
      |(with_reducible exact bBf.refl _)
      |(with_reducible exact bBf.none _)
      |(with_reducible refine bBf.ite ?_ ?_)
      |(with_reducible refine bBf.bind ?_ (fun _=>?_))
      |exact ih0 _ _ _
      |exact bBf.none _
      |refine bBf.ite ?_ ?_
      |refine bBf.bind ?_ (fun _=>?_)
theorem pF (k:Nat) (P0_:Nat→Prop) (u9000_:Value) (l0:List Int) (a1:Int) (r1:Int) (r2:List Int) (w0 w:World) (hB:Below w0.heap.size w0 w) (ho0:Kd.R (Kd.int .i64) 3 w w0.heap.size P0_ u9000_ l0) (h:jJ k l0 a1=some (r1,r2)):
  Calls Tryz.prog 28 #[u9000_,.int .i64 a1] w fun e w'=>e= .returned (.int .i64 r1)∧Kd.R (Kd.int .i64) 3 w' w0.heap.size (fun k_=>(P0_ k_∨w.heap.size≤k_)) u9000_ r2∧Below w0.heap.size w0 w'∧Kept w w' (fun k_=>P0_ k_):=by
 have HO0:=aK (show Kd.R (Kd.int .i64) 3 w w0.heap.size (fun k_=>(P0_ k_∨w.heap.size≤k_)) u9000_ l0 from fG ho0 (fun k_ hk=>(.inl hk)));have HK:=aK (Kept.refl w (fun k_=>P0_ k_));have HW0:=aK hB.size;have HB:=aK hB;clear hB;have H:(fP k l0 a1 0)=some (r1,r2):=h
 clear h;have H':=aK H;clear H;go_enter Tryz.func28,Tryz.ntmps28;go_wp2
 go_loopg [1,5] k (fun kq v1 v5 w'=> ∃(x0_1:List Int) (x1_1:Int) (x5_1:Int),v1= .int .i64 x1_1∧v5= .int .i64 x5_1∧Aside0 (fP kq x0_1 x1_1 x5_1=some (r1,r2))∧Aside0 (kq≤k)∧Aside0 (Kd.R (Kd.int .i64) 3 w' w0.heap.size (fun k_=>(P0_ k_∨w.heap.size≤k_)) u9000_ x0_1)∧Aside0 (Kept w w' (fun k_=>P0_ k_))∧Aside0 (Below w0.heap.size w0 w'))
 case atStart=>exact ⟨(l0),(a1),(0),kG,kG,H',⟨bV _⟩,⟨by (with_reducible repeat (first|apply Kd.R_alloc|apply bZ|apply cE));exact HO0.out⟩,⟨by repeat (first|(with_reducible first|exact HK.out|apply Kept.alloc|apply Kept.drewN|apply Kept.drew)|exact HK.out)⟩,⟨by repeat (first|(with_reducible first|exact HB.out|apply bI|apply bF|apply bH)|exact HB.out)⟩⟩
 case round=>
  clear H';(try clear c2);(try clear p2);obtain ⟨x0_1,x1_1,x5_1,rfl,rfl,HA,HK1,HO_0,HK,HB⟩:=hrel
  cases gk with
  |zero=>exact absurd HA.out (by simp [fP])
  | succ k1 =>
   have H:=HA.out;clear HA;simp only [fP] at H;by_cases c3:x5_1<(x0_1.length:Int)
   ·rw [if_pos c3] at H
    have c3b0:decide (x5_1<(x0_1.length:Int))=true:=bB c3
    clear c3;by_cases c4:0≤x5_1
    ·rw [if_pos c4] at H
     have c4b0:decide (0≤x5_1)=true:=bB c4
     clear c4;obtain ⟨y461,hy461⟩: ∃y_:List Int,y_=(x0_1.set (x5_1:Int).toNat x1_1):=⟨_,rfl⟩;replace H:(fP k1 y461 (wrap64 (x1_1+1)) (wrap64 (x5_1+1)))=some (r1,r2):=by first|(rw [hy461];with_reducible exact H)|(have H2_:=(bD _ _).symm.trans H;rw [hy461];with_reducible exact H2_)|(have H2_:=(bD _ _).symm.trans H;with_reducible exact H2_)|with_reducible exact H|(rw [hy461];exact H)|exact H
     have Ny461:=aK hy461;clear hy461;have H':=aK H;clear H;obtain ⟨Ao6,co6,eo6⟩:=cH HO_0.out;subst eo6;have p5:0≤(x5_1:Int):=bA fU
     have q5:(x5_1:Int)<((x0_1.length:Int):Int):=bA fU
     obtain ⟨go5,co5,eo5,gb5,gl5,cl5,HG5⟩:=rT HO_0.out (by omega)
     (first|cases eo5|(injection eo5 with ea_ en_ ec_;(first|subst ea_|(injection ea_ with ea_;subst ea_));subst ec_;clear en_))
     have GB5:=aK gb5;have GG5:=aK HG5;clear gb5 gl5 HG5;have HMgo5:=aK (show (P0_ go5∨w.heap.size≤go5) from (HO_0.out.1 _ rfl));obtain ⟨hx5_0,hf5_0⟩:=sV 0 HO_0.out (x5_1:Int) p5 q5;replace p5:=bL p5;replace q5:=bL q5;have HP7:=Kd.R_putg HO_0.out (x5_1:Int) x1_1
     go_wp2_with (first|((with_reducible refine kS (t:=3) (p:=15) rfl ?_);refine jU (t:=3) (p:=15) (v:=?vo_w8) (w1:=(wr.setCell ⟨go5,(x5_1:Int).toNat,none⟩ (.int .i64 x1_1))) ?hg ?ho ?hn ?hr ?_;(case ho=>rfl);(case hg=>rfl);(case hn=>rfl);(case hr=>first|(go_simp;done)|(go_simp;rfl)|((try (first|(obtain ⟨_,_,rfl⟩:=cH HO_0.out)|(obtain ⟨_,_,rfl⟩:=jX HO_0.out)));first|(go_simp;done)|(go_simp;rfl)));intro w8 hw;have hg:wr.grownBy w8 (some go5):=(by rw [hw];exact HP7.2);have hp_:Kd.R (Kd.int .i64) 3 w8 w0.heap.size (fun k_=>(P0_ k_∨w.heap.size≤k_)) (.slice (some ⟨go5,0,none⟩) x0_1.length co6) y461:=(by rw [hw,Ny461.out];exact HP7.1);clear HP7;replace HB:=aK ((by rw [hw];exact bY (HB.out) GB5.out:Below w0.heap.size w0 w8));replace HK:=aK (Kept.of_grown (S:=(fun k_=>P0_ k_)) hg (by repeat (first|(with_reducible first|exact HK.out|apply Kept.alloc|apply Kept.drewN|apply Kept.drew)|exact HK.out)) (fun k_ e_=>(HO_0.out.1 k_ e_)));replace HO_0:=aK (hp_);clear hg hw hp_))
     go_roundg k1
     case measure=>have:=HK1.out;omega
     case rel=>exact ⟨(y461),(wrap64 (x1_1+1)),(wrap64 (x5_1+1)),kG,kG,H',⟨by have:=HK1.out;omega⟩,⟨by (with_reducible repeat (first|apply Kd.R_alloc|apply bZ|apply cE));exact HO_0.out⟩,⟨by repeat (first|(with_reducible first|exact HK.out|apply Kept.alloc|apply Kept.drewN|apply Kept.drew)|exact HK.out)⟩,⟨by repeat (first|(with_reducible first|exact HB.out|apply bI|apply bF|apply bH)|exact HB.out)⟩⟩
    ·rw [if_neg c4] at H
     exact absurd H (by simp)
   ·rw [if_neg c3] at H
    have c3b0:decide (x5_1<(x0_1.length:Int))=false:=bJ c3
    clear c3;simp only [fE,Prod.mk.injEq] at H;obtain ⟨rfl,rfl⟩:=H;obtain ⟨Ao9,co9,eo9⟩:=cH HO_0.out;subst eo9;go_wp2;go_ret;exact ⟨by first|rfl|(simp [dF,dE]<;>rfl)|(simp [*,dF,dE]<;>rfl),by (with_reducible repeat (first|apply Kd.R_alloc|apply bZ|apply cE));exact HO_0.out,by repeat (first|(with_reducible first|exact HB.out|apply bI|apply bF|apply bH)|exact HB.out),by repeat (first|(with_reducible first|exact HK.out|apply Kept.alloc|apply Kept.drewN|apply Kept.drew)|exact HK.out)⟩
def mcs (K:Nat):List S78→Int→Option Int
  |[],a=>some a
  |x::r,a=>(jJ K x.f1 (wrap64 (a+1))).bind fun p=>mcs K r p.1
theorem zB (K:Nat) (P:Nat→Prop) (A:Option Addr) (n cap:Nat) (l:List S78) (a r:Int) (w0 w:World) (hB:Below w0.heap.size w0 w) (hs:Kd.S yD 78 w w0.heap.size P (.slice A n cap) l) (hl:l.length≤1048576) (h:mcs K l a=some r):
  Calls Tryz.prog 26 #[.slice A n cap,.int .i64 a] w fun e w'=>e= .returned (.int .i64 r)∧Below w0.heap.size w0 w'∧Kept w w' P:=by
 have HN:=(bR (Kd.S_R hs)).1;subst HN;have HS:=aK hs;have HB:=aK hB;have HL:=aK hl;have HA:=aK h;clear hs hB hl h;go_enter Tryz.func26,Tryz.ntmps26;go_wp2
 go_loopw [1,5] (fun v1 v5 wr=> ∃(j:Nat) (b:Int) (l2:List S78),v1= .int .i64 b∧v5= .int .i64 j∧l2.length=l.length∧j≤l.length∧Aside0 (mcs K (l2.drop j) b=some r)∧Aside0 (Kd.S yD 78 wr w0.heap.size P (.slice A l.length cap) l2)∧Aside0 (Below w0.heap.size w0 wr)∧Aside0 (Kept w wr P)) (fun _ v5 _=>l.length - (intOf v5).toNat)
 case atStart=>exact ⟨0,a,l,rfl,rfl,rfl,xD _,by rw [nM];exact HA,HS,HB,⟨Kept.refl _ _⟩⟩
 case round=>
  clear HA HS HB;obtain ⟨j,b,l2,rfl,rfl,hl2,hj,HA,HS,HB,HK⟩:=hrel;by_cases c:j<l.length
  ·have d0 : decide ((j : Int) < l.length) = true := bB (by omega)
   have hlt:j<l2.length:=by omega
   obtain ⟨g,cp,hv,hbg,hgl,_⟩:=rT (Kd.S_R HS.out) (by omega);injection hv with e1 e2 e3;subst e1 e3;have hPg:P g:=(Kd.S_R HS.out).1 g (by simp [Value.ownBlock])
   obtain ⟨oki,cc,hcl,hM,hcc,hoki,hH⟩:=Kd.S_lend HS.out bHy (j:Int) (by omega) (by omega);obtain ⟨x,hx⟩: ∃x,x=l2.getD ((j:Int)).toNat bHy:=⟨_,rfl⟩;rw [←hx] at hM;obtain ⟨v1,hc1,hr1⟩:=bAa hM;subst hc1;obtain ⟨hc0,hfr⟩:=Kd.H_at hH (by omega) (by omega);have q0:wr.cell? ⟨g,j*2,none⟩=some (.int .i64 x.f0):=hc0 0 _ rfl
   have f0:wr.frozen? ⟨g,j*2,none⟩=false:=hfr 0
   have hst:Kd.S yD 78 (wr.setCell ⟨g,j*2,none⟩ (.int .i64 b)) w0.heap.size P (.slice (some ⟨g,0,none⟩) l.length cap) (l2.set j ⟨b,x.f1⟩):=(Kd.S_seg0 (seg:=[.int .i64 b]) (j:=0) (x':=⟨b,x.f1⟩) hH (by omega) (by omega) (show 0+1≤2 by omega) (bDi wr w0.heap.size oki ⟨b,x.f1⟩ hr1) (fun _ h=>h)).1
   obtain ⟨oki2,cc2,hcl2,hM2,hcc2,hoki2,hH2⟩:=Kd.S_lend hst bHy (j:Int) (by omega) (by omega)
   have hx2:(l2.set j ⟨b,x.f1⟩).getD ((j:Int)).toNat bHy=⟨b,x.f1⟩:=by
    rw [dK,bM,pL hlt];rfl
   rw [hx2] at hM2;obtain ⟨v2,hc2,hr2⟩:=bAa hM2;subst hc2;obtain ⟨A2,c2,rfl⟩:=cH hr2;have q3:(wr.setCell ⟨g,j*2,none⟩ (.int .i64 b)).cell? ⟨g,j*2+1,none⟩=some (.slice A2 x.f1.length c2):=hcc2 1 _ rfl
   have ha:=HA.out;have hxe:l2[j]=x:=by rw [hx,dK,bM,bO hlt];rfl
   rw [fO hlt,hxe,mcs] at ha;obtain ⟨⟨n1,n2⟩,hm,hrest⟩:=Option.bind_eq_some_iff.mp ha;have HM:=aK hm;have HRest:=aK hrest;have HH:=aK hH2;have HO2:=aK hoki2;have HR2:=aK hr2;have HPg:=aK hPg;have HJ:=aK (show j<l2.length∧l2.length=l.length∧j<l.length from ⟨hlt,hl2,c⟩);have HB2:=aK (HB.out.setCell (p:=⟨g,j*2,none⟩) hbg (.int .i64 b));have HK2:=aK (HK.out.setCell (p:=⟨g,j*2,none⟩) (.inl hPg) (.int .i64 b));have p1:=bL (show (0:Int)≤(j:Int) by omega);have p2:=bL (show (j:Int)<(l.length:Int) by omega);clear hH hM hoki hr1 hx hcc hc0 hfr hcl e2 hbg hgl hlt hl2 c hj hst hcl2 hM2 hcc2 hoki2 hH2 hx2 hr2 ha hxe hm hrest hPg HA HB HK HS
   go_wp2_with fail
   go_at_call 28;refine (pF K oki2 (.slice A2 x.f1.length c2) x.f1 (wrap64 (b+1)) n1 n2 w0 _ HB2.out HR2.out HM.out).mono ?_;rintro e w3 ⟨rfl,hr3,hb3,hk3⟩;have HB3:=aK hb3;have HK3:=aK (HK2.out.then_ hk3 (fun k hk=> .inl (HO2.out k hk).1));have HS3:=aK (Kd.H_back (Kd.H_kept HH.out hk3 (fun _ _ hn=>hn)) (x':=⟨b,n2⟩) (bDi w3 w0.heap.size oki2 ⟨b,n2⟩ (qN (qM hr3) HR2.out.1)) (fun _ h=>h));clear hr3 hb3 hk3 q0 q3 f0;go_wp2
   go_roundw
   case rel=>exact ⟨j+1,n1,_,rfl,by rw [show wrap64 ((j:Int)+1)=((j+1:Nat):Int) by have:=HL.out;have:=HJ.out;unfold wrap64;omega],by rw [fI,fI];exact HJ.out.2.1,by have:=HJ.out;omega,⟨by rw [dK,List.drop_set_of_lt (by omega),List.drop_set_of_lt (by omega)];exact HRest.out⟩,HS3,HB3,HK3⟩
   case measure=>rw [show wrap64 ((j:Int)+1)=((j+1:Nat):Int) by have:=HL.out;have:=HJ.out;unfold wrap64;omega];have:=HJ.out;simp only [intOf,dK];omega
  ·have d0 : decide ((j : Int) < l.length) = false := bJ (by omega)
   have ha:=HA.out;rw [kW (by omega)] at ha;have HR:=aK (bC ha);clear ha;go_wp2;go_ret;exact ⟨by rw [←HR.out];rfl,HB.out,HK.out⟩
def fJ:Nat→List Bool→Int→Int→Option (Int×List Bool)
  |0,_,_,_=>none
  |k+1,x0,x1,x5=>if x5<(x0.length:Int) then (if 0≤x5 then (fJ k (x0.set (x5:Int).toNat ((Int.tmod x1 3)==0)) (wrap64 (x1+1)) (wrap64 (x5+1))) else (none)) else (some (x1,x0))
def kV (k:Nat) (l0:List Bool) (a1:Int):Option (Int×List Bool):=fJ k l0 a1 0
theorem sN: ∀k,(∀y0 y1 y2,bBf (fJ k y0 y1 y2) (fJ (k+1) y0 y1 y2))
 |0=>fun _ _ _ r h=>by simp [fJ] at h
 | k + 1 => by
  have ih0:=sN k
  ·intro y0 y1 y2
   unfold fJ;repeat' first
   |(with_reducible exact ih0 _ _ _)
   |(with_reducible exact bBf.refl _)
   |(with_reducible exact bBf.none _)
   |(with_reducible refine bBf.ite ?_ ?_)
   |(with_reducible refine bBf.bind ?_ (fun _=>?_))
   |exact ih0 _ _ _
   |exact bBf.none _
   |refine bBf.ite ?_ ?_
   |refine bBf.bind ?_ (fun _=>?_)
theorem bAj: ∀a0 a1 k,bBf (kV k a0 a1) (kV (k+1) a0 a1):=by
  intro a0 a1 k;have ih0:=sN k;unfold kV
  repeat' first
      |(with_reducible exact ih0 _ _ _)
      |(with_reducible exact bBf.refl _)
      |(with_reducible exact bBf.none _)
      |(with_reducible refine bBf.ite ?_ ?_)
      |(with_reducible refine bBf.bind ?_ (fun _=>?_))
      |exact ih0 _ _ _
      |exact bBf.none _
      |refine bBf.ite ?_ ?_
      |refine bBf.bind ?_ (fun _=>?_)
theorem zP (k:Nat) (P0_:Nat→Prop) (u9000_:Value) (l0:List Bool) (a1:Int) (r1:Int) (r2:List Bool) (w0 w:World) (hB:Below w0.heap.size w0 w) (ho0:Kd.R Kd.bool 4 w w0.heap.size P0_ u9000_ l0) (h:kV k l0 a1=some (r1,r2)):
  Calls Tryz.prog 56 #[u9000_,.int .i64 a1] w fun e w'=>e= .returned (.int .i64 r1)∧Kd.R Kd.bool 4 w' w0.heap.size (fun k_=>(P0_ k_∨w.heap.size≤k_)) u9000_ r2∧Below w0.heap.size w0 w'∧Kept w w' (fun k_=>P0_ k_):=by
 have HO0:=aK (show Kd.R Kd.bool 4 w w0.heap.size (fun k_=>(P0_ k_∨w.heap.size≤k_)) u9000_ l0 from fG ho0 (fun k_ hk=>(.inl hk)));have HK:=aK (Kept.refl w (fun k_=>P0_ k_));have HW0:=aK hB.size;have HB:=aK hB;clear hB;have H:(fJ k l0 a1 0)=some (r1,r2):=h
 clear h;have H':=aK H;clear H;go_enter Tryz.func56,Tryz.ntmps56;go_wp2
 go_loopg [1,5] k (fun kq v1 v5 w'=> ∃(x0_1:List Bool) (x1_1:Int) (x5_1:Int),v1= .int .i64 x1_1∧v5= .int .i64 x5_1∧Aside0 (fJ kq x0_1 x1_1 x5_1=some (r1,r2))∧Aside0 (kq≤k)∧Aside0 (Kd.R Kd.bool 4 w' w0.heap.size (fun k_=>(P0_ k_∨w.heap.size≤k_)) u9000_ x0_1)∧Aside0 (Kept w w' (fun k_=>P0_ k_))∧Aside0 (Below w0.heap.size w0 w'))
 case atStart=>exact ⟨(l0),(a1),(0),kG,kG,H',⟨bV _⟩,⟨by (with_reducible repeat (first|apply Kd.R_alloc|apply bZ|apply cE));exact HO0.out⟩,⟨by repeat (first|(with_reducible first|exact HK.out|apply Kept.alloc|apply Kept.drewN|apply Kept.drew)|exact HK.out)⟩,⟨by repeat (first|(with_reducible first|exact HB.out|apply bI|apply bF|apply bH)|exact HB.out)⟩⟩
 case round=>
  clear H';(try clear p2);obtain ⟨x0_1,x1_1,x5_1,rfl,rfl,HA,HK1,HO_0,HK,HB⟩:=hrel
  cases gk with
  |zero=>exact absurd HA.out (by simp [fJ])
  | succ k1 =>
   have H:=HA.out;clear HA;simp only [fJ] at H;by_cases c3:x5_1<(x0_1.length:Int)
   ·rw [if_pos c3] at H
    have c3b0:decide (x5_1<(x0_1.length:Int))=true:=bB c3
    clear c3;by_cases c4:0≤x5_1
    ·rw [if_pos c4] at H
     have c4b0:decide (0≤x5_1)=true:=bB c4
     clear c4;obtain ⟨y462,hy462⟩: ∃y_:List Bool,y_=(x0_1.set (x5_1:Int).toNat ((Int.tmod x1_1 3)==0)):=⟨_,rfl⟩;replace H:(fJ k1 y462 (wrap64 (x1_1+1)) (wrap64 (x5_1+1)))=some (r1,r2):=by first|(rw [hy462];with_reducible exact H)|(have H2_:=(bD _ _).symm.trans H;rw [hy462];with_reducible exact H2_)|(have H2_:=(bD _ _).symm.trans H;with_reducible exact H2_)|with_reducible exact H|(rw [hy462];exact H)|exact H
     have Ny462:=aK hy462;clear hy462;have H':=aK H;clear H;obtain ⟨Ao6,co6,eo6⟩:=cH HO_0.out;subst eo6;have p5:0≤(x5_1:Int):=bA fU
     have q5:(x5_1:Int)<((x0_1.length:Int):Int):=bA fU
     obtain ⟨go5,co5,eo5,gb5,gl5,cl5,HG5⟩:=rT HO_0.out (by omega)
     (first|cases eo5|(injection eo5 with ea_ en_ ec_;(first|subst ea_|(injection ea_ with ea_;subst ea_));subst ec_;clear en_))
     have GB5:=aK gb5;have GG5:=aK HG5;clear gb5 gl5 HG5;have HMgo5:=aK (show (P0_ go5∨w.heap.size≤go5) from (HO_0.out.1 _ rfl));obtain ⟨hx5_0,hf5_0⟩:=sV false HO_0.out (x5_1:Int) p5 q5;replace p5:=bL p5;replace q5:=bL q5;have HP7:=Kd.R_putg HO_0.out (x5_1:Int) ((Int.tmod x1_1 3)==0)
     go_wp2_with (first|((with_reducible refine kS (t:=4) (p:=17) rfl ?_);refine jU (t:=4) (p:=17) (v:=?vo_w8) (w1:=(wr.setCell ⟨go5,(x5_1:Int).toNat,none⟩ (.bool ((Int.tmod x1_1 3)==0)))) ?hg ?ho ?hn ?hr ?_;(case ho=>rfl);(case hg=>rfl);(case hn=>rfl);(case hr=>first|(go_simp;done)|(go_simp;rfl)|((try (first|(obtain ⟨_,_,rfl⟩:=cH HO_0.out)|(obtain ⟨_,_,rfl⟩:=jX HO_0.out)));first|(go_simp;done)|(go_simp;rfl)));intro w8 hw;have hg:wr.grownBy w8 (some go5):=(by rw [hw];exact HP7.2);have hp_:Kd.R Kd.bool 4 w8 w0.heap.size (fun k_=>(P0_ k_∨w.heap.size≤k_)) (.slice (some ⟨go5,0,none⟩) x0_1.length co6) y462:=(by rw [hw,Ny462.out];exact HP7.1);clear HP7;replace HB:=aK ((by rw [hw];exact bY (HB.out) GB5.out:Below w0.heap.size w0 w8));replace HK:=aK (Kept.of_grown (S:=(fun k_=>P0_ k_)) hg (by repeat (first|(with_reducible first|exact HK.out|apply Kept.alloc|apply Kept.drewN|apply Kept.drew)|exact HK.out)) (fun k_ e_=>(HO_0.out.1 k_ e_)));replace HO_0:=aK (hp_);clear hg hw hp_))
     go_roundg k1
     case measure=>have:=HK1.out;omega
     case rel=>exact ⟨(y462),(wrap64 (x1_1+1)),(wrap64 (x5_1+1)),kG,kG,H',⟨by have:=HK1.out;omega⟩,⟨by (with_reducible repeat (first|apply Kd.R_alloc|apply bZ|apply cE));exact HO_0.out⟩,⟨by repeat (first|(with_reducible first|exact HK.out|apply Kept.alloc|apply Kept.drewN|apply Kept.drew)|exact HK.out)⟩,⟨by repeat (first|(with_reducible first|exact HB.out|apply bI|apply bF|apply bH)|exact HB.out)⟩⟩
    ·rw [if_neg c4] at H
     exact absurd H (by simp)
   ·rw [if_neg c3] at H
    have c3b0:decide (x5_1<(x0_1.length:Int))=false:=bJ c3
    clear c3;simp only [fE,Prod.mk.injEq] at H;obtain ⟨rfl,rfl⟩:=H;obtain ⟨Ao9,co9,eo9⟩:=cH HO_0.out;subst eo9;go_wp2;go_ret;exact ⟨by first|rfl|(simp [dF,dE]<;>rfl)|(simp [*,dF,dE]<;>rfl),by (with_reducible repeat (first|apply Kd.R_alloc|apply bZ|apply cE));exact HO_0.out,by repeat (first|(with_reducible first|exact HB.out|apply bI|apply bF|apply bH)|exact HB.out),by repeat (first|(with_reducible first|exact HK.out|apply Kept.alloc|apply Kept.drewN|apply Kept.drew)|exact HK.out)⟩
def sB (k:Nat) (l0_0:List Int) (a0_1:Int) (a0_2:Int) (a0_3:Int) (l0_4:List Bool) (a1:Int):Option (Int×List Int×List Bool):=(jJ k l0_0 a1).bind fun bt464=>((kV k l0_4 bt464.1).bind fun bt466=>(some (bt466.1,bt464.2,bt466.2)))
theorem bAz (k:Nat) (P0_0_:Nat→Prop) (u9000_:Value) (l0_0:List Int) (a0_1:Int) (a0_2:Int) (a0_3:Int) (P0_4_:Nat→Prop) (u9001_:Value) (l0_4:List Bool) (a1:Int) (r1:Int) (r2:List Int) (r3:List Bool) (w0 w:World) (hB:Below w0.heap.size w0 w) (ho0_0:Kd.R (Kd.int .i64) 3 w w0.heap.size P0_0_ u9000_ l0_0) (ho0_4:Kd.R Kd.bool 4 w w0.heap.size P0_4_ u9001_ l0_4) (h:sB k l0_0 a0_1 a0_2 a0_3 l0_4 a1=some (r1,r2,r3)):
  Calls Tryz.prog 27 #[.agg #[u9000_,.int .i64 a0_1,.int .i64 a0_2,.int .i64 a0_3,u9001_],.int .i64 a1] w fun e w'=>e= .returned (.int .i64 r1)∧Kd.R (Kd.int .i64) 3 w' w0.heap.size (fun k_=>((P0_0_ k_∨P0_4_ k_)∨w.heap.size≤k_)) u9000_ r2∧Kd.R Kd.bool 4 w' w0.heap.size (fun k_=>((P0_0_ k_∨P0_4_ k_)∨w.heap.size≤k_)) u9001_ r3∧Below w0.heap.size w0 w'∧Kept w w' (fun k_=>P0_0_ k_∨P0_4_ k_):=by
 have hu27:=Tryz.underlying27;have HO0_0:=aK (show Kd.R (Kd.int .i64) 3 w w0.heap.size (fun k_=>((P0_0_ k_∨P0_4_ k_)∨w.heap.size≤k_)) u9000_ l0_0 from fG ho0_0 (fun k_ hk=>(.inl (.inl hk))));have HO0_4:=aK (show Kd.R Kd.bool 4 w w0.heap.size (fun k_=>((P0_0_ k_∨P0_4_ k_)∨w.heap.size≤k_)) u9001_ l0_4 from fG ho0_4 (fun k_ hk=>(.inl (.inr hk))));have HK:=aK (Kept.refl w (fun k_=>P0_0_ k_∨P0_4_ k_));have HW0:=aK hB.size;have HB:=aK hB;clear hB;have H:((jJ k l0_0 a1).bind fun bt464=>((kV k l0_4 bt464.1).bind fun bt466=>(some (bt466.1,bt464.2,bt466.2))))=some (r1,r2,r3):=h
 clear h;replace H:=Option.bind_eq_some_iff.mp H;obtain ⟨⟨t464,t465⟩,A30,H⟩:=H;(try dsimp only at H);have A3:=aK A30;clear A30;replace H:=Option.bind_eq_some_iff.mp H;obtain ⟨⟨t466,t467⟩,A40,H⟩:=H;(try dsimp only at H);have A4:=aK A40;clear A40;simp only [fE,Prod.mk.injEq] at H;obtain ⟨rfl,rfl,rfl⟩:=H;obtain ⟨Ao5,co5,eo5⟩:=cH HO0_0.out;subst eo5;obtain ⟨Ao6,co6,eo6⟩:=cH HO0_4.out;subst eo6;go_enter Tryz.func27,Tryz.ntmps27
 go_wp2_with (first|((with_reducible refine dG (N:=2) rfl ?_);refine dN ?hg (N:=2) ?hd (cs:= #[.slice Ao5 l0_0.length co5,.int .i64 a0_1,.int .i64 a0_2,.int .i64 a0_3,.slice Ao6 l0_4.length co6]) (t:=27) ?hr ?_;(case hd=>rfl);(case hg=>rfl);(case hr=>first|(go_simp;done)|(go_simp;rfl));intro gb463 hg w7 hbox hb;have BK463:=aK (hbox);have GW463:=aK ((by rw [hg];exact (by first|exact HK.out.1|exact (show Kept w _ (fun k_=>P0_0_ k_∨P0_4_ k_) from by repeat (first|(with_reducible first|exact HK.out|apply Kept.alloc|apply Kept.drewN|apply Kept.drew)|exact HK.out)).1):w.heap.size≤gb463));have GE463:=aK ((by rw [hg];exact (bN jR):w0.heap.size≤gb463));replace HO0_0:=aK (cA (by (with_reducible repeat (first|apply Kd.R_alloc|apply bZ|apply cE));exact HO0_0.out) hb);replace HO0_4:=aK (cA (by (with_reducible repeat (first|apply Kd.R_alloc|apply bZ|apply cE));exact HO0_4.out) hb);replace HK:=aK (Kept.below (S:=(fun k_=>P0_0_ k_∨P0_4_ k_)) (by repeat (first|(with_reducible first|exact HK.out|apply Kept.alloc|apply Kept.drewN|apply Kept.drew)|exact HK.out)) hb);replace HB:=aK (bG jR hb);clear hb hbox hg;obtain ⟨hcz8_0,hcz8_1,hcz8_2,hcz8_3,hcz8_4,hfz8_0,hfz8_1,hfz8_2,hfz8_3,hfz8_4⟩:=mG BK463)|((with_reducible refine cD (f:=28) rfl ?_);refine dT (some 8) rfl rfl Tryz.func28 (by kernel_rfl) rfl #[.slice Ao5 l0_0.length co5,.int .i64 a1] rfl mO ?_;(with_reducible refine (pF k (fun k_=>some k_=(.slice Ao5 l0_0.length co5:Value).ownBlock) (.slice Ao5 l0_0.length co5) l0_0 a1 t464 t465 w0 _ ?side1 ?side2 A3.out).mono ?_);(case side1=>exact (by repeat (first|(with_reducible first|exact HB.out|apply bI|apply bF|apply bH|refine bY ?_ GE463.out)|exact HB.out)));(case side2=>exact Kd.R_tight rfl HO0_0.out);rintro e w9 ⟨rfl,hy0,hb,hkp⟩;refine ⟨_,rfl,?_⟩;replace HO0_4:=aK (fG (ok':=fun k_=>((P0_0_ k_∨P0_4_ k_)∨w.heap.size≤k_)) (Kd.R_keptB ((Kd.R_apart' HO0_4.out (Kd.R_typed HO0_0.out) (by decide))) hkp (fun k_ hk_ hs_=>(hk_.2) hs_)) (fun k_ hk_=>hk_.1.1));replace BK463:=aK (sE (by (with_reducible repeat (first|refine bU ?_ _|refine bW ?_|refine bT ?_ _));exact BK463.out) hkp (fun hs_=>(fun e_=>(Kd.R_ne HO0_0.out BK463.out (by decide)) e_) hs_));replace HK:=aK (Kept.then_ (S:=(fun k_=>P0_0_ k_∨P0_4_ k_)) (by repeat (first|(with_reducible first|exact HK.out|apply Kept.alloc|apply Kept.drewN|apply Kept.drew|refine Kept.setCell ?_ (.inr GW463.out) _)|exact HK.out)) hkp (fun k_ hs_=>(fun e_=>(HO0_0.out.1 k_ e_.symm)) hs_));replace HO0_0:=aK (Kd.R_reok rfl hy0 (fun k_ e_=>HO0_0.out.1 k_ e_));replace HB:=aK (hb);(try clear hb);(try clear hkp);(try clear hy0);obtain ⟨hcz10_0,hcz10_1,hcz10_2,hcz10_3,hcz10_4,hfz10_0,hfz10_1,hfz10_2,hfz10_3,hfz10_4⟩:=mG BK463)|((with_reducible refine cD (f:=56) rfl ?_);refine dT (some 12) rfl rfl Tryz.func56 (by kernel_rfl) rfl #[.slice Ao6 l0_4.length co6,.int .i64 t464] rfl mO ?_;(with_reducible refine (zP k (fun k_=>some k_=(.slice Ao6 l0_4.length co6:Value).ownBlock) (.slice Ao6 l0_4.length co6) l0_4 t464 t466 t467 w0 _ ?side1 ?side2 A4.out).mono ?_);(case side1=>exact (by repeat (first|(with_reducible first|exact HB.out|apply bI|apply bF|apply bH|refine bY ?_ GE463.out)|exact HB.out)));(case side2=>exact Kd.R_tight rfl HO0_4.out);rintro e w11 ⟨rfl,hy0,hb,hkp⟩;refine ⟨_,rfl,?_⟩;replace HO0_0:=aK (fG (ok':=fun k_=>((P0_0_ k_∨P0_4_ k_)∨w.heap.size≤k_)) (Kd.R_keptB ((Kd.R_apart' HO0_0.out (Kd.R_typed HO0_4.out) (by decide))) hkp (fun k_ hk_ hs_=>(hk_.2) hs_)) (fun k_ hk_=>hk_.1.1));replace BK463:=aK (sE (by (with_reducible repeat (first|refine bU ?_ _|refine bW ?_|refine bT ?_ _));exact BK463.out) hkp (fun hs_=>(fun e_=>(Kd.R_ne HO0_4.out BK463.out (by decide)) e_) hs_));replace HK:=aK (Kept.then_ (S:=(fun k_=>P0_0_ k_∨P0_4_ k_)) (by repeat (first|(with_reducible first|exact HK.out|apply Kept.alloc|apply Kept.drewN|apply Kept.drew|refine Kept.setCell ?_ (.inr GW463.out) _)|exact HK.out)) hkp (fun k_ hs_=>(fun e_=>(HO0_4.out.1 k_ e_.symm)) hs_));replace HO0_4:=aK (Kd.R_reok rfl hy0 (fun k_ e_=>HO0_4.out.1 k_ e_));replace HB:=aK (hb);(try clear hb);(try clear hkp);(try clear hy0)))
 go_ret;exact ⟨by first|rfl|(simp [dF,dE]<;>rfl)|(simp [*,dF,dE]<;>rfl),by (with_reducible repeat (first|apply Kd.R_alloc|apply bZ|apply cE));exact HO0_0.out,by (with_reducible repeat (first|apply Kd.R_alloc|apply bZ|apply cE));exact HO0_4.out,by repeat (first|(with_reducible first|exact HB.out|apply bI|apply bF|apply bH|refine bY ?_ GE463.out)|exact HB.out),by repeat (first|(with_reducible first|exact HK.out|apply Kept.alloc|apply Kept.drewN|apply Kept.drew|refine Kept.setCell ?_ (.inr GW463.out) _)|exact HK.out)⟩
def fQ:Nat→List Int→Int→Int→Option (Int)
  |0,_,_,_=>none
  |k+1,x0,x1,x5=>if x5<(x0.length:Int) then (if 0≤x5 then (if (rd x0 x5)=x1 then (fQ k x0 (wrap64 (x1+1)) (wrap64 (x5+1))) else (some (-1))) else (none)) else (some x1)
def mU (k:Nat) (l0:List Int) (a1:Int):Option (Int):=fQ k l0 a1 0
theorem tA: ∀k,(∀y0 y1 y2,bBf (fQ k y0 y1 y2) (fQ (k+1) y0 y1 y2))
 |0=>fun _ _ _ r h=>by simp [fQ] at h
 | k + 1 => by
  have ih0:=tA k
  ·intro y0 y1 y2
   unfold fQ;repeat' first
   |(with_reducible exact ih0 _ _ _)
   |(with_reducible exact bBf.refl _)
   |(with_reducible exact bBf.none _)
   |(with_reducible refine bBf.ite ?_ ?_)
   |(with_reducible refine bBf.bind ?_ (fun _=>?_))
   |exact ih0 _ _ _
   |exact bBf.none _
   |refine bBf.ite ?_ ?_
   |refine bBf.bind ?_ (fun _=>?_)
theorem bBb: ∀a0 a1 k,bBf (mU k a0 a1) (mU (k+1) a0 a1):=by
  intro a0 a1 k;have ih0:=tA k;unfold mU
  repeat' first
      |(with_reducible exact ih0 _ _ _)
      |(with_reducible exact bBf.refl _)
      |(with_reducible exact bBf.none _)
      |(with_reducible refine bBf.ite ?_ ?_)
      |(with_reducible refine bBf.bind ?_ (fun _=>?_))
      |exact ih0 _ _ _
      |exact bBf.none _
      |refine bBf.ite ?_ ?_
      |refine bBf.bind ?_ (fun _=>?_)
theorem tY (k:Nat) (A0:Option Addr) (c0:Nat) (l0:List Int) (a1:Int) (r:Int) (w:World) (hr0:Kd.C (Kd.int .i64) w A0 l0.length l0) (hc0:l0.length≤c0) (h:mU k l0 a1=some r):
  Calls Tryz.prog 29 #[.slice A0 l0.length c0,.int .i64 a1] w fun e w'=>e= .returned (.int .i64 r)∧Drawn0 w w':=by
 have HR0:=aK hr0;have HC0:=aK hc0;clear hr0 hc0;have H:(fQ k l0 a1 0)=some r:=h
 clear h;have H':=aK H;clear H;go_enter Tryz.func29,Tryz.ntmps29;go_wp2
 go_loopg [1,5] k (fun kq v1 v5 w'=> ∃(x1_1:Int) (x5_1:Int),v1= .int .i64 x1_1∧v5= .int .i64 x5_1∧Aside0 (fQ kq l0 x1_1 x5_1=some r)∧Aside0 (kq≤k)∧Drawn0 w w')
 case atStart=>exact ⟨(a1),(0),kG,kG,H',⟨bV _⟩,by repeat (first|exact Drawn0.refl _|apply Drawn0.step)⟩
 case round =>
  clear H';(try clear c2);(try clear p2);obtain ⟨x1_1,x5_1,rfl,rfl,HA,HK1,⟨m1,rfl⟩⟩:=hrel
  cases gk with
  |zero=>exact absurd HA.out (by simp [fQ])
  | succ k1 =>
   have H:=HA.out;clear HA;simp only [fQ] at H;by_cases c3:x5_1<(l0.length:Int)
   ·rw [if_pos c3] at H
    have c3b0:decide (x5_1<(l0.length:Int))=true:=bB c3
    clear c3;by_cases c4:0≤x5_1
    ·rw [if_pos c4] at H
     have c4b0:decide (0≤x5_1)=true:=bB c4
     clear c4;by_cases c5:(rd l0 x5_1)=x1_1
     ·rw [if_pos c5] at H
      have c5b0:((rd l0 x5_1)==x1_1)=true:=beq_iff_eq.mpr c5
      have c5b1:((rd l0 x5_1) !=x1_1)=false:=bne_eq_false_iff_eq.mpr c5
      clear c5;have H':=aK H;clear H;have p468:0≤(x5_1:Int):=bA fU
      have q468:x5_1<(l0.length:Int):=bA fU
      obtain ⟨ad468,e468,hx468_0⟩:=dA HR0.out x5_1 p468 q468
      cases e468
      replace p468:=bL p468;replace q468:=bL q468;go_wp2
      go_roundg k1
      case measure=>have:=HK1.out;omega
      case rel=>exact ⟨(wrap64 (x1_1+1)),(wrap64 (x5_1+1)),kG,kG,H',⟨by have:=HK1.out;omega⟩,by repeat (first|exact Drawn0.refl _|apply Drawn0.step)⟩
     ·rw [if_neg c5] at H
      have c5b0:((rd l0 x5_1)==x1_1)=false:=tP.mpr c5
      have c5b1:((rd l0 x5_1) !=x1_1)=true:=bne_iff_ne.mpr c5
      obtain rfl:=bC H;have p468:0≤(x5_1:Int):=bA fU
      have q468:x5_1<(l0.length:Int):=bA fU
      obtain ⟨ad468,e468,hx468_0⟩:=dA HR0.out x5_1 p468 q468
      cases e468
      replace p468:=bL p468;replace q468:=bL q468;go_wp2;go_ret;exact ⟨kG,nP⟩
    ·rw [if_neg c4] at H
     exact absurd H (by simp)
   ·rw [if_neg c3] at H
    have c3b0:decide (x5_1<(l0.length:Int))=false:=bJ c3
    clear c3;obtain rfl:=bC H;go_wp2;go_ret;exact ⟨kG,nP⟩
end Go.Proofs.YtbaklikaoleplaaGreat.K
