import Derived.Test.YtbaklikaoleplaaGreatPl24
set_option maxHeartbeats 8000000
set_option maxRecDepth 100000
namespace Go.Proofs.YtbaklikaoleplaaGreat.K
open Go.RowKit Go.Proofs.YtbaklikaoleplaaGreatW.PrintWords Go.Proofs.YtbaklikaoleplaaGreatW.PrintLast Go.Proofs.YtbaklikaoleplaaGreatW.PrintMore
attribute [local go_sem] gV gT jT jS fY fX gU gR
set_option linter.unusedVariables false
set_option linter.unusedSimpArgs false
mutual
def dI:Nat→Int→Bool→List Int→Int→Int→Int→List Bool→Option (Bool)
 |0,_,_,_,_,_,_,_=>none
 |k+1,x5,x54,x164000,x164001,x164002,x164003,x164004=>if x54=true then (some false) else (fB k x5 0 x164000 x164001 x164002 x164003 x164004)
def fB:Nat→Int→Int→List Int→Int→Int→Int→List Bool→Option (Bool)
 |0,_,_,_,_,_,_,_=>none
 |k+1,x5,x6,x164000,x164001,x164002,x164003,x164004=>if x6<x5 then ((fC x6 x164002 (wrap64 (x164001 - 1))).bind fun t170=>(if t170=true then (if 0≤x6 then (if x6<(x164000.length:Int) then (if (rd x164000 x6)=0 then (fB k x5 (wrap64 (x6+1)) x164000 x164001 x164002 x164003 x164004) else (some false)) else (none)) else (none)) else (if x6≥x164003 then (if 0≤x6 then (if x6<(x164000.length:Int) then (if (rd x164000 x6)=0 then (fB k x5 (wrap64 (x6+1)) x164000 x164001 x164002 x164003 x164004) else (some false)) else (none)) else (none)) else (fB k x5 (wrap64 (x6+1)) x164000 x164001 x164002 x164003 x164004)))) else (some true)
end
def mF (k:Nat) (l0:List (S78)) (l1_0:List Int) (a1_1:Int) (a1_2:Int) (a1_3:Int) (l1_4:List Bool):Option (Bool):=(pI k l0).bind fun t164=>(if t164=true then ((fC a1_1 0 40).bind fun t165=>(if t165=true then ((fC (wrap64 ((l1_0.length:Int) - a1_1)) 14 120).bind fun t166=>(if t166=true then ((fC a1_2 0 a1_1).bind fun t167=>(if t167=true then ((fC a1_3 a1_1 (l1_0.length:Int)).bind fun t168=>(if t168=true then ((tJ (wrap64 ((l1_0.length:Int) - a1_1))).bind fun t169=>(dI k (l1_0.length:Int) ((l1_4.length:Int) !=t169) l1_0 a1_1 a1_2 a1_3 l1_4)) else (dI k (l1_0.length:Int) true l1_0 a1_1 a1_2 a1_3 l1_4))) else (dI k (l1_0.length:Int) true l1_0 a1_1 a1_2 a1_3 l1_4))) else (dI k (l1_0.length:Int) true l1_0 a1_1 a1_2 a1_3 l1_4))) else (dI k (l1_0.length:Int) true l1_0 a1_1 a1_2 a1_3 l1_4))) else (dI k (l1_0.length:Int) true l1_0 a1_1 a1_2 a1_3 l1_4))
theorem sM: ∀k,(∀y0 y1 y2 y3 y4 y5 y6,bBf (dI k y0 y1 y2 y3 y4 y5 y6) (dI (k+1) y0 y1 y2 y3 y4 y5 y6))∧(∀y0 y1 y2 y3 y4 y5 y6,bBf (fB k y0 y1 y2 y3 y4 y5 y6) (fB (k+1) y0 y1 y2 y3 y4 y5 y6))
 |0=>⟨fun _ _ _ _ _ _ _ r h=>by simp [dI] at h,fun _ _ _ _ _ _ _ r h=>by simp [fB] at h⟩
 | k + 1 => by
  obtain ⟨ih0,ih1⟩:=sM k;refine ⟨?_,?_⟩
  ·intro y0 y1 y2 y3 y4 y5 y6
   unfold dI;repeat' first
   |(with_reducible exact ih0 _ _ _ _ _ _ _)
   |(with_reducible exact ih1 _ _ _ _ _ _ _)
   |(with_reducible exact spec_ClassesOk.mono _ _)
   |(with_reducible exact bBf.refl _)
   |(with_reducible exact bBf.none _)
   |(with_reducible refine bBf.ite ?_ ?_)
   |(with_reducible refine bBf.bind ?_ (fun _=>?_))
   |exact ih0 _ _ _ _ _ _ _
   |exact ih1 _ _ _ _ _ _ _
   |exact spec_ClassesOk.mono _ _
   |exact bBf.none _
   |refine bBf.ite ?_ ?_
   |refine bBf.bind ?_ (fun _=>?_)
  ·intro y0 y1 y2 y3 y4 y5 y6
   unfold fB;repeat' first
   |(with_reducible exact ih0 _ _ _ _ _ _ _)
   |(with_reducible exact ih1 _ _ _ _ _ _ _)
   |(with_reducible exact spec_ClassesOk.mono _ _)
   |(with_reducible exact bBf.refl _)
   |(with_reducible exact bBf.none _)
   |(with_reducible refine bBf.ite ?_ ?_)
   |(with_reducible refine bBf.bind ?_ (fun _=>?_))
   |exact ih0 _ _ _ _ _ _ _
   |exact ih1 _ _ _ _ _ _ _
   |exact spec_ClassesOk.mono _ _
   |exact bBf.none _
   |refine bBf.ite ?_ ?_
   |refine bBf.bind ?_ (fun _=>?_)
def spec_l21Bounds.T2:Bool×List (List Nat×List Nat):=(true,[([],[]),([0],[0]),([1],[1]),([2,1],[2]),([3],[3]),([4,3],[3,4]),([5,3,3],[3,5]),([6,3],[3,6]),([3,7],[3,7]),([8,6],[8]),([9],[9]),([9],[9]),([11,9],[9,11]),([10,12,9],[9,10,12]),([13,9,9],[9,13]),([14,9],[9,14]),([9,15],[9,15]),([16,14],[16]),([17],[17]),([18,17],[17,18]),([17],[17]),([20,17],[17,20]),([19,21,17,17],[17,19,21]),([22,17],[17,22]),([17,23],[17,23]),([24,22],[24]),([25],[25]),([26,25],[25,26]),([25],[25]),([28,25],[25,28]),([25],[25]),([27,29,30,25,25],[25,27,29,30]),([31,25],[25,31]),([25,32],[25,32]),([33,31],[33]),([34],[34]),([35,34],[34,35]),([36,34],[34,36]),([34],[34]),([34],[34]),([39,34],[34,39]),([38,40,34],[34,38,40]),([41,34,34],[34,41]),([37,42,34],[34,37,42]),([34,43],[34,43])])
def spec_l21Bounds.B2:List Nat:=[0,1,3,7,15,31,63,127,255,511,1023,1023,3071,8191,16383,32767,65535,131071,262143,524287,262143,1310719,4194303,8388607,16777215,33554431,67108863,134217727,67108863,335544319,67108863,2147483647,4294967295,8589934591,17179869183,34359738367,68719476735,137438953471,34359738367,34359738367,584115552255,1958505086975,4157528342527,8796093022207,17592186044415]
theorem mD:sK .any (bHa Tryz.f100 2)=spec_l21Bounds.T2:=by kernel_rfl
theorem kT:vE spec_l21Bounds.T2.2 spec_l21Bounds.B2=true:=by kernel_rfl
theorem qO (k : Nat) (A0 : Option Addr) (c0 : Nat) (l0 : List (S78)) (A1_0 : Option Addr) (c1_0 : Nat) (l1_0 : List Int) (a1_1 : Int) (a1_2 : Int) (a1_3 : Int) (A1_4 : Option Addr) (c1_4 : Nat) (l1_4 : List Bool) (r : Bool) (w : World) (hr0 : Kd.C yD w A0 l0.length l0) (hc0 : l0.length ≤ c0) (hr1_0 : Kd.C (Kd.int .i64) w A1_0 l1_0.length l1_0) (hc1_0 : l1_0.length ≤ c1_0) (hr1_4 : Kd.C Kd.bool w A1_4 l1_4.length l1_4) (hc1_4 : l1_4.length ≤ c1_4) (h : mF k l0 l1_0 a1_1 a1_2 a1_3 l1_4 = some r) :
  Calls Tryz.prog 100 #[.slice A0 l0.length c0,.agg #[.slice A1_0 l1_0.length c1_0,.int .i64 a1_1,.int .i64 a1_2,.int .i64 a1_3,.slice A1_4 l1_4.length c1_4]] w fun e w'=>e= .returned (.bool r)∧Below w.heap.size w w':=by
 have hu27:=Tryz.underlying27;have HR0:=aK hr0;have HC0:=aK hc0;clear hr0 hc0;have HR1_0:=aK hr1_0;have HC1_0:=aK hc1_0;clear hr1_0 hc1_0;have HR1_4:=aK hr1_4;have HC1_4:=aK hc1_4;clear hr1_4 hc1_4;have HB:=aK (bQ w.heap.size w);have H:((pI k l0).bind fun t164=>(if t164=true then ((fC a1_1 0 40).bind fun t165=>(if t165=true then ((fC (wrap64 ((l1_0.length:Int) - a1_1)) 14 120).bind fun t166=>(if t166=true then ((fC a1_2 0 a1_1).bind fun t167=>(if t167=true then ((fC a1_3 a1_1 (l1_0.length:Int)).bind fun t168=>(if t168=true then ((tJ (wrap64 ((l1_0.length:Int) - a1_1))).bind fun t169=>(dI k (l1_0.length:Int) ((l1_4.length:Int) !=t169) l1_0 a1_1 a1_2 a1_3 l1_4)) else (dI k (l1_0.length:Int) true l1_0 a1_1 a1_2 a1_3 l1_4))) else (dI k (l1_0.length:Int) true l1_0 a1_1 a1_2 a1_3 l1_4))) else (dI k (l1_0.length:Int) true l1_0 a1_1 a1_2 a1_3 l1_4))) else (dI k (l1_0.length:Int) true l1_0 a1_1 a1_2 a1_3 l1_4))) else (dI k (l1_0.length:Int) true l1_0 a1_1 a1_2 a1_3 l1_4)))=some r:=h
 clear h;have HC3:=aK H;clear H;go_enter Tryz.func100,Tryz.ntmps100
 go_upto_region 2 with (first|((with_reducible refine dG (N:=3) rfl ?_);(try (refine yS (by rfl) ?_;dsimp only));refine dN ?hg (N:=3) ?hd (cs:= #[.slice A1_0 l1_0.length c1_0,.int .i64 a1_1,.int .i64 a1_2,.int .i64 a1_3,.slice A1_4 l1_4.length c1_4]) (t:=27) ?hr ?_;(case hd=>rfl);(case hg=>rfl);(case hr=>first|(go_simp;done)|(go_simp;rfl));intro gb163 hg w4 hbox hb;have BK163:=aK (hbox);have GW163:=aK ((by rw [hg];exact (bN jR):w.heap.size≤gb163));have GE163:=aK ((by rw [hg];exact (bN jR):w.heap.size≤gb163));replace HB:=aK (bG jR hb);clear hb hbox hg;obtain ⟨hcz5_0,hcz5_1,hcz5_2,hcz5_3,hcz5_4,hfz5_0,hfz5_1,hfz5_2,hfz5_3,hfz5_4⟩:=mG BK163))
 (try simp only [Act.put,fL,jB,jC])
 go_cut [54] (fun v54 wc=> ∃(kq:Nat) (x54_2:Bool),v54= .bool x54_2∧Aside0 (dI kq (l1_0.length:Int) x54_2 l1_0 a1_1 a1_2 a1_3 l1_4=some r)∧Aside0 (kq≤k)∧Aside0 (wc.heap[gb163]? =some (.cells #[(.slice A1_0 l1_0.length c1_0),.int .i64 a1_1,.int .i64 a1_2,.int .i64 a1_3,(.slice A1_4 l1_4.length c1_4)] 27 (0,0)))∧Aside0 (Below w.heap.size w wc))
 case first =>
  have H:=HC3.out;clear HC3;replace H:=Option.bind_eq_some_iff.mp H;obtain ⟨t164,A60,H⟩:=H;(try dsimp only at H);have A6:=aK A60;clear A60;by_cases c7:t164=true
  ·subst c7
   rw [if_pos rfl] at H;replace H:=Option.bind_eq_some_iff.mp H;obtain ⟨t165,A80,H⟩:=H;(try dsimp only at H);have A8:=aK A80;clear A80;by_cases c9:t165=true
   ·subst c9
    rw [if_pos rfl] at H;replace H:=Option.bind_eq_some_iff.mp H;obtain ⟨t166,A100,H⟩:=H;(try dsimp only at H);have A10:=aK A100;clear A100;by_cases c11:t166=true
    ·subst c11
     rw [if_pos rfl] at H;replace H:=Option.bind_eq_some_iff.mp H;obtain ⟨t167,A120,H⟩:=H;(try dsimp only at H);have A12:=aK A120;clear A120;by_cases c13:t167=true
     ·subst c13
      rw [if_pos rfl] at H;replace H:=Option.bind_eq_some_iff.mp H;obtain ⟨t168,A140,H⟩:=H;(try dsimp only at H);have A14:=aK A140;clear A140;by_cases c15:t168=true
      ·subst c15
       rw [if_pos rfl] at H;replace H:=Option.bind_eq_some_iff.mp H;obtain ⟨t169,A160,H⟩:=H;(try dsimp only at H);have A16:=aK A160;clear A160;have H':=aK H;clear H;try go_wp2
       have n0_:=aK (bW BK163.out);have n1_:=aK (bH HB.out);clear BK163;clear HB;have BK163:=n0_;have HB:=n1_;clear n0_ n1_;refine sT 45 (S:=fun w'=>w'.cell? ⟨gb163,0,none⟩=some (.slice A1_0 l1_0.length c1_0)∧w'.cell? ⟨gb163,1,none⟩=some (.int .i64 a1_1)∧w'.cell? ⟨gb163,2,none⟩=some (.int .i64 a1_2)∧w'.cell? ⟨gb163,3,none⟩=some (.int .i64 a1_3)∧w'.cell? ⟨gb163,4,none⟩=some (.slice A1_4 l1_4.length c1_4)) (ds:=[]) (tO BK163.out) (fun hHeld=>?_);refine nN mD kT (fun HT_ HW_=>?_);generalize w4.drew=w17 at BK163 HB hHeld ⊢;refine kC 0 ?_;refine rQ (i:=1) (N:=some 11) (lA 45 3) rfl rfl (mA HT_.out (by kernel_rfl)) (by decide) (fun K hK=>?_);refine pA Tryz.func145 (by kernel_rfl) rfl #[.slice A0 l0.length c0] (by rfl) rfl rfl mO ?_;(with_reducible refine (kU k _ _ l0 true _ ?side1 ?side2 A6.out).mono ?_)
       (case side1=>exact zF)
       (case side2=>exact HC0.out)
       rintro e w18 ⟨rfl,hb⟩;refine ⟨_,rfl,?_⟩;have n0_:=aK (cJ (g:=gb163) (o:= .cells #[.slice A1_0 l1_0.length c1_0,.int .i64 a1_1,.int .i64 a1_2,.int .i64 a1_3,.slice A1_4 l1_4.length c1_4] 27 (0,0)) bKa hb);have n1_:=aK (bG bEq hb);clear BK163;clear HB;have BK163:=n0_;have HB:=n1_;clear n0_ n1_;(try clear hb);(try clear hb2);(try clear hk);(try clear hi);refine hK.out _ _ (tO BK163.out) (fun hHeld=>?_);clear hK K;refine nS 11 ?_;refine kC 2 ?_;refine kC 3 ?_;refine kC 4 ?_;refine tS 5 15 (lA 45 63) rfl rfl (fV HT_.out HW_.out (by kernel_rfl)) hHeld xS ?_;refine rQ (i:=6) (N:=some 16) (lA 45 127) rfl rfl (mA HT_.out (by kernel_rfl)) (by decide) (fun K hK=>?_);refine pA Tryz.func129 (by kernel_rfl) rfl #[.int .i64 a1_1,.int .i64 0,.int .i64 40] (by rfl) rfl rfl mO ?_;(with_reducible refine (cZ a1_1 0 40 true _ A8.out).mono ?_);rintro e w' ⟨rfl,⟨nd,rfl⟩⟩;refine ⟨_,rfl,?_⟩;refine hK.out _ _ (tO BK163.out) (fun hHeld=>?_);clear hK K;refine nS 16 ?_;refine kC 7 ?_;refine kC 8 ?_;refine kC 9 ?_;refine kC 10 ?_;refine kC 11 ?_;refine tS 12 22 (lA 45 8191) rfl rfl (fV HT_.out HW_.out (by kernel_rfl)) hHeld xS ?_;refine kC 13 ?_;refine rQ (i:=14) (N:=some 24) (lA 45 32767) rfl rfl (mA HT_.out (by kernel_rfl)) (by decide) (fun K hK=>?_);refine pA Tryz.func129 (by kernel_rfl) rfl #[.int .i64 (wrap64 ((l1_0.length:Int) - a1_1)),.int .i64 14,.int .i64 120] (by rfl) rfl rfl mO ?_;(with_reducible refine (cZ (wrap64 ((l1_0.length:Int) - a1_1)) 14 120 true _ A10.out).mono ?_);rintro e w' ⟨rfl,⟨nd,rfl⟩⟩;refine ⟨_,rfl,?_⟩;refine hK.out _ _ (tO BK163.out) (fun hHeld=>?_);clear hK K;refine nS 24 ?_;refine kC 15 ?_;refine kC 16 ?_;refine kC 17 ?_;refine kC 18 ?_;refine kC 20 ?_;refine tS 19 29 (lA 45 2097151) rfl rfl (fV HT_.out HW_.out (by kernel_rfl)) hHeld xS ?_;refine tS 21 31 (lA 45 4194303) rfl rfl (fV HT_.out HW_.out (by kernel_rfl)) hHeld xS ?_;refine rQ (i:=22) (N:=some 32) (lA 45 8388607) rfl rfl (mA HT_.out (by kernel_rfl)) (by decide) (fun K hK=>?_);refine pA Tryz.func129 (by kernel_rfl) rfl #[.int .i64 a1_2,.int .i64 0,.int .i64 a1_1] (by rfl) rfl rfl mO ?_;(with_reducible refine (cZ a1_2 0 a1_1 true _ A12.out).mono ?_);rintro e w' ⟨rfl,⟨nd,rfl⟩⟩;refine ⟨_,rfl,?_⟩;refine hK.out _ _ (tO BK163.out) (fun hHeld=>?_);clear hK K;refine nS 32 ?_;refine kC 23 ?_;refine kC 24 ?_;refine kC 25 ?_;refine kC 26 ?_;refine kC 28 ?_;refine kC 30 ?_;refine tS 27 37 (lA 45 1610612735) rfl rfl (fV HT_.out HW_.out (by kernel_rfl)) hHeld xS ?_;refine tS 29 39 (lA 45 2147483647) rfl rfl (fV HT_.out HW_.out (by kernel_rfl)) hHeld xS ?_;refine rQ (i:=31) (N:=some 41) (lA 45 4294967295) rfl rfl (mA HT_.out (by kernel_rfl)) (by decide) (fun K hK=>?_);refine pA Tryz.func129 (by kernel_rfl) rfl #[.int .i64 a1_3,.int .i64 a1_1,.int .i64 (l1_0.length:Int)] (by rfl) rfl rfl mO ?_;(with_reducible refine (cZ a1_3 a1_1 (l1_0.length:Int) true _ A14.out).mono ?_);rintro e w' ⟨rfl,⟨nd,rfl⟩⟩;refine ⟨_,rfl,?_⟩;refine hK.out _ _ (tO BK163.out) (fun hHeld=>?_);clear hK K;refine nS 41 ?_;refine kC 32 ?_;refine kC 33 ?_;refine kC 34 ?_;refine kC 35 ?_;refine kC 38 ?_;refine kC 39 ?_;refine tS 36 46 (lA 45 962072674303) rfl rfl (fV HT_.out HW_.out (by kernel_rfl)) hHeld xS ?_;refine kC 37 ?_;refine tS 40 50 (lA 45 2199023255551) rfl rfl (fV HT_.out HW_.out (by kernel_rfl)) hHeld xS ?_;refine kC 41 ?_;refine rQ (i:=42) (N:=some 52) (lA 45 8796093022207) rfl rfl (mA HT_.out (by kernel_rfl)) (by decide) (fun K hK=>?_);refine pA Tryz.func146 (by kernel_rfl) rfl #[.int .i64 (wrap64 ((l1_0.length:Int) - a1_1))] (by rfl) rfl rfl mO ?_;(with_reducible refine (bAg (wrap64 ((l1_0.length:Int) - a1_1)) t169 _ A16.out).mono ?_);rintro e w' ⟨rfl,⟨nd,rfl⟩⟩;refine ⟨_,rfl,?_⟩;refine hK.out _ _ (tO BK163.out) (fun hHeld=>?_);clear hK K;refine nS 52 ?_;refine kC 43 ?_;refine kC 44 ?_;refine kX (rE HT_.out (by kernel_rfl)) ?_;try go_wp2
       go_meet
       case rel=>exact ⟨_,(((l1_4.length:Int) !=t169)),kG,H',⟨by first|omega|exact bV _⟩,⟨by (with_reducible repeat (first|refine bU ?_ _|refine bW ?_|refine bT ?_ _));exact BK163.out⟩,⟨by repeat (first|(with_reducible first|exact HB.out|apply bI|apply bF|apply bH|refine bY ?_ GE163.out)|exact HB.out)⟩⟩
      ·replace c15 := Bool.eq_false_iff.mpr c15
       subst c15;rw [if_neg (show¬(false=true) by decide)] at H;have H':=aK H;clear H;try go_wp2
       have n0_:=aK (bW BK163.out);have n1_:=aK (bH HB.out);clear BK163;clear HB;have BK163:=n0_;have HB:=n1_;clear n0_ n1_;refine sT 45 (S:=fun w'=>w'.cell? ⟨gb163,0,none⟩=some (.slice A1_0 l1_0.length c1_0)∧w'.cell? ⟨gb163,1,none⟩=some (.int .i64 a1_1)∧w'.cell? ⟨gb163,2,none⟩=some (.int .i64 a1_2)∧w'.cell? ⟨gb163,3,none⟩=some (.int .i64 a1_3)∧w'.cell? ⟨gb163,4,none⟩=some (.slice A1_4 l1_4.length c1_4)) (ds:=[]) (tO BK163.out) (fun hHeld=>?_);refine nN mD kT (fun HT_ HW_=>?_);generalize w4.drew=w19 at BK163 HB hHeld ⊢;refine kC 0 ?_;refine rQ (i:=1) (N:=some 11) (lA 45 3) rfl rfl (mA HT_.out (by kernel_rfl)) (by decide) (fun K hK=>?_);refine pA Tryz.func145 (by kernel_rfl) rfl #[.slice A0 l0.length c0] (by rfl) rfl rfl mO ?_;(with_reducible refine (kU k _ _ l0 true _ ?side1 ?side2 A6.out).mono ?_)
       (case side1=>exact zF)
       (case side2=>exact HC0.out)
       rintro e w20 ⟨rfl,hb⟩;refine ⟨_,rfl,?_⟩;have n0_:=aK (cJ (g:=gb163) (o:= .cells #[.slice A1_0 l1_0.length c1_0,.int .i64 a1_1,.int .i64 a1_2,.int .i64 a1_3,.slice A1_4 l1_4.length c1_4] 27 (0,0)) bKa hb);have n1_:=aK (bG bEq hb);clear BK163;clear HB;have BK163:=n0_;have HB:=n1_;clear n0_ n1_;(try clear hb);(try clear hb2);(try clear hk);(try clear hi);refine hK.out _ _ (tO BK163.out) (fun hHeld=>?_);clear hK K;refine nS 11 ?_;refine kC 2 ?_;refine kC 3 ?_;refine kC 4 ?_;refine tS 5 15 (lA 45 63) rfl rfl (fV HT_.out HW_.out (by kernel_rfl)) hHeld xS ?_;refine rQ (i:=6) (N:=some 16) (lA 45 127) rfl rfl (mA HT_.out (by kernel_rfl)) (by decide) (fun K hK=>?_);refine pA Tryz.func129 (by kernel_rfl) rfl #[.int .i64 a1_1,.int .i64 0,.int .i64 40] (by rfl) rfl rfl mO ?_;(with_reducible refine (cZ a1_1 0 40 true _ A8.out).mono ?_);rintro e w' ⟨rfl,⟨nd,rfl⟩⟩;refine ⟨_,rfl,?_⟩;refine hK.out _ _ (tO BK163.out) (fun hHeld=>?_);clear hK K;refine nS 16 ?_;refine kC 7 ?_;refine kC 8 ?_;refine kC 9 ?_;refine kC 10 ?_;refine kC 11 ?_;refine tS 12 22 (lA 45 8191) rfl rfl (fV HT_.out HW_.out (by kernel_rfl)) hHeld xS ?_;refine kC 13 ?_;refine rQ (i:=14) (N:=some 24) (lA 45 32767) rfl rfl (mA HT_.out (by kernel_rfl)) (by decide) (fun K hK=>?_);refine pA Tryz.func129 (by kernel_rfl) rfl #[.int .i64 (wrap64 ((l1_0.length:Int) - a1_1)),.int .i64 14,.int .i64 120] (by rfl) rfl rfl mO ?_;(with_reducible refine (cZ (wrap64 ((l1_0.length:Int) - a1_1)) 14 120 true _ A10.out).mono ?_);rintro e w' ⟨rfl,⟨nd,rfl⟩⟩;refine ⟨_,rfl,?_⟩;refine hK.out _ _ (tO BK163.out) (fun hHeld=>?_);clear hK K;refine nS 24 ?_;refine kC 15 ?_;refine kC 16 ?_;refine kC 17 ?_;refine kC 18 ?_;refine kC 20 ?_;refine tS 19 29 (lA 45 2097151) rfl rfl (fV HT_.out HW_.out (by kernel_rfl)) hHeld xS ?_;refine tS 21 31 (lA 45 4194303) rfl rfl (fV HT_.out HW_.out (by kernel_rfl)) hHeld xS ?_;refine rQ (i:=22) (N:=some 32) (lA 45 8388607) rfl rfl (mA HT_.out (by kernel_rfl)) (by decide) (fun K hK=>?_);refine pA Tryz.func129 (by kernel_rfl) rfl #[.int .i64 a1_2,.int .i64 0,.int .i64 a1_1] (by rfl) rfl rfl mO ?_;(with_reducible refine (cZ a1_2 0 a1_1 true _ A12.out).mono ?_);rintro e w' ⟨rfl,⟨nd,rfl⟩⟩;refine ⟨_,rfl,?_⟩;refine hK.out _ _ (tO BK163.out) (fun hHeld=>?_);clear hK K;refine nS 32 ?_;refine kC 23 ?_;refine kC 24 ?_;refine kC 25 ?_;refine kC 26 ?_;refine kC 28 ?_;refine kC 30 ?_;refine tS 27 37 (lA 45 1610612735) rfl rfl (fV HT_.out HW_.out (by kernel_rfl)) hHeld xS ?_;refine tS 29 39 (lA 45 2147483647) rfl rfl (fV HT_.out HW_.out (by kernel_rfl)) hHeld xS ?_;refine rQ (i:=31) (N:=some 41) (lA 45 4294967295) rfl rfl (mA HT_.out (by kernel_rfl)) (by decide) (fun K hK=>?_);refine pA Tryz.func129 (by kernel_rfl) rfl #[.int .i64 a1_3,.int .i64 a1_1,.int .i64 (l1_0.length:Int)] (by rfl) rfl rfl mO ?_;(with_reducible refine (cZ a1_3 a1_1 (l1_0.length:Int) false _ A14.out).mono ?_);rintro e w' ⟨rfl,⟨nd,rfl⟩⟩;refine ⟨_,rfl,?_⟩;refine hK.out _ _ (tO BK163.out) (fun hHeld=>?_);clear hK K;refine nS 41 ?_;refine kC 32 ?_;refine kC 33 ?_;refine kC 34 ?_;refine mM 35 ?_;refine mM 36 ?_;refine mM 37 ?_;refine mM 38 ?_;refine mM 39 ?_;refine mM 40 ?_;refine mM 41 ?_;refine mM 42 ?_;refine mM 43 ?_;refine kC 44 ?_;refine kX (rE HT_.out (by kernel_rfl)) ?_;try go_wp2
       go_meet
       case rel=>exact ⟨_,(true),kG,H',⟨by first|omega|exact bV _⟩,⟨by (with_reducible repeat (first|refine bU ?_ _|refine bW ?_|refine bT ?_ _));exact BK163.out⟩,⟨by repeat (first|(with_reducible first|exact HB.out|apply bI|apply bF|apply bH|refine bY ?_ GE163.out)|exact HB.out)⟩⟩
     ·replace c13 := Bool.eq_false_iff.mpr c13
      subst c13;rw [if_neg (show¬(false=true) by decide)] at H;have H':=aK H;clear H;try go_wp2
      have n0_:=aK (bW BK163.out);have n1_:=aK (bH HB.out);clear BK163;clear HB;have BK163:=n0_;have HB:=n1_;clear n0_ n1_;refine sT 45 (S:=fun w'=>w'.cell? ⟨gb163,0,none⟩=some (.slice A1_0 l1_0.length c1_0)∧w'.cell? ⟨gb163,1,none⟩=some (.int .i64 a1_1)∧w'.cell? ⟨gb163,2,none⟩=some (.int .i64 a1_2)∧w'.cell? ⟨gb163,3,none⟩=some (.int .i64 a1_3)∧w'.cell? ⟨gb163,4,none⟩=some (.slice A1_4 l1_4.length c1_4)) (ds:=[]) (tO BK163.out) (fun hHeld=>?_);refine nN mD kT (fun HT_ HW_=>?_);generalize w4.drew=w21 at BK163 HB hHeld ⊢;refine kC 0 ?_;refine rQ (i:=1) (N:=some 11) (lA 45 3) rfl rfl (mA HT_.out (by kernel_rfl)) (by decide) (fun K hK=>?_);refine pA Tryz.func145 (by kernel_rfl) rfl #[.slice A0 l0.length c0] (by rfl) rfl rfl mO ?_;(with_reducible refine (kU k _ _ l0 true _ ?side1 ?side2 A6.out).mono ?_)
      (case side1=>exact zF)
      (case side2=>exact HC0.out)
      rintro e w22 ⟨rfl,hb⟩;refine ⟨_,rfl,?_⟩;have n0_:=aK (cJ (g:=gb163) (o:= .cells #[.slice A1_0 l1_0.length c1_0,.int .i64 a1_1,.int .i64 a1_2,.int .i64 a1_3,.slice A1_4 l1_4.length c1_4] 27 (0,0)) bKa hb);have n1_:=aK (bG bEq hb);clear BK163;clear HB;have BK163:=n0_;have HB:=n1_;clear n0_ n1_;(try clear hb);(try clear hb2);(try clear hk);(try clear hi);refine hK.out _ _ (tO BK163.out) (fun hHeld=>?_);clear hK K;refine nS 11 ?_;refine kC 2 ?_;refine kC 3 ?_;refine kC 4 ?_;refine tS 5 15 (lA 45 63) rfl rfl (fV HT_.out HW_.out (by kernel_rfl)) hHeld xS ?_;refine rQ (i:=6) (N:=some 16) (lA 45 127) rfl rfl (mA HT_.out (by kernel_rfl)) (by decide) (fun K hK=>?_);refine pA Tryz.func129 (by kernel_rfl) rfl #[.int .i64 a1_1,.int .i64 0,.int .i64 40] (by rfl) rfl rfl mO ?_;(with_reducible refine (cZ a1_1 0 40 true _ A8.out).mono ?_);rintro e w' ⟨rfl,⟨nd,rfl⟩⟩;refine ⟨_,rfl,?_⟩;refine hK.out _ _ (tO BK163.out) (fun hHeld=>?_);clear hK K;refine nS 16 ?_;refine kC 7 ?_;refine kC 8 ?_;refine kC 9 ?_;refine kC 10 ?_;refine kC 11 ?_;refine tS 12 22 (lA 45 8191) rfl rfl (fV HT_.out HW_.out (by kernel_rfl)) hHeld xS ?_;refine kC 13 ?_;refine rQ (i:=14) (N:=some 24) (lA 45 32767) rfl rfl (mA HT_.out (by kernel_rfl)) (by decide) (fun K hK=>?_);refine pA Tryz.func129 (by kernel_rfl) rfl #[.int .i64 (wrap64 ((l1_0.length:Int) - a1_1)),.int .i64 14,.int .i64 120] (by rfl) rfl rfl mO ?_;(with_reducible refine (cZ (wrap64 ((l1_0.length:Int) - a1_1)) 14 120 true _ A10.out).mono ?_);rintro e w' ⟨rfl,⟨nd,rfl⟩⟩;refine ⟨_,rfl,?_⟩;refine hK.out _ _ (tO BK163.out) (fun hHeld=>?_);clear hK K;refine nS 24 ?_;refine kC 15 ?_;refine kC 16 ?_;refine kC 17 ?_;refine kC 18 ?_;refine kC 20 ?_;refine tS 19 29 (lA 45 2097151) rfl rfl (fV HT_.out HW_.out (by kernel_rfl)) hHeld xS ?_;refine tS 21 31 (lA 45 4194303) rfl rfl (fV HT_.out HW_.out (by kernel_rfl)) hHeld xS ?_;refine rQ (i:=22) (N:=some 32) (lA 45 8388607) rfl rfl (mA HT_.out (by kernel_rfl)) (by decide) (fun K hK=>?_);refine pA Tryz.func129 (by kernel_rfl) rfl #[.int .i64 a1_2,.int .i64 0,.int .i64 a1_1] (by rfl) rfl rfl mO ?_;(with_reducible refine (cZ a1_2 0 a1_1 false _ A12.out).mono ?_);rintro e w' ⟨rfl,⟨nd,rfl⟩⟩;refine ⟨_,rfl,?_⟩;refine hK.out _ _ (tO BK163.out) (fun hHeld=>?_);clear hK K;refine nS 32 ?_;refine kC 23 ?_;refine kC 24 ?_;refine kC 25 ?_;refine mM 26 ?_;refine mM 27 ?_;refine mM 28 ?_;refine mM 29 ?_;refine mM 30 ?_;refine mM 31 ?_;refine mM 32 ?_;refine kC 33 ?_;refine kC 34 ?_;refine mM 35 ?_;refine mM 36 ?_;refine mM 37 ?_;refine mM 38 ?_;refine mM 39 ?_;refine mM 40 ?_;refine mM 41 ?_;refine mM 42 ?_;refine mM 43 ?_;refine kC 44 ?_;refine kX (rE HT_.out (by kernel_rfl)) ?_;try go_wp2
      go_meet
      case rel=>exact ⟨_,(true),kG,H',⟨by first|omega|exact bV _⟩,⟨by (with_reducible repeat (first|refine bU ?_ _|refine bW ?_|refine bT ?_ _));exact BK163.out⟩,⟨by repeat (first|(with_reducible first|exact HB.out|apply bI|apply bF|apply bH|refine bY ?_ GE163.out)|exact HB.out)⟩⟩
    ·replace c11 := Bool.eq_false_iff.mpr c11
     subst c11;rw [if_neg (show¬(false=true) by decide)] at H;have H':=aK H;clear H;try go_wp2
     have n0_:=aK (bW BK163.out);have n1_:=aK (bH HB.out);clear BK163;clear HB;have BK163:=n0_;have HB:=n1_;clear n0_ n1_;refine sT 45 (S:=fun w'=>w'.cell? ⟨gb163,0,none⟩=some (.slice A1_0 l1_0.length c1_0)∧w'.cell? ⟨gb163,1,none⟩=some (.int .i64 a1_1)∧w'.cell? ⟨gb163,2,none⟩=some (.int .i64 a1_2)∧w'.cell? ⟨gb163,3,none⟩=some (.int .i64 a1_3)∧w'.cell? ⟨gb163,4,none⟩=some (.slice A1_4 l1_4.length c1_4)) (ds:=[]) (tO BK163.out) (fun hHeld=>?_);refine nN mD kT (fun HT_ HW_=>?_);generalize w4.drew=w23 at BK163 HB hHeld ⊢;refine kC 0 ?_;refine rQ (i:=1) (N:=some 11) (lA 45 3) rfl rfl (mA HT_.out (by kernel_rfl)) (by decide) (fun K hK=>?_);refine pA Tryz.func145 (by kernel_rfl) rfl #[.slice A0 l0.length c0] (by rfl) rfl rfl mO ?_;(with_reducible refine (kU k _ _ l0 true _ ?side1 ?side2 A6.out).mono ?_)
     (case side1=>exact zF)
     (case side2=>exact HC0.out)
     rintro e w24 ⟨rfl,hb⟩;refine ⟨_,rfl,?_⟩;have n0_:=aK (cJ (g:=gb163) (o:= .cells #[.slice A1_0 l1_0.length c1_0,.int .i64 a1_1,.int .i64 a1_2,.int .i64 a1_3,.slice A1_4 l1_4.length c1_4] 27 (0,0)) bKa hb);have n1_:=aK (bG bEq hb);clear BK163;clear HB;have BK163:=n0_;have HB:=n1_;clear n0_ n1_;(try clear hb);(try clear hb2);(try clear hk);(try clear hi);refine hK.out _ _ (tO BK163.out) (fun hHeld=>?_);clear hK K;refine nS 11 ?_;refine kC 2 ?_;refine kC 3 ?_;refine kC 4 ?_;refine tS 5 15 (lA 45 63) rfl rfl (fV HT_.out HW_.out (by kernel_rfl)) hHeld xS ?_;refine rQ (i:=6) (N:=some 16) (lA 45 127) rfl rfl (mA HT_.out (by kernel_rfl)) (by decide) (fun K hK=>?_);refine pA Tryz.func129 (by kernel_rfl) rfl #[.int .i64 a1_1,.int .i64 0,.int .i64 40] (by rfl) rfl rfl mO ?_;(with_reducible refine (cZ a1_1 0 40 true _ A8.out).mono ?_);rintro e w' ⟨rfl,⟨nd,rfl⟩⟩;refine ⟨_,rfl,?_⟩;refine hK.out _ _ (tO BK163.out) (fun hHeld=>?_);clear hK K;refine nS 16 ?_;refine kC 7 ?_;refine kC 8 ?_;refine kC 9 ?_;refine kC 10 ?_;refine kC 11 ?_;refine tS 12 22 (lA 45 8191) rfl rfl (fV HT_.out HW_.out (by kernel_rfl)) hHeld xS ?_;refine kC 13 ?_;refine rQ (i:=14) (N:=some 24) (lA 45 32767) rfl rfl (mA HT_.out (by kernel_rfl)) (by decide) (fun K hK=>?_);refine pA Tryz.func129 (by kernel_rfl) rfl #[.int .i64 (wrap64 ((l1_0.length:Int) - a1_1)),.int .i64 14,.int .i64 120] (by rfl) rfl rfl mO ?_;(with_reducible refine (cZ (wrap64 ((l1_0.length:Int) - a1_1)) 14 120 false _ A10.out).mono ?_);rintro e w' ⟨rfl,⟨nd,rfl⟩⟩;refine ⟨_,rfl,?_⟩;refine hK.out _ _ (tO BK163.out) (fun hHeld=>?_);clear hK K;refine nS 24 ?_;refine kC 15 ?_;refine kC 16 ?_;refine kC 17 ?_;refine mM 18 ?_;refine mM 19 ?_;refine mM 20 ?_;refine mM 21 ?_;refine mM 22 ?_;refine mM 23 ?_;refine kC 24 ?_;refine kC 25 ?_;refine mM 26 ?_;refine mM 27 ?_;refine mM 28 ?_;refine mM 29 ?_;refine mM 30 ?_;refine mM 31 ?_;refine mM 32 ?_;refine kC 33 ?_;refine kC 34 ?_;refine mM 35 ?_;refine mM 36 ?_;refine mM 37 ?_;refine mM 38 ?_;refine mM 39 ?_;refine mM 40 ?_;refine mM 41 ?_;refine mM 42 ?_;refine mM 43 ?_;refine kC 44 ?_;refine kX (rE HT_.out (by kernel_rfl)) ?_;try go_wp2
     go_meet
     case rel=>exact ⟨_,(true),kG,H',⟨by first|omega|exact bV _⟩,⟨by (with_reducible repeat (first|refine bU ?_ _|refine bW ?_|refine bT ?_ _));exact BK163.out⟩,⟨by repeat (first|(with_reducible first|exact HB.out|apply bI|apply bF|apply bH|refine bY ?_ GE163.out)|exact HB.out)⟩⟩
   ·replace c9 := Bool.eq_false_iff.mpr c9
    subst c9;rw [if_neg (show¬(false=true) by decide)] at H;have H':=aK H;clear H;try go_wp2
    have n0_:=aK (bW BK163.out);have n1_:=aK (bH HB.out);clear BK163;clear HB;have BK163:=n0_;have HB:=n1_;clear n0_ n1_;refine sT 45 (S:=fun w'=>w'.cell? ⟨gb163,0,none⟩=some (.slice A1_0 l1_0.length c1_0)∧w'.cell? ⟨gb163,1,none⟩=some (.int .i64 a1_1)∧w'.cell? ⟨gb163,2,none⟩=some (.int .i64 a1_2)∧w'.cell? ⟨gb163,3,none⟩=some (.int .i64 a1_3)∧w'.cell? ⟨gb163,4,none⟩=some (.slice A1_4 l1_4.length c1_4)) (ds:=[]) (tO BK163.out) (fun hHeld=>?_);refine nN mD kT (fun HT_ HW_=>?_);generalize w4.drew=w25 at BK163 HB hHeld ⊢;refine kC 0 ?_;refine rQ (i:=1) (N:=some 11) (lA 45 3) rfl rfl (mA HT_.out (by kernel_rfl)) (by decide) (fun K hK=>?_);refine pA Tryz.func145 (by kernel_rfl) rfl #[.slice A0 l0.length c0] (by rfl) rfl rfl mO ?_;(with_reducible refine (kU k _ _ l0 true _ ?side1 ?side2 A6.out).mono ?_)
    (case side1=>exact zF)
    (case side2=>exact HC0.out)
    rintro e w26 ⟨rfl,hb⟩;refine ⟨_,rfl,?_⟩;have n0_:=aK (cJ (g:=gb163) (o:= .cells #[.slice A1_0 l1_0.length c1_0,.int .i64 a1_1,.int .i64 a1_2,.int .i64 a1_3,.slice A1_4 l1_4.length c1_4] 27 (0,0)) bKa hb);have n1_:=aK (bG bEq hb);clear BK163;clear HB;have BK163:=n0_;have HB:=n1_;clear n0_ n1_;(try clear hb);(try clear hb2);(try clear hk);(try clear hi);refine hK.out _ _ (tO BK163.out) (fun hHeld=>?_);clear hK K;refine nS 11 ?_;refine kC 2 ?_;refine kC 3 ?_;refine kC 4 ?_;refine tS 5 15 (lA 45 63) rfl rfl (fV HT_.out HW_.out (by kernel_rfl)) hHeld xS ?_;refine rQ (i:=6) (N:=some 16) (lA 45 127) rfl rfl (mA HT_.out (by kernel_rfl)) (by decide) (fun K hK=>?_);refine pA Tryz.func129 (by kernel_rfl) rfl #[.int .i64 a1_1,.int .i64 0,.int .i64 40] (by rfl) rfl rfl mO ?_;(with_reducible refine (cZ a1_1 0 40 false _ A8.out).mono ?_);rintro e w' ⟨rfl,⟨nd,rfl⟩⟩;refine ⟨_,rfl,?_⟩;refine hK.out _ _ (tO BK163.out) (fun hHeld=>?_);clear hK K;refine nS 16 ?_;refine kC 7 ?_;refine kC 8 ?_;refine kC 9 ?_;refine mM 10 ?_;refine mM 11 ?_;refine mM 12 ?_;refine mM 13 ?_;refine mM 14 ?_;refine mM 15 ?_;refine kC 16 ?_;refine kC 17 ?_;refine mM 18 ?_;refine mM 19 ?_;refine mM 20 ?_;refine mM 21 ?_;refine mM 22 ?_;refine mM 23 ?_;refine kC 24 ?_;refine kC 25 ?_;refine mM 26 ?_;refine mM 27 ?_;refine mM 28 ?_;refine mM 29 ?_;refine mM 30 ?_;refine mM 31 ?_;refine mM 32 ?_;refine kC 33 ?_;refine kC 34 ?_;refine mM 35 ?_;refine mM 36 ?_;refine mM 37 ?_;refine mM 38 ?_;refine mM 39 ?_;refine mM 40 ?_;refine mM 41 ?_;refine mM 42 ?_;refine mM 43 ?_;refine kC 44 ?_;refine kX (rE HT_.out (by kernel_rfl)) ?_;try go_wp2
    go_meet
    case rel=>exact ⟨_,(true),kG,H',⟨by first|omega|exact bV _⟩,⟨by (with_reducible repeat (first|refine bU ?_ _|refine bW ?_|refine bT ?_ _));exact BK163.out⟩,⟨by repeat (first|(with_reducible first|exact HB.out|apply bI|apply bF|apply bH|refine bY ?_ GE163.out)|exact HB.out)⟩⟩
  ·replace c7 := Bool.eq_false_iff.mpr c7
   subst c7;rw [if_neg (show¬(false=true) by decide)] at H;have H':=aK H;clear H;try go_wp2
   have n0_:=aK (bW BK163.out);have n1_:=aK (bH HB.out);clear BK163;clear HB;have BK163:=n0_;have HB:=n1_;clear n0_ n1_;refine sT 45 (S:=fun w'=>True) (ds:=[]) gG (fun hHeld=>?_);refine nN mD kT (fun HT_ HW_=>?_);generalize w4.drew=w27 at BK163 HB hHeld ⊢;refine kC 0 ?_;refine rQ (i:=1) (N:=some 11) (lA 45 3) rfl rfl (mA HT_.out (by kernel_rfl)) (by decide) (fun K hK=>?_);refine pA Tryz.func145 (by kernel_rfl) rfl #[.slice A0 l0.length c0] (by rfl) rfl rfl mO ?_;(with_reducible refine (kU k _ _ l0 false _ ?side1 ?side2 A6.out).mono ?_)
   (case side1=>exact zF)
   (case side2=>exact HC0.out)
   rintro e w28 ⟨rfl,hb⟩;refine ⟨_,rfl,?_⟩;have n0_:=aK (cJ (g:=gb163) (o:= .cells #[.slice A1_0 l1_0.length c1_0,.int .i64 a1_1,.int .i64 a1_2,.int .i64 a1_3,.slice A1_4 l1_4.length c1_4] 27 (0,0)) bKa hb);have n1_:=aK (bG bEq hb);clear BK163;clear HB;have BK163:=n0_;have HB:=n1_;clear n0_ n1_;(try clear hb);(try clear hb2);(try clear hk);(try clear hi);refine hK.out _ _ gG (fun hHeld=>?_);clear hK K;refine nS 11 ?_;refine kC 2 ?_;refine kC 3 ?_;refine mM 4 ?_;refine mM 5 ?_;refine mM 6 ?_;refine mM 7 ?_;refine kC 8 ?_;refine kC 9 ?_;refine mM 10 ?_;refine mM 11 ?_;refine mM 12 ?_;refine mM 13 ?_;refine mM 14 ?_;refine mM 15 ?_;refine kC 16 ?_;refine kC 17 ?_;refine mM 18 ?_;refine mM 19 ?_;refine mM 20 ?_;refine mM 21 ?_;refine mM 22 ?_;refine mM 23 ?_;refine kC 24 ?_;refine kC 25 ?_;refine mM 26 ?_;refine mM 27 ?_;refine mM 28 ?_;refine mM 29 ?_;refine mM 30 ?_;refine mM 31 ?_;refine mM 32 ?_;refine kC 33 ?_;refine kC 34 ?_;refine mM 35 ?_;refine mM 36 ?_;refine mM 37 ?_;refine mM 38 ?_;refine mM 39 ?_;refine mM 40 ?_;refine mM 41 ?_;refine mM 42 ?_;refine mM 43 ?_;refine kC 44 ?_;refine kX (rE HT_.out (by kernel_rfl)) ?_;try go_wp2
   go_meet
   case rel=>exact ⟨_,(true),kG,H',⟨by first|omega|exact bV _⟩,⟨by (with_reducible repeat (first|refine bU ?_ _|refine bW ?_|refine bT ?_ _));exact BK163.out⟩,⟨by repeat (first|(with_reducible first|exact HB.out|apply bI|apply bF|apply bH|refine bY ?_ GE163.out)|exact HB.out)⟩⟩
 case rest =>
  clear HC3;(try clear c1);(try clear p2);(try clear c7);(try clear c9);(try clear c12);(try clear c14);obtain ⟨kq,x54_2,rfl,HA,HJ2,BK163,HB⟩:=hcut
  cases kq with
  |zero=>exact absurd HA.out (by simp [dI])
  | succ kj2 =>
   have H:=HA.out;clear HA;simp only [dI] at H;by_cases c29:x54_2=true
   ·subst c29
    rw [if_pos rfl] at H;obtain rfl:=bC H;go_wp2;go_ret;exact ⟨sL,bEq⟩
   ·replace c29 := Bool.eq_false_iff.mpr c29
    subst c29;rw [if_neg (show¬(false=true) by decide)] at H;have H':=aK H;clear H;go_wp2
    go_loopg [6] kj2 (fun kq v6 w'=> ∃(x6_2:Int),v6= .int .i64 x6_2∧Aside0 (fB kq (l1_0.length:Int) x6_2 l1_0 a1_1 a1_2 a1_3 l1_4=some r)∧Aside0 (kq≤kj2)∧Aside0 (w'.heap[gb163]? =some (.cells #[(.slice A1_0 l1_0.length c1_0),.int .i64 a1_1,.int .i64 a1_2,.int .i64 a1_3,(.slice A1_4 l1_4.length c1_4)] 27 (0,0)))∧Aside0 (Below w.heap.size w w'))
    case atStart=>exact ⟨(0),kG,H',⟨bV _⟩,⟨by (with_reducible repeat (first|refine bU ?_ _|refine bW ?_|refine bT ?_ _));exact BK163.out⟩,⟨by repeat (first|(with_reducible first|exact HB.out|apply bI|apply bF|apply bH|refine bY ?_ GE163.out)|exact HB.out)⟩⟩
    case round =>
     clear H';(try clear c1);(try clear c2);(try clear p2);(try clear c7);(try clear c9);(try clear c12);(try clear c14);(try clear c29);(try clear p2);obtain ⟨x6_2,rfl,HA,HK2,BK163,HB⟩:=hrel
     cases gk with
     |zero=>exact absurd HA.out (by simp [fB])
     | succ k2 =>
      have H:=HA.out;clear HA;simp only [fB] at H;by_cases c30:x6_2<(l1_0.length:Int)
      ·rw [if_pos c30] at H
       have c30b0:decide (x6_2<(l1_0.length:Int))=true:=bB c30
       clear c30;replace H:=Option.bind_eq_some_iff.mp H;obtain ⟨t170,A310,H⟩:=H;(try dsimp only at H);have A31:=aK A310;clear A310;by_cases c32:t170=true
       ·subst c32
        rw [if_pos rfl] at H;by_cases c33:0≤x6_2
        ·rw [if_pos c33] at H
         have c33b0:decide (0≤x6_2)=true:=bB c33
         clear c33;by_cases c34:x6_2<(l1_0.length:Int)
         ·rw [if_pos c34] at H
          have c34b0:decide (x6_2<(l1_0.length:Int))=true:=bB c34
          clear c34;by_cases c35:(rd l1_0 x6_2)=0
          ·rw [if_pos c35] at H
           have c35b0:((rd l1_0 x6_2)==0)=true:=beq_iff_eq.mpr c35
           have c35b1:((rd l1_0 x6_2) !=0)=false:=bne_eq_false_iff_eq.mpr c35
           clear c35;have H':=aK H;clear H;obtain ⟨hcz36_0,hcz36_1,hcz36_2,hcz36_3,hcz36_4,hfz36_0,hfz36_1,hfz36_2,hfz36_3,hfz36_4⟩:=mG BK163
           go_wp2_with (first|((with_reducible refine cD (f:=129) rfl ?_);refine dT (some 66) rfl rfl Tryz.func129 (by kernel_rfl) rfl #[.int .i64 x6_2,.int .i64 a1_2,.int .i64 (wrap64 (a1_1 - 1))] rfl mO ?_;(with_reducible refine (cZ x6_2 a1_2 (wrap64 (a1_1 - 1)) true _ A31.out).mono ?_);rintro e w' ⟨rfl,⟨nd,rfl⟩⟩;refine ⟨_,rfl,?_⟩;have p171:0≤(x6_2:Int):=bA fU;have q171:x6_2<(l1_0.length:Int):=bA fU;obtain ⟨ad171,e171,hx171_0⟩:=dA HR1_0.out x6_2 p171 q171;cases e171;replace hx171_0:=(HB.out.cell (bE w _ hx171_0)).trans hx171_0;replace p171:=bL p171;replace q171:=bL q171))
           go_roundg k2
           case measure=>have:=HJ2.out;have:=HK2.out;omega
           case rel=>exact ⟨(wrap64 (x6_2+1)),kG,H',⟨by have:=HJ2.out;have:=HK2.out;omega⟩,⟨by (with_reducible repeat (first|refine bU ?_ _|refine bW ?_|refine bT ?_ _));exact BK163.out⟩,⟨by repeat (first|(with_reducible first|exact HB.out|apply bI|apply bF|apply bH|refine bY ?_ GE163.out)|exact HB.out)⟩⟩
          ·rw [if_neg c35] at H
           have c35b0:((rd l1_0 x6_2)==0)=false:=tP.mpr c35
           have c35b1:((rd l1_0 x6_2) !=0)=true:=bne_iff_ne.mpr c35
           obtain rfl:=bC H;obtain ⟨hcz37_0,hcz37_1,hcz37_2,hcz37_3,hcz37_4,hfz37_0,hfz37_1,hfz37_2,hfz37_3,hfz37_4⟩:=mG BK163
           go_wp2_with (first|((with_reducible refine cD (f:=129) rfl ?_);refine dT (some 66) rfl rfl Tryz.func129 (by kernel_rfl) rfl #[.int .i64 x6_2,.int .i64 a1_2,.int .i64 (wrap64 (a1_1 - 1))] rfl mO ?_;(with_reducible refine (cZ x6_2 a1_2 (wrap64 (a1_1 - 1)) true _ A31.out).mono ?_);rintro e w' ⟨rfl,⟨nd,rfl⟩⟩;refine ⟨_,rfl,?_⟩;have p171:0≤(x6_2:Int):=bA fU;have q171:x6_2<(l1_0.length:Int):=bA fU;obtain ⟨ad171,e171,hx171_0⟩:=dA HR1_0.out x6_2 p171 q171;cases e171;replace hx171_0:=(HB.out.cell (bE w _ hx171_0)).trans hx171_0;replace p171:=bL p171;replace q171:=bL q171))
           go_ret;exact ⟨sL,bEq⟩
         ·rw [if_neg c34] at H
          exact absurd H (by simp)
        ·rw [if_neg c33] at H
         exact absurd H (by simp)
       ·replace c32 := Bool.eq_false_iff.mpr c32
        subst c32;rw [if_neg (show¬(false=true) by decide)] at H;by_cases c38:x6_2≥a1_3
        ·rw [if_pos c38] at H
         have c38b0:decide (a1_3≤x6_2)=true:=bB c38
         clear c38;by_cases c39:0≤x6_2
         ·rw [if_pos c39] at H
          have c39b0:decide (0≤x6_2)=true:=bB c39
          clear c39;by_cases c40:x6_2<(l1_0.length:Int)
          ·rw [if_pos c40] at H
           have c40b0:decide (x6_2<(l1_0.length:Int))=true:=bB c40
           clear c40;by_cases c41:(rd l1_0 x6_2)=0
           ·rw [if_pos c41] at H
            have c41b0:((rd l1_0 x6_2)==0)=true:=beq_iff_eq.mpr c41
            have c41b1:((rd l1_0 x6_2) !=0)=false:=bne_eq_false_iff_eq.mpr c41
            clear c41;have H':=aK H;clear H;obtain ⟨hcz42_0,hcz42_1,hcz42_2,hcz42_3,hcz42_4,hfz42_0,hfz42_1,hfz42_2,hfz42_3,hfz42_4⟩:=mG BK163
            go_wp2_with (first|((with_reducible refine cD (f:=129) rfl ?_);refine dT (some 66) rfl rfl Tryz.func129 (by kernel_rfl) rfl #[.int .i64 x6_2,.int .i64 a1_2,.int .i64 (wrap64 (a1_1 - 1))] rfl mO ?_;(with_reducible refine (cZ x6_2 a1_2 (wrap64 (a1_1 - 1)) false _ A31.out).mono ?_);rintro e w' ⟨rfl,⟨nd,rfl⟩⟩;refine ⟨_,rfl,?_⟩;have p172:0≤(x6_2:Int):=bA fU;have q172:x6_2<(l1_0.length:Int):=bA fU;obtain ⟨ad172,e172,hx172_0⟩:=dA HR1_0.out x6_2 p172 q172;cases e172;replace hx172_0:=(HB.out.cell (bE w _ hx172_0)).trans hx172_0;replace p172:=bL p172;replace q172:=bL q172))
            go_roundg k2
            case measure=>have:=HJ2.out;have:=HK2.out;omega
            case rel=>exact ⟨(wrap64 (x6_2+1)),kG,H',⟨by have:=HJ2.out;have:=HK2.out;omega⟩,⟨by (with_reducible repeat (first|refine bU ?_ _|refine bW ?_|refine bT ?_ _));exact BK163.out⟩,⟨by repeat (first|(with_reducible first|exact HB.out|apply bI|apply bF|apply bH|refine bY ?_ GE163.out)|exact HB.out)⟩⟩
           ·rw [if_neg c41] at H
            have c41b0:((rd l1_0 x6_2)==0)=false:=tP.mpr c41
            have c41b1:((rd l1_0 x6_2) !=0)=true:=bne_iff_ne.mpr c41
            obtain rfl:=bC H;obtain ⟨hcz43_0,hcz43_1,hcz43_2,hcz43_3,hcz43_4,hfz43_0,hfz43_1,hfz43_2,hfz43_3,hfz43_4⟩:=mG BK163
            go_wp2_with (first|((with_reducible refine cD (f:=129) rfl ?_);refine dT (some 66) rfl rfl Tryz.func129 (by kernel_rfl) rfl #[.int .i64 x6_2,.int .i64 a1_2,.int .i64 (wrap64 (a1_1 - 1))] rfl mO ?_;(with_reducible refine (cZ x6_2 a1_2 (wrap64 (a1_1 - 1)) false _ A31.out).mono ?_);rintro e w' ⟨rfl,⟨nd,rfl⟩⟩;refine ⟨_,rfl,?_⟩;have p172:0≤(x6_2:Int):=bA fU;have q172:x6_2<(l1_0.length:Int):=bA fU;obtain ⟨ad172,e172,hx172_0⟩:=dA HR1_0.out x6_2 p172 q172;cases e172;replace hx172_0:=(HB.out.cell (bE w _ hx172_0)).trans hx172_0;replace p172:=bL p172;replace q172:=bL q172))
            go_ret;exact ⟨sL,bEq⟩
          ·rw [if_neg c40] at H
           exact absurd H (by simp)
         ·rw [if_neg c39] at H
          exact absurd H (by simp)
        ·rw [if_neg c38] at H
         have c38b0:decide (a1_3≤x6_2)=false:=bJ c38
         clear c38;have H':=aK H;clear H;obtain ⟨hcz44_0,hcz44_1,hcz44_2,hcz44_3,hcz44_4,hfz44_0,hfz44_1,hfz44_2,hfz44_3,hfz44_4⟩:=mG BK163
         go_wp2_with (first|((with_reducible refine cD (f:=129) rfl ?_);refine dT (some 66) rfl rfl Tryz.func129 (by kernel_rfl) rfl #[.int .i64 x6_2,.int .i64 a1_2,.int .i64 (wrap64 (a1_1 - 1))] rfl mO ?_;(with_reducible refine (cZ x6_2 a1_2 (wrap64 (a1_1 - 1)) false _ A31.out).mono ?_);rintro e w' ⟨rfl,⟨nd,rfl⟩⟩;refine ⟨_,rfl,?_⟩))
         go_roundg k2
         case measure=>have:=HJ2.out;have:=HK2.out;omega
         case rel=>exact ⟨(wrap64 (x6_2+1)),kG,H',⟨by have:=HJ2.out;have:=HK2.out;omega⟩,⟨by (with_reducible repeat (first|refine bU ?_ _|refine bW ?_|refine bT ?_ _));exact BK163.out⟩,⟨by repeat (first|(with_reducible first|exact HB.out|apply bI|apply bF|apply bH|refine bY ?_ GE163.out)|exact HB.out)⟩⟩
      ·rw [if_neg c30] at H
       have c30b0:decide (x6_2<(l1_0.length:Int))=false:=bJ c30
       clear c30;obtain rfl:=bC H;go_wp2;go_ret;exact ⟨sL,bEq⟩
end Go.Proofs.YtbaklikaoleplaaGreat.K
namespace Go.Proofs.YtbaklikaoleplaaGreat.K
open Go.RowKit Go.Proofs.YtbaklikaoleplaaGreatW.PrintWords Go.Proofs.YtbaklikaoleplaaGreatW.PrintLast Go.Proofs.YtbaklikaoleplaaGreatW.PrintMore
attribute [local go_sem] gV gT jT jS fY fX gU gR
set_option linter.unusedVariables false
set_option linter.unusedSimpArgs false
def jH (a0:Int):Option (Int):=if a0<0 then (some 2) else (some 1)
theorem vO (a0:Int) (r:Int) (w:World) (h:jH a0=some r):
  Calls Tryz.prog 142 #[.int .i64 a0] w fun e w'=>e= .returned (.int .i64 r)∧Drawn0 w w':=by
 have H:(if a0<0 then (some 2) else (some 1))=some r:=h
 clear h;by_cases c2:a0<0
 ·rw [if_pos c2] at H
  have c2b0:decide (a0<0)=true:=bB c2
  clear c2;obtain rfl:=bC H;go_enter Tryz.func142,Tryz.ntmps142;go_wp2;go_ret;exact ⟨kG,nP⟩
 ·rw [if_neg c2] at H
  have c2b0:decide (a0<0)=false:=bJ c2
  clear c2;obtain rfl:=bC H;go_enter Tryz.func142,Tryz.ntmps142;go_wp2;go_ret;exact ⟨kG,nP⟩
end Go.Proofs.YtbaklikaoleplaaGreat.K
namespace Go.Proofs.YtbaklikaoleplaaGreat.K
open Go.RowKit Go.Proofs.YtbaklikaoleplaaGreatW.PrintWords Go.Proofs.YtbaklikaoleplaaGreatW.PrintLast Go.Proofs.YtbaklikaoleplaaGreatW.PrintMore
attribute [local go_sem] gV gT jT jS fY fX gU gR
set_option linter.unusedVariables false
set_option linter.unusedSimpArgs false
def rA (a0:Int):Option (Bool):=(fC a0 (-128) 127).bind fun t188=>(some t188)
theorem bBh (a0:Int) (r:Bool) (w:World) (h:rA a0=some r):
  Calls Tryz.prog 147 #[.int .i64 a0] w fun e w'=>e= .returned (.bool r)∧Drawn0 w w':=by
 have H:((fC a0 (-128) 127).bind fun t188=>(some t188))=some r:=h
 clear h;replace H:=Option.bind_eq_some_iff.mp H;obtain ⟨t188,A20,H⟩:=H;(try dsimp only at H);have A2:=aK A20;clear A20;obtain rfl:=bC H;go_enter Tryz.func147,Tryz.ntmps147
 go_wp2_with (first|((with_reducible refine cD (f:=129) rfl ?_);refine dT (some 4) rfl rfl Tryz.func129 (by kernel_rfl) rfl #[.int .i64 a0,.int .i64 (-128),.int .i64 127] rfl mO ?_;(with_reducible refine (cZ a0 (-128) 127 t188 _ A2.out).mono ?_);rintro e w' ⟨rfl,⟨nd,rfl⟩⟩;refine ⟨_,rfl,?_⟩))
 go_ret;exact ⟨kG,nP⟩
end Go.Proofs.YtbaklikaoleplaaGreat.K
namespace Go.Proofs.YtbaklikaoleplaaGreat.K
open Go.RowKit Go.Proofs.YtbaklikaoleplaaGreatW.PrintWords Go.Proofs.YtbaklikaoleplaaGreatW.PrintLast Go.Proofs.YtbaklikaoleplaaGreatW.PrintMore
attribute [local go_sem] gV gT jT jS fY fX gU gR
set_option linter.unusedVariables false
set_option linter.unusedSimpArgs false
def nE (l0:List Bool) (a1:Int):Option (Bool):=if a1=0 then (some true) else ((fC a1 1 (l0.length:Int)).bind fun t173=>(if t173=true then (if 0≤(wrap64 (a1 - 1)) then (if (wrap64 (a1 - 1))<(l0.length:Int) then (some (fW false l0 (wrap64 (a1 - 1)))) else (none)) else (none)) else (some false)))
theorem pP (A0:Option Addr) (c0:Nat) (l0:List Bool) (a1:Int) (r:Bool) (w:World) (hr0:Kd.C Kd.bool w A0 l0.length l0) (hc0:l0.length≤c0) (h:nE l0 a1=some r):
  Calls Tryz.prog 80 #[.slice A0 l0.length c0,.int .i64 a1] w fun e w'=>e= .returned (.bool r)∧Drawn0 w w':=by
 have HR0:=aK hr0;have HC0:=aK hc0;clear hr0 hc0;have H:(if a1=0 then (some true) else ((fC a1 1 (l0.length:Int)).bind fun t173=>(if t173=true then (if 0≤(wrap64 (a1 - 1)) then (if (wrap64 (a1 - 1))<(l0.length:Int) then (some (fW false l0 (wrap64 (a1 - 1)))) else (none)) else (none)) else (some false))))=some r:=h
 clear h;by_cases c3:a1=0
 ·rw [if_pos c3] at H
  have c3b0:(a1==0)=true:=beq_iff_eq.mpr c3
  have c3b1:(a1 !=0)=false:=bne_eq_false_iff_eq.mpr c3
  clear c3;obtain rfl:=bC H;go_enter Tryz.func80,Tryz.ntmps80;go_wp2;go_ret;exact ⟨kG,nP⟩
 ·rw [if_neg c3] at H
  have c3b0:(a1==0)=false:=tP.mpr c3
  have c3b1:(a1 !=0)=true:=bne_iff_ne.mpr c3
  replace H:=Option.bind_eq_some_iff.mp H;obtain ⟨t173,A40,H⟩:=H;(try dsimp only at H);have A4:=aK A40;clear A40;by_cases c5:t173=true
  ·subst c5
   rw [if_pos rfl] at H;obtain ⟨ji6,hji6⟩: ∃j_:Int,(wrap64 (a1 - 1))=j_:=⟨_,rfl⟩;replace H:(if 0≤(ji6) then (if (ji6)<(l0.length:Int) then (some (fW false l0 (ji6))) else (none)) else (none))=some r:=by first|(rw [hji6] at H;exact H)|(simp only [hji6] at H ⊢;exact H)
   (try rw [hji6] at A4)
   have hji6w:(IntKind.i64.wrap (a1 - 1))=ji6:=(mC _).trans hji6
   by_cases c7:0≤(ji6)
   ·rw [if_pos c7] at H
    have c7b0:decide (0≤(ji6))=true:=bB c7
    clear c7;by_cases c8:(ji6)<(l0.length:Int)
    ·rw [if_pos c8] at H
     have c8b0:decide ((ji6)<(l0.length:Int))=true:=bB c8
     clear c8;obtain rfl:=bC H;go_enter Tryz.func80,Tryz.ntmps80
     go_wp2_with (first|(go_at_call 129;(with_reducible refine (cZ a1 1 (l0.length:Int) true _ A4.out).mono ?_);rintro e w' ⟨rfl,⟨nd,rfl⟩⟩;have p174:0≤((ji6):Int):=bA fU;have q174:(ji6)<(l0.length:Int):=bA fU;obtain ⟨ad174,e174,hx174_0⟩:=gQ HR0.out (ji6) p174 q174;cases e174;replace p174:=bL p174;replace q174:=bL q174))
     go_ret;exact ⟨(by first|rfl|(simp;done)|(simp only [←hji6]<;>(first|rfl|simp))|(simp [*];done)),nP⟩
    ·rw [if_neg c8] at H
     exact absurd H (by simp)
   ·rw [if_neg c7] at H
    exact absurd H (by simp)
  ·replace c5 := Bool.eq_false_iff.mpr c5
   subst c5;rw [if_neg (show¬(false=true) by decide)] at H;obtain rfl:=bC H;go_enter Tryz.func80,Tryz.ntmps80
   go_wp2_with (first|(go_at_call 129;(with_reducible refine (cZ a1 1 (l0.length:Int) false _ A4.out).mono ?_);rintro e w' ⟨rfl,⟨nd,rfl⟩⟩))
   go_ret;exact ⟨kG,nP⟩
end Go.Proofs.YtbaklikaoleplaaGreat.K
namespace Go.Proofs.YtbaklikaoleplaaGreat.K
open Go.RowKit Go.Proofs.YtbaklikaoleplaaGreatW.PrintWords Go.Proofs.YtbaklikaoleplaaGreatW.PrintLast Go.Proofs.YtbaklikaoleplaaGreatW.PrintMore
attribute [local go_sem] gV gT jT jS fY fX gU gR
set_option linter.unusedVariables false
set_option linter.unusedSimpArgs false
def jE:Nat→List (S78)→Int→Option (List Int)
  |0,_,_=>none
  |k+1,l0,a1=>if a1=0 then (some (([]:List Int))) else (if 0≤a1 then (if a1<(l0.length:Int) then ((jE k l0 ((bX l0 a1).f0)).bind fun t112=>(if t112.length+((bX l0 a1).f1).length<17592186044416 then (some (t112++((bX l0 a1).f1))) else (none))) else (none)) else (none))
def spec_l2Fields.T3:Bool×List (List Nat×List Nat):=(true,[([],[]),([],[]),([],[]),([1,2],[1,2]),([3],[3]),([4],[4]),([0,5],[0,5]),([],[]),([],[]),([7,8],[7,8]),([9],[9]),([10],[10]),([6,11,6],[6,11]),([12,12,0,1,2,3,4,5,6,7,8,9,10,11,12],[12])])
def spec_l2Fields.B3:List Nat:=[0,0,0,6,14,30,63,0,0,384,896,1920,4095,8191]
theorem bAr:sK .any (bHa Tryz.f130 3)=spec_l2Fields.T3:=by kernel_rfl
theorem bAf:vE spec_l2Fields.T3.2 spec_l2Fields.B3=true:=by kernel_rfl
theorem qY (k:Nat): ∀(A0:Option Addr) (c0:Nat) (l0:List (S78)) (a1:Int) (r:List Int) (w:World) (hr0:Kd.C yD w A0 l0.length l0) (hc0:l0.length≤c0) (h:jE k l0 a1=some r),
  Calls Tryz.prog 130 #[.slice A0 l0.length c0,.int .i64 a1] w fun e w'=> ∃v0_:Value,e= .returned (v0_)∧Kd.R (Kd.int .i64) 3 w' w.heap.size (fun _=>True) v0_ r∧Below w.heap.size w w':=by
 induction k using Nat.strongRecOn with
 |_ k ih=>
 intro A0 c0 l0 a1 r w hr0 hc0 h
 cases k with
 |zero=>exact absurd h (by simp [jE])
 |succ k=>
 simp only [jE] at h;have HR0:=aK hr0;have HC0:=aK hc0;clear hr0 hc0;have HB:=aK (bQ w.heap.size w);have H:(if a1=0 then (some (([]:List Int))) else (if 0≤a1 then (if a1<(l0.length:Int) then ((jE k l0 ((bX l0 a1).f0)).bind fun t112=>(if t112.length+((bX l0 a1).f1).length<17592186044416 then (some (t112++((bX l0 a1).f1))) else (none))) else (none)) else (none)))=some r:=h
 clear h;by_cases c3:a1=0
 ·rw [if_pos c3] at H
  have c3b0:(a1==0)=true:=beq_iff_eq.mpr c3
  have c3b1:(a1 !=0)=false:=bne_eq_false_iff_eq.mpr c3
  clear c3;obtain ⟨y108,hy108⟩: ∃y_:List Int,y_=(([]:List Int)):=⟨_,rfl⟩;replace H:(some y108)=some r:=by first|(rw [hy108];with_reducible exact H)|(have H2_:=(bD _ _).symm.trans H;rw [hy108];with_reducible exact H2_)|(have H2_:=(bD _ _).symm.trans H;with_reducible exact H2_)|with_reducible exact H|(rw [hy108];exact H)|exact H
  have Ny108:=aK hy108;clear hy108;obtain rfl:=bC H;go_enter Tryz.func130,Tryz.ntmps130
  go_wp2_with (first|((with_reducible refine dG (N:=7) rfl ?_);refine Kd.R_lit (Kd.int .i64) _ 3 ?hg (N:=7) ?hd (xs:=([]:List Int)) (inner:=[]) (ok:=fun _=>True) (okp:=fun _=>True) ?hr ?hp (fun _ hk=>hk) gG (bQ _ _) (bV _) (by simp) ?_;(case hd=>rfl);(case hg=>rfl);(case hr=>first|(go_simp;done)|(go_simp;rfl));(case hp=>exact (pB.none _ _));intro v109 w4 ho5 hb hg_ hnew_;clear hg_ hnew_;(first|rw [←Ny108.out] at ho5|(simp only [Int.reduceToNat] at ho5;rw [←Ny108.out] at ho5));have HO110:=aK (dR ho5 (bN jR));replace HB:=aK (bG jR hb);clear hb ho5))
  go_ret;exact ⟨_,by first|rfl|(simp [dF,dE]<;>rfl)|(simp [*,dF,dE]<;>rfl),by (with_reducible repeat (first|apply Kd.R_alloc|apply bZ|apply cE));exact HO110.out,by repeat (first|(with_reducible first|exact HB.out|apply bI|apply bF|apply bH)|exact HB.out)⟩
 ·rw [if_neg c3] at H
  have c3b0:(a1==0)=false:=tP.mpr c3
  have c3b1:(a1 !=0)=true:=bne_iff_ne.mpr c3
  by_cases c6:0≤a1
  ·rw [if_pos c6] at H
   have c6b0:decide (0≤a1)=true:=bB c6
   clear c6;by_cases c7:a1<(l0.length:Int)
   ·rw [if_pos c7] at H
    have c7b0:decide (a1<(l0.length:Int))=true:=bB c7
    clear c7;replace H:=Option.bind_eq_some_iff.mp H;obtain ⟨t112,A80,H⟩:=H;(try dsimp only at H);have A8:=aK A80;clear A80;by_cases c9:t112.length+((bX l0 a1).f1).length<17592186044416
    ·rw [if_pos c9] at H
     have LMc9:=aK c9;clear c9;obtain ⟨y116,hy116⟩: ∃y_:List Int,y_=(t112++((bX l0 a1).f1)):=⟨_,rfl⟩;replace H:(some y116)=some r:=by first|(rw [hy116];with_reducible exact H)|(have H2_:=(bD _ _).symm.trans H;rw [hy116];with_reducible exact H2_)|(have H2_:=(bD _ _).symm.trans H;with_reducible exact H2_)|with_reducible exact H|(rw [hy116];exact H)|exact H
     have Ny116:=aK hy116;clear hy116;obtain rfl:=bC H;go_enter Tryz.func130,Tryz.ntmps130;try go_wp2
     have n0_:=aK (bH HB.out);clear HB;have HB:=n0_;clear n0_;have p111:0≤(a1:Int):=bA fU
     have q111:a1<(l0.length:Int):=bA fU
     obtain ⟨ad111,A111_1,c111_1,e111,hx111_0,hx111_1,hl111_1,hi111_1⟩:=sF HR0.out a1 p111 q111;have hw111_1:=hx111_1;have hw111_0:=hx111_0
     cases e111
     replace hx111_0:=(HB.out.cell (bE w _ hx111_0)).trans hx111_0;replace hx111_1:=(HB.out.cell (bE w _ hx111_1)).trans hx111_1;have HR111_1:=aK hi111_1;have HC111_1:=aK hl111_1;clear hi111_1 hl111_1;replace p111:=bL p111;replace q111:=bL q111;have p115:0≤(a1:Int):=bA fU
     have q115:a1<(l0.length:Int):=bA fU
     obtain ⟨ad115,A115_1,c115_1,e115,hx115_0,hx115_1,hl115_1,hi115_1⟩:=sF HR0.out a1 p115 q115;have hw115_1:=hx115_1;have hw115_0:=hx115_0;obtain rfl:ad111=ad115:=(by injection e115);replace hx115_0:=(HB.out.cell (bE w _ hx115_0)).trans hx115_0;replace hx115_1:=(HB.out.cell (bE w _ hx115_1)).trans hx115_1;have HR115_1:=aK hi115_1;have HC115_1:=aK hl115_1;clear hi115_1 hl115_1;replace p115:=bL p115;replace q115:=bL q115;have ea_:=bC (hx111_1.symm.trans hx115_1);injection ea_ with ea_ en_ ec_;subst ea_;subst ec_;clear en_;refine sT 14 (S:=fun w'=>w'.cell? (ad111.add ((a1).toNat*2))=some (.int .i64 ((bX l0 a1).f0))∧w'.cell? ⟨(ad111.add ((a1).toNat*2)).block,(ad111.add ((a1).toNat*2)).off+1,none⟩=some (.slice A111_1 ((bX l0 a1).f1).length c111_1)∧w'.cell? (ad111.add ((a1).toNat*2))=some (.int .i64 ((bX l0 a1).f0))∧w'.cell? ⟨(ad111.add ((a1).toNat*2)).block,(ad111.add ((a1).toNat*2)).off+1,none⟩=some (.slice A111_1 ((bX l0 a1).f1).length c111_1)) (ds:=[]) ⟨((HB.out.cell (bE w _ hw111_0)).trans hw111_0),((HB.out.cell (bE w _ hw111_1)).trans hw111_1),((HB.out.cell (bE w _ hw115_0)).trans hw115_0),((HB.out.cell (bE w _ hw115_1)).trans hw115_1)⟩ (fun hHeld=>?_);refine nN bAr bAf (fun HT_ HW_=>?_);generalize w.drew=w10 at HB HR111_1 HR115_1 hx111_0 hx111_1 hx115_0 hx115_1 hHeld ⊢;refine kC 0 ?_;refine kC 1 ?_;refine kC 2 ?_;refine kC 3 ?_;refine kC 4 ?_;refine kC 7 ?_;refine kC 8 ?_;refine kC 9 ?_;refine kC 10 ?_;refine tS 5 13 (lA 14 1983) rfl rfl (fV HT_.out HW_.out (by kernel_rfl)) hHeld yL ?_;refine tS 11 19 (lA 14 4031) rfl rfl (fV HT_.out HW_.out (by kernel_rfl)) hHeld yL ?_;refine rQ (i:=6) (N:=some 14) (lA 14 4095) rfl rfl (mA HT_.out (by kernel_rfl)) (by decide) (fun K hK=>?_);refine pA Tryz.func130 (by kernel_rfl) rfl #[.slice (some ad111) l0.length c0,.int .i64 ((bX l0 a1).f0)] (by rfl) rfl rfl mO ?_;(with_reducible refine (ih k (by omega) _ _ l0 ((bX l0 a1).f0) t112 _ ?side1 ?side2 A8.out).mono ?_)
     (case side1=>exact zF)
     (case side2=>exact HC0.out)
     rintro e w11 ⟨v113,rfl,ho0,hb⟩;refine ⟨_,rfl,?_⟩;have n0_:=aK (dR ho0 (bN jR));have n1_:=aK (bG jR hb);clear HB;have HO114:=n0_;have HB:=n1_;clear n0_ n1_;(try clear hb);(try clear hb2);(try clear hk);(try clear hi);(try clear ho0);refine hK.out _ _ ⟨((HB.out.cell (bE w _ hw111_0)).trans hw111_0),((HB.out.cell (bE w _ hw111_1)).trans hw111_1),((HB.out.cell (bE w _ hw115_0)).trans hw115_0),((HB.out.cell (bE w _ hw115_1)).trans hw115_1)⟩ (fun hHeld=>?_);clear hK K;refine nS 14 ?_;refine rQ (i:=12) (N:=some 20) (lA 14 8191) rfl rfl (mA HT_.out (by kernel_rfl)) (by decide) (fun K hK=>?_);refine Kd.R_append_rows_step (Kd.int .i64) (w0:=w) w.heap.size (by rfl) (.tmp 14) (.tmp 19) 24 3 (.int .i64 0) 8 rfl Tryz.underlying24 tB rfl (by decide) (by omega) v113 t112 ((bX l0 a1).f1) _ _ _ (fun _=>True) (fun _=>False) rfl rfl ?aO ?aR (fun _ _ h=>h) (fun _ h=>h.elim) ?aF ?aB ?aS ?aL ?_
     (case aR=>repeat (first|exact (bS HR115_1.out HB.out)|(with_reducible refine Kd.C_alloc ?_ _)|(with_reducible refine Kd.C_drewN ?_ _)|(with_reducible refine Kd.C_drew ?_)))
     (case aB=>exact jR)
     (case aF=>exact (fun _ _=>trivial))
     (case aO=>exact (by (with_reducible repeat (first|apply Kd.R_alloc|apply bZ|apply cE));exact HO114.out))
     (case aS=>exact (bN jR))
     (case aL=>have:=LMc9.out;omega)
     intro v117 w12 ho hb hg hat;rw [←Ny116.out] at ho;have n0_:=aK (hb);have n1_:=aK (ho);clear HB;clear HO114;have HB:=n0_;have HO118:=n1_;clear n0_ n1_;clear ho hb hg hat;refine hK.out _ _ ⟨((HB.out.cell (bE w _ hw111_0)).trans hw111_0),((HB.out.cell (bE w _ hw111_1)).trans hw111_1),((HB.out.cell (bE w _ hw115_0)).trans hw115_0),((HB.out.cell (bE w _ hw115_1)).trans hw115_1)⟩ (fun hHeld=>?_);clear hK K;refine nS 20 ?_;refine kC 13 ?_;refine kX (rE HT_.out (by kernel_rfl)) ?_;try go_wp2
     go_ret;exact ⟨_,by first|rfl|(simp [dF,dE]<;>rfl)|(simp [*,dF,dE]<;>rfl),by (with_reducible repeat (first|apply Kd.R_alloc|apply bZ|apply cE));exact HO118.out,by repeat (first|(with_reducible first|exact HB.out|apply bI|apply bF|apply bH)|exact HB.out)⟩
    ·rw [if_neg c9] at H
     exact absurd H (by simp)
   ·rw [if_neg c7] at H
    exact absurd H (by simp)
  ·rw [if_neg c6] at H
   exact absurd H (by simp)
end Go.Proofs.YtbaklikaoleplaaGreat.K
namespace Go.Proofs.YtbaklikaoleplaaGreat.K
open Go.RowKit Go.Proofs.YtbaklikaoleplaaGreatW.PrintWords Go.Proofs.YtbaklikaoleplaaGreatW.PrintLast Go.Proofs.YtbaklikaoleplaaGreatW.PrintMore
attribute [local go_sem] gV gT jT jS fY fX gU gR
set_option linter.unusedVariables false
set_option linter.unusedSimpArgs false
mutual
def kQ:Nat→List Int→Int→Int→Int→Bool→Option (Int)
 |0,_,_,_,_,_=>none
 |k+1,x1,x2,x3,x9,x30=>if x30=true then (if (wrap64 (x2+1))≥x3 then (mE k x1 x2 x3 true) else (if 0≤(wrap64 (x2+1)) then (if (wrap64 (x2+1))<(x1.length:Int) then ((fC (rd x1 (wrap64 (x2+1))) 0 6).bind fun t128=>(mE k x1 x2 x3 (!t128))) else (none)) else (none))) else (if (wrap64 (x2+x9))>x3 then (some 0) else (some x9))
def mE:Nat→List Int→Int→Int→Bool→Option (Int)
 |0,_,_,_,_=>none
 |k+1,x1,x2,x3,x55=>if x55=true then (some 0) else (if 0≤(wrap64 (x2+1)) then (if (wrap64 (x2+1))<(x1.length:Int) then (if (wrap64 (x2+(wrap64 (2+(rd x1 (wrap64 (x2+1)))))))>x3 then (some 0) else (some (wrap64 (2+(rd x1 (wrap64 (x2+1))))))) else (none)) else (none))
end
def kN (k:Nat) (l0:List (S78)) (l1:List Int) (a2:Int) (a3:Int):Option (Int):=if a2≥a3 then (some 0) else (if 0≤a2 then (if a2<(l1.length:Int) then ((fC (rd l1 a2) 0 (wrap64 ((l0.length:Int) - 1))).bind fun t120=>(if t120=true then ((jE k l0 (rd l1 a2)).bind fun t122=>(if (wrap64 (a2+(wrap64 (1+(t122.length:Int)))))>a3 then (some 0) else (some (wrap64 (1+(t122.length:Int)))))) else (if (rd l1 a2)=(-1) then (kQ k l1 a2 a3 0 true) else (kQ k l1 a2 a3 0 ((rd l1 a2)==(-2)))))) else (none)) else (none))
theorem rH (k : Nat) (A0 : Option Addr) (c0 : Nat) (l0 : List (S78)) (A1 : Option Addr) (c1 : Nat) (l1 : List Int) (a2 : Int) (a3 : Int) (r : Int) (w : World) (hr0 : Kd.C yD w A0 l0.length l0) (hc0 : l0.length ≤ c0) (hr1 : Kd.C (Kd.int .i64) w A1 l1.length l1) (hc1 : l1.length ≤ c1) (h : kN k l0 l1 a2 a3 = some r) :
  Calls Tryz.prog 85 #[.slice A0 l0.length c0,.slice A1 l1.length c1,.int .i64 a2,.int .i64 a3] w fun e w'=>e= .returned (.int .i64 r)∧Below w.heap.size w w':=by
 have HR0:=aK hr0;have HC0:=aK hc0;clear hr0 hc0;have HR1:=aK hr1;have HC1:=aK hc1;clear hr1 hc1;have HB:=aK (bQ w.heap.size w);have H:(if a2≥a3 then (some 0) else (if 0≤a2 then (if a2<(l1.length:Int) then ((fC (rd l1 a2) 0 (wrap64 ((l0.length:Int) - 1))).bind fun t120=>(if t120=true then ((jE k l0 (rd l1 a2)).bind fun t122=>(if (wrap64 (a2+(wrap64 (1+(t122.length:Int)))))>a3 then (some 0) else (some (wrap64 (1+(t122.length:Int)))))) else (if (rd l1 a2)=(-1) then (kQ k l1 a2 a3 0 true) else (kQ k l1 a2 a3 0 ((rd l1 a2)==(-2)))))) else (none)) else (none)))=some r:=h
 clear h;by_cases c5:a2≥a3
 ·rw [if_pos c5] at H
  have c5b0:decide (a3≤a2)=true:=bB c5
  clear c5;obtain rfl:=bC H;go_enter Tryz.func85,Tryz.ntmps85;go_wp2;go_ret;exact ⟨sL,jR⟩
 ·rw [if_neg c5] at H
  have c5b0:decide (a3≤a2)=false:=bJ c5
  clear c5;by_cases c6:0≤a2
  ·rw [if_pos c6] at H
   have c6b0:decide (0≤a2)=true:=bB c6
   clear c6;by_cases c7:a2<(l1.length:Int)
   ·rw [if_pos c7] at H
    have c7b0:decide (a2<(l1.length:Int))=true:=bB c7
    clear c7;replace H:=Option.bind_eq_some_iff.mp H;obtain ⟨t120,A80,H⟩:=H;(try dsimp only at H);have A8:=aK A80;clear A80;by_cases c9:t120=true
    ·subst c9
     rw [if_pos rfl] at H;replace H:=Option.bind_eq_some_iff.mp H;obtain ⟨t122,A100,H⟩:=H;(try dsimp only at H);have A10:=aK A100;clear A100;by_cases c11:(wrap64 (a2+(wrap64 (1+(t122.length:Int)))))>a3
     ·rw [if_pos c11] at H
      have c11b0:decide (a3<(wrap64 (a2+(wrap64 (1+(t122.length:Int))))))=true:=bB c11
      clear c11;obtain rfl:=bC H;have p119:0≤(a2:Int):=bA fU
      have q119:a2<(l1.length:Int):=bA fU
      obtain ⟨ad119,e119,hx119_0⟩:=dA HR1.out a2 p119 q119
      cases e119
      replace p119:=bL p119;replace q119:=bL q119;go_enter Tryz.func85,Tryz.ntmps85
      go_wp2_with (first|((with_reducible refine cD (f:=129) rfl ?_);refine dT (some 21) rfl rfl Tryz.func129 (by kernel_rfl) rfl #[.int .i64 (rd l1 a2),.int .i64 0,.int .i64 (wrap64 ((l0.length:Int) - 1))] rfl mO ?_;(with_reducible refine (cZ (rd l1 a2) 0 (wrap64 ((l0.length:Int) - 1)) true _ A8.out).mono ?_);rintro e w' ⟨rfl,⟨nd,rfl⟩⟩;refine ⟨_,rfl,?_⟩;have p121:0≤(a2:Int):=bA fU;have q121:a2<(l1.length:Int):=bA fU;obtain ⟨ad121,e121,hx121_0⟩:=dA HR1.out a2 p121 q121;obtain rfl:ad119=ad121:=(by injection e121);replace p121:=bL p121;replace q121:=bL q121)|((with_reducible refine cD (f:=130) rfl ?_);refine dT (some 27) rfl rfl Tryz.func130 (by kernel_rfl) rfl #[.slice A0 l0.length c0,.int .i64 (rd l1 a2)] rfl mO ?_;(with_reducible refine (qY k _ _ l0 (rd l1 a2) t122 _ ?side1 ?side2 A10.out).mono ?_);(case side1=>exact (by repeat (first|exact HR0.out|(with_reducible refine Kd.C_alloc ?_ _)|(with_reducible refine Kd.C_drewN ?_ _)|(with_reducible refine Kd.C_drew ?_))));(case side2=>exact HC0.out);rintro e w12 ⟨v123,rfl,ho0,hb⟩;refine ⟨_,rfl,?_⟩;have HO124:=aK (dR ho0 (bN jR));replace HB:=aK (bG jR hb);(try clear hb);(try clear hb2);(try clear hk);(try clear hi);(try clear ho0);obtain ⟨Ao13,co13,eo13⟩:=cH HO124.out;subst eo13))
      go_ret;exact ⟨sL,jR⟩
     ·rw [if_neg c11] at H
      have c11b0:decide (a3<(wrap64 (a2+(wrap64 (1+(t122.length:Int))))))=false:=bJ c11
      clear c11;obtain rfl:=bC H;have p119:0≤(a2:Int):=bA fU
      have q119:a2<(l1.length:Int):=bA fU
      obtain ⟨ad119,e119,hx119_0⟩:=dA HR1.out a2 p119 q119
      cases e119
      replace p119:=bL p119;replace q119:=bL q119;go_enter Tryz.func85,Tryz.ntmps85
      go_wp2_with (first|((with_reducible refine cD (f:=129) rfl ?_);refine dT (some 21) rfl rfl Tryz.func129 (by kernel_rfl) rfl #[.int .i64 (rd l1 a2),.int .i64 0,.int .i64 (wrap64 ((l0.length:Int) - 1))] rfl mO ?_;(with_reducible refine (cZ (rd l1 a2) 0 (wrap64 ((l0.length:Int) - 1)) true _ A8.out).mono ?_);rintro e w' ⟨rfl,⟨nd,rfl⟩⟩;refine ⟨_,rfl,?_⟩;have p121:0≤(a2:Int):=bA fU;have q121:a2<(l1.length:Int):=bA fU;obtain ⟨ad121,e121,hx121_0⟩:=dA HR1.out a2 p121 q121;obtain rfl:ad119=ad121:=(by injection e121);replace p121:=bL p121;replace q121:=bL q121)|((with_reducible refine cD (f:=130) rfl ?_);refine dT (some 27) rfl rfl Tryz.func130 (by kernel_rfl) rfl #[.slice A0 l0.length c0,.int .i64 (rd l1 a2)] rfl mO ?_;(with_reducible refine (qY k _ _ l0 (rd l1 a2) t122 _ ?side1 ?side2 A10.out).mono ?_);(case side1=>exact (by repeat (first|exact HR0.out|(with_reducible refine Kd.C_alloc ?_ _)|(with_reducible refine Kd.C_drewN ?_ _)|(with_reducible refine Kd.C_drew ?_))));(case side2=>exact HC0.out);rintro e w14 ⟨v123,rfl,ho0,hb⟩;refine ⟨_,rfl,?_⟩;have HO124:=aK (dR ho0 (bN jR));replace HB:=aK (bG jR hb);(try clear hb);(try clear hb2);(try clear hk);(try clear hi);(try clear ho0);obtain ⟨Ao15,co15,eo15⟩:=cH HO124.out;subst eo15))
      go_ret;exact ⟨sL,jR⟩
    ·replace c9 := Bool.eq_false_iff.mpr c9
     subst c9;rw [if_neg (show¬(false=true) by decide)] at H;have HC16:=aK H;clear H;have p119:0≤(a2:Int):=bA fU
     have q119:a2<(l1.length:Int):=bA fU
     obtain ⟨ad119,e119,hx119_0⟩:=dA HR1.out a2 p119 q119
     cases e119
     replace p119:=bL p119;replace q119:=bL q119;go_enter Tryz.func85,Tryz.ntmps85
     go_upto_region 6 with (first|((with_reducible refine cD (f:=129) rfl ?_);refine dT (some 21) rfl rfl Tryz.func129 (by kernel_rfl) rfl #[.int .i64 (rd l1 a2),.int .i64 0,.int .i64 (wrap64 ((l0.length:Int) - 1))] rfl mO ?_;(with_reducible refine (cZ (rd l1 a2) 0 (wrap64 ((l0.length:Int) - 1)) false _ A8.out).mono ?_);rintro e w' ⟨rfl,⟨nd,rfl⟩⟩;refine ⟨_,rfl,?_⟩))
     (try simp only [Act.put,fL,jB,jC])
     go_cut [30] (fun v30 wc=> ∃(kq:Nat) (x30_15:Bool),v30= .bool x30_15∧Aside0 (kQ kq l1 a2 a3 0 x30_15=some r)∧Aside0 (kq≤k)∧Aside0 (Below w.heap.size w wc))
     case first=>
      have H:=HC16.out;clear HC16;by_cases c17:(rd l1 a2)=(-1)
      ·rw [if_pos c17] at H
       have c17b0:((rd l1 a2)==(-1))=true:=beq_iff_eq.mpr c17
       have c17b1:((rd l1 a2) !=(-1))=false:=bne_eq_false_iff_eq.mpr c17
       clear c17
       (first|rw [c17b0]|(simp only [mC,qF];rw [c17b0])|skip)
       have H':=aK H;clear H;have p125:0≤(a2:Int):=bA fU
       have q125:a2<(l1.length:Int):=bA fU
       obtain ⟨ad125,e125,hx125_0⟩:=dA HR1.out a2 p125 q125;obtain rfl:ad119=ad125:=(by injection e125);replace hx125_0:=(HB.out.cell (bE w _ hx125_0)).trans hx125_0;replace p125:=bL p125;replace q125:=bL q125;go_wp2;go_meet
       case rel=>exact ⟨_,(true),kG,H',⟨by first|omega|exact bV _⟩,⟨by repeat (first|(with_reducible first|exact HB.out|apply bI|apply bF|apply bH)|exact HB.out)⟩⟩
      ·rw [if_neg c17] at H
       have c17b0:((rd l1 a2)==(-1))=false:=tP.mpr c17
       have c17b1:((rd l1 a2) !=(-1))=true:=bne_iff_ne.mpr c17
       (first|rw [c17b0]|(simp only [mC,qF];rw [c17b0])|skip)
       have H':=aK H;clear H;have p125:0≤(a2:Int):=bA fU
       have q125:a2<(l1.length:Int):=bA fU
       obtain ⟨ad125,e125,hx125_0⟩:=dA HR1.out a2 p125 q125;obtain rfl:ad119=ad125:=(by injection e125);replace hx125_0:=(HB.out.cell (bE w _ hx125_0)).trans hx125_0;replace p125:=bL p125;replace q125:=bL q125;have p126:0≤(a2:Int):=bA fU
       have q126:a2<(l1.length:Int):=bA fU
       obtain ⟨ad126,e126,hx126_0⟩:=dA HR1.out a2 p126 q126;obtain rfl:ad119=ad126:=(by injection e126);replace hx126_0:=(HB.out.cell (bE w _ hx126_0)).trans hx126_0;replace p126:=bL p126;replace q126:=bL q126;go_wp2;go_meet
       case rel=>exact ⟨_,(((rd l1 a2)==(-2))),kG,H',⟨by first|omega|exact bV _⟩,⟨by repeat (first|(with_reducible first|exact HB.out|apply bI|apply bF|apply bH)|exact HB.out)⟩⟩
     case rest =>
      clear HC16;(try clear c1);(try clear p1);(try clear q1);(try clear hx1);(try clear p2);(try clear c5);(try clear c5b0);(try clear c6);(try clear c6b0);(try clear p6);(try clear c7);(try clear c7b0);(try clear c8);(try clear c9);(try clear c11);(try clear c11b0);(try clear p11);(try clear q11);(try clear hx11);(try clear c12);(try clear p12);(try clear q12);(try clear hx12);(try clear c13);(try clear c17);(try clear c17b0);(try clear c17b1);(try clear hx119_0);(try clear hx121_0);(try clear hx125_0);(try clear hx126_0);(try clear p119);(try clear p121);(try clear p125);(try clear p126);(try clear q119);(try clear q121);(try clear q125);(try clear q126);obtain ⟨kq,x30_15,rfl,HA,HJ15,HB⟩:=hcut
      cases kq with
      |zero=>exact absurd HA.out (by simp [kQ])
      | succ kj15 =>
       have H:=HA.out;clear HA;simp only [kQ] at H;by_cases c18:x30_15=true
       ·subst c18
        rw [if_pos rfl] at H;have HC19:=aK H;clear H
        go_upto_region 7 with (fail)
        go_cut [55] (fun v55 wc=> ∃(kq:Nat) (x55_18:Bool),v55= .bool x55_18∧Aside0 (mE kq l1 a2 a3 x55_18=some r)∧Aside0 (kq≤kj15)∧Aside0 (Below w.heap.size w wc))
        case first=>
         have H:=HC19.out;clear HC19;by_cases c20:(wrap64 (a2+1))≥a3
         ·rw [if_pos c20] at H
          have c20b0:decide (a3≤(wrap64 (a2+1)))=true:=bB c20
          clear c20
          (first|rw [c20b0]|(simp only [mC,qF];rw [c20b0])|skip)
          have H':=aK H;clear H;go_wp2;go_meet
          case rel=>exact ⟨_,(true),kG,H',⟨by have:=HJ15.out;first|omega|exact bV _⟩,⟨by repeat (first|(with_reducible first|exact HB.out|apply bI|apply bF|apply bH)|exact HB.out)⟩⟩
         ·rw [if_neg c20] at H
          have c20b0:decide (a3≤(wrap64 (a2+1)))=false:=bJ c20
          clear c20
          (first|rw [c20b0]|(simp only [mC,qF];rw [c20b0])|skip)
          obtain ⟨ji21,hji21⟩: ∃j_:Int,(wrap64 (a2+1))=j_:=⟨_,rfl⟩;replace H:(if 0≤(ji21) then (if (ji21)<(l1.length:Int) then ((fC (rd l1 (ji21)) 0 6).bind fun t128=>(mE kj15 l1 a2 a3 (!t128))) else (none)) else (none))=some r:=by first|(rw [hji21] at H;exact H)|(simp only [hji21] at H ⊢;exact H)
          (try rw [hji21] at c20b0)
          have hji21w:(IntKind.i64.wrap (a2+1))=ji21:=(mC _).trans hji21
          by_cases c22:0≤(ji21)
          ·rw [if_pos c22] at H
           have c22b0:decide (0≤(ji21))=true:=bB c22
           clear c22;by_cases c23:(ji21)<(l1.length:Int)
           ·rw [if_pos c23] at H
            have c23b0:decide ((ji21)<(l1.length:Int))=true:=bB c23
            clear c23;replace H:=Option.bind_eq_some_iff.mp H;obtain ⟨t128,A240,H⟩:=H;(try dsimp only at H);have A24:=aK A240;clear A240;have H':=aK H;clear H;have p127:0≤((ji21):Int):=bA fU
            have q127:(ji21)<(l1.length:Int):=bA fU
            obtain ⟨ad127,e127,hx127_0⟩:=dA HR1.out (ji21) p127 q127;obtain rfl:ad119=ad127:=(by injection e127);replace hx127_0:=(HB.out.cell (bE w _ hx127_0)).trans hx127_0;replace p127:=bL p127;replace q127:=bL q127
            go_wp2_with (first|(go_at_call 129;(with_reducible refine (cZ (rd l1 (ji21)) 0 6 t128 _ A24.out).mono ?_);rintro e w' ⟨rfl,⟨nd,rfl⟩⟩))
            go_meet
            case rel=>exact ⟨_,(!t128),kG,H',⟨by have:=HJ15.out;first|omega|exact bV _⟩,⟨by repeat (first|(with_reducible first|exact HB.out|apply bI|apply bF|apply bH)|exact HB.out)⟩⟩
           ·rw [if_neg c23] at H
            exact absurd H (by simp)
          ·rw [if_neg c22] at H
           exact absurd H (by simp)
        case rest =>
         clear HC19;(try clear c1);(try clear p1);(try clear q1);(try clear hx1);(try clear c2);(try clear p2);(try clear c5);(try clear c5b0);(try clear c6);(try clear c6b0);(try clear p6);(try clear c7);(try clear c7b0);(try clear c8);(try clear c9);(try clear c11);(try clear c11b0);(try clear p11);(try clear q11);(try clear hx11);(try clear c12);(try clear p12);(try clear q12);(try clear hx12);(try clear c13);(try clear c17);(try clear c17b0);(try clear c17b1);(try clear c18);(try clear c20);(try clear c20b0);(try clear c22);(try clear c22b0);(try clear c23);(try clear c23b0);(try clear hx119_0);(try clear hx121_0);(try clear hx125_0);(try clear hx126_0);(try clear hx127_0);(try clear p1);(try clear p11);(try clear p119);(try clear p12);(try clear p121);(try clear p125);(try clear p126);(try clear p127);(try clear p2);(try clear p6);(try clear q1);(try clear q11);(try clear q119);(try clear q12);(try clear q121);(try clear q125);(try clear q126);(try clear q127);obtain ⟨kq,x55_18,rfl,HA,HJ18,HB⟩:=hcut
         cases kq with
         |zero=>exact absurd HA.out (by simp [mE])
         | succ kj18 =>
          have H:=HA.out;clear HA;simp only [mE] at H;by_cases c25:x55_18=true
          ·subst c25
           rw [if_pos rfl] at H;obtain rfl:=bC H;go_wp2;go_ret;exact ⟨sL,jR⟩
          ·replace c25 := Bool.eq_false_iff.mpr c25
           subst c25;rw [if_neg (show¬(false=true) by decide)] at H;obtain ⟨ji26,hji26⟩: ∃j_:Int,(wrap64 (a2+1))=j_:=⟨_,rfl⟩;replace H:(if 0≤(ji26) then (if (ji26)<(l1.length:Int) then (if (wrap64 (a2+(wrap64 (2+(rd l1 (ji26))))))>a3 then (some 0) else (some (wrap64 (2+(rd l1 (ji26)))))) else (none)) else (none))=some r:=by first|(rw [hji26] at H;exact H)|(simp only [hji26] at H ⊢;exact H)
           have hji26w:(IntKind.i64.wrap (a2+1))=ji26:=(mC _).trans hji26
           by_cases c27:0≤(ji26)
           ·rw [if_pos c27] at H
            have c27b0:decide (0≤(ji26))=true:=bB c27
            clear c27;by_cases c28:(ji26)<(l1.length:Int)
            ·rw [if_pos c28] at H
             have c28b0:decide ((ji26)<(l1.length:Int))=true:=bB c28
             clear c28;by_cases c29:(wrap64 (a2+(wrap64 (2+(rd l1 (ji26))))))>a3
             ·rw [if_pos c29] at H
              have c29b0:decide (a3<(wrap64 (a2+(wrap64 (2+(rd l1 (ji26)))))))=true:=bB c29
              clear c29;obtain rfl:=bC H;have p129:0≤((ji26):Int):=bA fU
              have q129:(ji26)<(l1.length:Int):=bA fU
              obtain ⟨ad129,e129,hx129_0⟩:=dA HR1.out (ji26) p129 q129;obtain rfl:ad119=ad129:=(by injection e129);replace hx129_0:=(HB.out.cell (bE w _ hx129_0)).trans hx129_0;replace p129:=bL p129;replace q129:=bL q129;go_wp2;go_ret;exact ⟨(by first|rfl|(simp [dF,dE]<;>rfl)|(simp only [←hji26];first|rfl|(simp [dF,dE]<;>rfl))|(simp [*,dF,dE]<;>rfl)),jR⟩
             ·rw [if_neg c29] at H
              have c29b0:decide (a3<(wrap64 (a2+(wrap64 (2+(rd l1 (ji26)))))))=false:=bJ c29
              clear c29;obtain rfl:=bC H;have p129:0≤((ji26):Int):=bA fU
              have q129:(ji26)<(l1.length:Int):=bA fU
              obtain ⟨ad129,e129,hx129_0⟩:=dA HR1.out (ji26) p129 q129;obtain rfl:ad119=ad129:=(by injection e129);replace hx129_0:=(HB.out.cell (bE w _ hx129_0)).trans hx129_0;replace p129:=bL p129;replace q129:=bL q129;go_wp2;go_ret;exact ⟨(by first|rfl|(simp [dF,dE]<;>rfl)|(simp only [←hji26];first|rfl|(simp [dF,dE]<;>rfl))|(simp [*,dF,dE]<;>rfl)),jR⟩
            ·rw [if_neg c28] at H
             exact absurd H (by simp)
           ·rw [if_neg c27] at H
            exact absurd H (by simp)
       ·replace c18 := Bool.eq_false_iff.mpr c18
        subst c18;rw [if_neg (show¬(false=true) by decide)] at H;by_cases c30:(wrap64 (a2+0))>a3
        ·rw [if_pos c30] at H
         have c30b0:decide (a3<(wrap64 (a2+0)))=true:=bB c30
         simp only [Int.add_zero] at c30b0;clear c30;obtain rfl:=bC H;go_wp2;go_ret;exact ⟨sL,jR⟩
        ·rw [if_neg c30] at H
         have c30b0:decide (a3<(wrap64 (a2+0)))=false:=bJ c30
         simp only [Int.add_zero] at c30b0;clear c30;obtain rfl:=bC H;go_wp2;go_ret;exact ⟨sL,jR⟩
   ·rw [if_neg c7] at H
    exact absurd H (by simp)
  ·rw [if_neg c6] at H
   exact absurd H (by simp)
end Go.Proofs.YtbaklikaoleplaaGreat.K
