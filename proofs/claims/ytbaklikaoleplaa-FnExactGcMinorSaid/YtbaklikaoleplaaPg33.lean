import Derived.Test.YtbaklikaoleplaaPg24
import Derived.Test.YtbaklikaoleplaaPg32
import Derived.Test.YtbaklikaoleplaaPg31
namespace Go.Proofs.Ytbaklikaoleplaa.K
open Go.RowKit Go.Proofs.YtbaklikaoleplaaW.PrintWords Go.Proofs.YtbaklikaoleplaaW.PrintLast Go.Proofs.YtbaklikaoleplaaW.PrintMore
attribute [local go_sem] max2_int min2_int max_two min_two max_three min_three max_four min_four
set_option linter.unusedVariables false
set_option linter.unusedSimpArgs false
section
variable {P:Program} {ops:Array Oper} {Q:Exit→Act→World→Prop} {md:Region.Mode} {S:World→Prop} {ds:List Nat} {oi:Oper} {v:Value} {fuel:Nat} {l:Array Bool} {a a':Act} {w:World}
theorem uT {T:Bool×List (List Nat×List Nat)} (i:Nat) (n:Tmp) (l':Array Bool) (HT:Aside0 (rtab md ops=T)) (h:wpAnyLast P md ops Q S ds fuel l' a' w) (hi:ops[i]? =some oi:=by exact rfl) (hN:oi.dst=some n:=by exact rfl) (hc:anyT T l.toList l'.toList i=true:=by kernel_rfl) (hQ: ∀c a w,Q (.panic c) (a.put oi.dst undef) w→Q (.panic c) a w:=by exact fun _ _ _ h=>h) (hw:Region.wanted oi (yielded ops a.tmps)=false:=by rfl) (ha:a.put (some n) undef=a':=by simp only [Act.put,List.setIfInBounds_toArray,List.set_cons_zero,List.set_cons_succ,i64_w,i32_w];rfl):wpAnyLast P md ops Q S ds (fuel+1) l a w:=pU i n l' h hi hN (any_of HT.out hc) hQ hw ha
end
mutual
def spec_l21Bounds.j0:Nat→Int→Bool→List Int→Int→Int→Int→List Bool→Option (Bool)
 |0,_,_,_,_,_,_,_=>none
 |k+1,x5,x54,x164000,x164001,x164002,x164003,x164004=>if x54=true then (some false) else (spec_l21Bounds.l0 k x5 0 x164000 x164001 x164002 x164003 x164004)
def spec_l21Bounds.l0:Nat→Int→Int→List Int→Int→Int→Int→List Bool→Option (Bool)
 |0,_,_,_,_,_,_,_=>none
 |k+1,x5,x6,x164000,x164001,x164002,x164003,x164004=>if x6<x5 then ((spec_l6In.f x6 x164002 (wrap64 (x164001 - 1))).bind fun t170=>(if t170=true then (if 0≤x6 then (if x6<(x164000.length:Int) then (if (rd x164000 x6)=0 then (spec_l21Bounds.l0 k x5 (wrap64 (x6+1)) x164000 x164001 x164002 x164003 x164004) else (some false)) else (none)) else (none)) else (if x6≥x164003 then (if 0≤x6 then (if x6<(x164000.length:Int) then (if (rd x164000 x6)=0 then (spec_l21Bounds.l0 k x5 (wrap64 (x6+1)) x164000 x164001 x164002 x164003 x164004) else (some false)) else (none)) else (none)) else (spec_l21Bounds.l0 k x5 (wrap64 (x6+1)) x164000 x164001 x164002 x164003 x164004)))) else (some true)
end
def spec_l21Bounds.f (k:Nat) (l0:List (S53)) (l1_0:List Int) (a1_1:Int) (a1_2:Int) (a1_3:Int) (l1_4:List Bool):Option (Bool):=(spec_ClassesOk.f k l0).bind fun t164=>(if t164=true then ((spec_l6In.f a1_1 0 40).bind fun t165=>(if t165=true then ((spec_l6In.f (wrap64 ((l1_0.length:Int) - a1_1)) 14 120).bind fun t166=>(if t166=true then ((spec_l6In.f a1_2 0 a1_1).bind fun t167=>(if t167=true then ((spec_l6In.f a1_3 a1_1 (l1_0.length:Int)).bind fun t168=>(if t168=true then ((spec_l21Cards.f (wrap64 ((l1_0.length:Int) - a1_1))).bind fun t169=>(spec_l21Bounds.j0 k (l1_0.length:Int) ((l1_4.length:Int) !=t169) l1_0 a1_1 a1_2 a1_3 l1_4)) else (spec_l21Bounds.j0 k (l1_0.length:Int) true l1_0 a1_1 a1_2 a1_3 l1_4))) else (spec_l21Bounds.j0 k (l1_0.length:Int) true l1_0 a1_1 a1_2 a1_3 l1_4))) else (spec_l21Bounds.j0 k (l1_0.length:Int) true l1_0 a1_1 a1_2 a1_3 l1_4))) else (spec_l21Bounds.j0 k (l1_0.length:Int) true l1_0 a1_1 a1_2 a1_3 l1_4))) else (spec_l21Bounds.j0 k (l1_0.length:Int) true l1_0 a1_1 a1_2 a1_3 l1_4))
theorem spec_l21Bounds.mono_l: ∀k,(∀y0 y1 y2 y3 y4 y5 y6,LeO (spec_l21Bounds.j0 k y0 y1 y2 y3 y4 y5 y6) (spec_l21Bounds.j0 (k+1) y0 y1 y2 y3 y4 y5 y6))∧(∀y0 y1 y2 y3 y4 y5 y6,LeO (spec_l21Bounds.l0 k y0 y1 y2 y3 y4 y5 y6) (spec_l21Bounds.l0 (k+1) y0 y1 y2 y3 y4 y5 y6))
 |0=>⟨fun _ _ _ _ _ _ _ r h=>by simp [spec_l21Bounds.j0] at h,fun _ _ _ _ _ _ _ r h=>by simp [spec_l21Bounds.l0] at h⟩
 | k + 1 => by
  obtain ⟨ih0,ih1⟩:=spec_l21Bounds.mono_l k;refine ⟨?_,?_⟩
  ·intro y0 y1 y2 y3 y4 y5 y6
   unfold spec_l21Bounds.j0;repeat' first
   |(with_reducible exact ih0 _ _ _ _ _ _ _)
   |(with_reducible exact ih1 _ _ _ _ _ _ _)
   |(with_reducible exact spec_ClassesOk.mono _ _)
   |(with_reducible exact LeO.refl _)
   |(with_reducible exact LeO.none _)
   |(with_reducible refine LeO.ite ?_ ?_)
   |(with_reducible refine LeO.bind ?_ (fun _=>?_))
   |exact ih0 _ _ _ _ _ _ _
   |exact ih1 _ _ _ _ _ _ _
   |exact spec_ClassesOk.mono _ _
   |exact LeO.none _
   |refine LeO.ite ?_ ?_
   |refine LeO.bind ?_ (fun _=>?_)
  ·intro y0 y1 y2 y3 y4 y5 y6
   unfold spec_l21Bounds.l0;repeat' first
   |(with_reducible exact ih0 _ _ _ _ _ _ _)
   |(with_reducible exact ih1 _ _ _ _ _ _ _)
   |(with_reducible exact spec_ClassesOk.mono _ _)
   |(with_reducible exact LeO.refl _)
   |(with_reducible exact LeO.none _)
   |(with_reducible refine LeO.ite ?_ ?_)
   |(with_reducible refine LeO.bind ?_ (fun _=>?_))
   |exact ih0 _ _ _ _ _ _ _
   |exact ih1 _ _ _ _ _ _ _
   |exact spec_ClassesOk.mono _ _
   |exact LeO.none _
   |refine LeO.ite ?_ ?_
   |refine LeO.bind ?_ (fun _=>?_)
def spec_l21Bounds.T2:Bool×List (List Nat×List Nat):=(true,[([],[]),([0],[0]),([1],[1]),([2,1],[2]),([3],[3]),([4,3],[3,4]),([5,3,3],[3,5]),([6,3],[3,6]),([3,7],[3,7]),([8,6],[8]),([9],[9]),([9],[9]),([11,9],[9,11]),([10,12,9],[9,10,12]),([13,9,9],[9,13]),([14,9],[9,14]),([9,15],[9,15]),([16,14],[16]),([17],[17]),([18,17],[17,18]),([17],[17]),([20,17],[17,20]),([19,21,17,17],[17,19,21]),([22,17],[17,22]),([17,23],[17,23]),([24,22],[24]),([25],[25]),([26,25],[25,26]),([25],[25]),([28,25],[25,28]),([25],[25]),([27,29,30,25,25],[25,27,29,30]),([31,25],[25,31]),([25,32],[25,32]),([33,31],[33]),([34],[34]),([35,34],[34,35]),([36,34],[34,36]),([34],[34]),([34],[34]),([39,34],[34,39]),([38,40,34],[34,38,40]),([41,34,34],[34,41]),([37,42,34],[34,37,42]),([34,43],[34,43])])
def spec_l21Bounds.B2:List Nat:=[0,1,3,7,15,31,63,127,255,511,1023,1023,3071,8191,16383,32767,65535,131071,262143,524287,262143,1310719,4194303,8388607,16777215,33554431,67108863,134217727,67108863,335544319,67108863,2147483647,4294967295,8589934591,17179869183,34359738367,68719476735,137438953471,34359738367,34359738367,584115552255,1958505086975,4157528342527,8796093022207,17592186044415]
theorem spec_l21Bounds.tab2:rtab .any (opsOf Try.f71 2)=spec_l21Bounds.T2:=by kernel_rfl
theorem spec_l21Bounds.bits2:waitsOk spec_l21Bounds.T2.2 spec_l21Bounds.B2=true:=by kernel_rfl
set_option maxHeartbeats 8000000 in
set_option maxRecDepth 100000 in
theorem spec_l21Bounds.calls (k : Nat) (A0 : Option Addr) (c0 : Nat) (l0 : List (S53)) (A1_0 : Option Addr) (c1_0 : Nat) (l1_0 : List Int) (a1_1 : Int) (a1_2 : Int) (a1_3 : Int) (A1_4 : Option Addr) (c1_4 : Nat) (l1_4 : List Bool) (r : Bool) (w : World) (hr0 : Kd.C k53 w A0 l0.length l0) (hc0 : l0.length ≤ c0) (hr1_0 : Kd.C (Kd.int .i64) w A1_0 l1_0.length l1_0) (hc1_0 : l1_0.length ≤ c1_0) (hr1_4 : Kd.C Kd.bool w A1_4 l1_4.length l1_4) (hc1_4 : l1_4.length ≤ c1_4) (h : spec_l21Bounds.f k l0 l1_0 a1_1 a1_2 a1_3 l1_4 = some r) :
  Calls Try.prog 71 #[.slice A0 l0.length c0,.agg #[.slice A1_0 l1_0.length c1_0,.int .i64 a1_1,.int .i64 a1_2,.int .i64 a1_3,.slice A1_4 l1_4.length c1_4]] w fun e w'=>e= .returned (.bool r)∧Below w.heap.size w w':=by
 have hu29:=Try.underlying29;have HR0:=aK hr0;have HC0:=aK hc0;clear hr0 hc0;have HR1_0:=aK hr1_0;have HC1_0:=aK hc1_0;clear hr1_0 hc1_0;have HR1_4:=aK hr1_4;have HC1_4:=aK hc1_4;clear hr1_4 hc1_4;have HB:=aK (Below.refl w.heap.size w);have H:((spec_ClassesOk.f k l0).bind fun t164=>(if t164=true then ((spec_l6In.f a1_1 0 40).bind fun t165=>(if t165=true then ((spec_l6In.f (wrap64 ((l1_0.length:Int) - a1_1)) 14 120).bind fun t166=>(if t166=true then ((spec_l6In.f a1_2 0 a1_1).bind fun t167=>(if t167=true then ((spec_l6In.f a1_3 a1_1 (l1_0.length:Int)).bind fun t168=>(if t168=true then ((spec_l21Cards.f (wrap64 ((l1_0.length:Int) - a1_1))).bind fun t169=>(spec_l21Bounds.j0 k (l1_0.length:Int) ((l1_4.length:Int) !=t169) l1_0 a1_1 a1_2 a1_3 l1_4)) else (spec_l21Bounds.j0 k (l1_0.length:Int) true l1_0 a1_1 a1_2 a1_3 l1_4))) else (spec_l21Bounds.j0 k (l1_0.length:Int) true l1_0 a1_1 a1_2 a1_3 l1_4))) else (spec_l21Bounds.j0 k (l1_0.length:Int) true l1_0 a1_1 a1_2 a1_3 l1_4))) else (spec_l21Bounds.j0 k (l1_0.length:Int) true l1_0 a1_1 a1_2 a1_3 l1_4))) else (spec_l21Bounds.j0 k (l1_0.length:Int) true l1_0 a1_1 a1_2 a1_3 l1_4)))=some r:=h
 clear h;have HC3:=aK H;clear H;go_enter Try.func71,Try.ntmps71
 go_upto_region 2 with (first|((with_reducible refine gate_dst (N:=3) rfl ?_);(try (refine gate_guard (by rfl) ?_;dsimp only));refine box_event ?hg (N:=3) ?hd (cs:= #[.slice A1_0 l1_0.length c1_0,.int .i64 a1_1,.int .i64 a1_2,.int .i64 a1_3,.slice A1_4 l1_4.length c1_4]) (t:=29) ?hr ?_;(case hd=>rfl);(case hg=>rfl);(case hr=>first|(go_simp;done)|(go_simp;rfl));intro gb163 hg w4 hbox hb;have BK163:=aK (hbox);have GW163:=aK ((by rw [hg];exact (below_size zz1):w.heap.size≤gb163));have GE163:=aK ((by rw [hg];exact (below_size zz1):w.heap.size≤gb163));replace HB:=aK (below_step zz1 hb);clear hb hbox hg;obtain ⟨hcz5_0,hcz5_1,hcz5_2,hcz5_3,hcz5_4,hfz5_0,hfz5_1,hfz5_2,hfz5_3,hfz5_4⟩:=cbf5 BK163))
 (try simp only [Act.put,List.setIfInBounds_toArray,List.set_cons_zero,List.set_cons_succ])
 go_cut [54] (fun v54 wc=> ∃(kq:Nat) (x54_2:Bool),v54= .bool x54_2∧Aside0 (spec_l21Bounds.j0 kq (l1_0.length:Int) x54_2 l1_0 a1_1 a1_2 a1_3 l1_4=some r)∧Aside0 (kq≤k)∧Aside0 (wc.heap[gb163]? =some (.cells #[(.slice A1_0 l1_0.length c1_0),.int .i64 a1_1,.int .i64 a1_2,.int .i64 a1_3,(.slice A1_4 l1_4.length c1_4)] 29 (0,0)))∧Aside0 (Below w.heap.size w wc))
 case first =>
  have H:=HC3.out;clear HC3;replace H:=Option.bind_eq_some_iff.mp H;obtain ⟨t164,A60,H⟩:=H;(try dsimp only at H);have A6:=aK A60;clear A60;by_cases c7:t164=true
  ·subst c7
   rw [if_pos rfl] at H;replace H:=Option.bind_eq_some_iff.mp H;obtain ⟨t165,A80,H⟩:=H;(try dsimp only at H);have A8:=aK A80;clear A80;by_cases c9:t165=true
   ·subst c9
    rw [if_pos rfl] at H;replace H:=Option.bind_eq_some_iff.mp H;obtain ⟨t166,A100,H⟩:=H;(try dsimp only at H);have A10:=aK A100;clear A100;by_cases c11:t166=true
    ·subst c11
     rw [if_pos rfl] at H;replace H:=Option.bind_eq_some_iff.mp H;obtain ⟨t167,A120,H⟩:=H;(try dsimp only at H);have A12:=aK A120;clear A120;by_cases c13:t167=true
     ·subst c13
      rw [if_pos rfl] at H;replace H:=Option.bind_eq_some_iff.mp H;obtain ⟨t168,A140,H⟩:=H;(try dsimp only at H);have A14:=aK A140;clear A140;by_cases c15:t168=true
      ·subst c15
       rw [if_pos rfl] at H;replace H:=Option.bind_eq_some_iff.mp H;obtain ⟨t169,A160,H⟩:=H;(try dsimp only at H);have A16:=aK A160;clear A160;have H':=aK H;clear H;try go_wp2
       have n0_:=aK (blk_drew BK163.out);have n1_:=aK (below_drew1 HB.out);clear BK163;clear HB;have BK163:=n0_;have HB:=n1_;clear n0_ n1_;refine sT 45 (S:=fun w'=>w'.cell? ⟨gb163,0,none⟩=some (.slice A1_0 l1_0.length c1_0)∧w'.cell? ⟨gb163,1,none⟩=some (.int .i64 a1_1)∧w'.cell? ⟨gb163,2,none⟩=some (.int .i64 a1_2)∧w'.cell? ⟨gb163,3,none⟩=some (.int .i64 a1_3)∧w'.cell? ⟨gb163,4,none⟩=some (.slice A1_4 l1_4.length c1_4)) (ds:=[]) ⟨(blk_cell BK163.out 0).trans rfl,(blk_cell BK163.out 1).trans rfl,(blk_cell BK163.out 2).trans rfl,(blk_cell BK163.out 3).trans rfl,(blk_cell BK163.out 4).trans rfl⟩ (fun hHeld=>?_);refine with_tabW spec_l21Bounds.tab2 spec_l21Bounds.bits2 (fun HT_ HW_=>?_);generalize w4.drew=w17 at BK163 HB hHeld ⊢;refine pT 0 10 (lA 45 1) HT_ ?_;refine one_ (i:=1) (N:=some 11) (lA 45 3) rfl rfl (one_of HT_.out (by kernel_rfl)) (by decide) (fun K hK=>?_);refine goes_ Try.func102 (by kernel_rfl) rfl #[.slice A0 l0.length c0] (by rfl) rfl rfl zz2 ?_;(with_reducible refine (spec_ClassesOk.calls k _ _ l0 true _ ?side1 ?side2 A6.out).mono ?_)
       (case side1=>exact zz7)
       (case side2=>exact HC0.out)
       rintro e w18 ⟨rfl,hb⟩;refine ⟨_,rfl,?_⟩;have n0_:=aK (blk_below (g:=gb163) (o:= .cells #[.slice A1_0 l1_0.length c1_0,.int .i64 a1_1,.int .i64 a1_2,.int .i64 a1_3,.slice A1_4 l1_4.length c1_4] 29 (0,0)) zz43 hb);have n1_:=aK (below_step zz20 hb);clear BK163;clear HB;have BK163:=n0_;have HB:=n1_;clear n0_ n1_;(try clear hb);(try clear hb2);(try clear hk);(try clear hi);refine hK.out _ _ ⟨(blk_cell BK163.out 0).trans rfl,(blk_cell BK163.out 1).trans rfl,(blk_cell BK163.out 2).trans rfl,(blk_cell BK163.out 3).trans rfl,(blk_cell BK163.out 4).trans rfl⟩ (fun hHeld=>?_);clear hK K;refine nS 11 ?_;refine pT 2 12 (lA 45 7) HT_ ?_;refine pT 3 13 (lA 45 15) HT_ ?_;refine pT 4 14 (lA 45 31) HT_ ?_;refine tS 5 15 (lA 45 63) rfl rfl (take_ofW HT_.out HW_.out (by kernel_rfl)) hHeld zz24 ?_;refine one_ (i:=6) (N:=some 16) (lA 45 127) rfl rfl (one_of HT_.out (by kernel_rfl)) (by decide) (fun K hK=>?_);refine goes_ Try.func73 (by kernel_rfl) rfl #[.int .i64 a1_1,.int .i64 0,.int .i64 40] (by rfl) rfl rfl zz2 ?_;(with_reducible refine (spec_l6In.calls a1_1 0 40 true _ A8.out).mono ?_);rintro e w' ⟨rfl,⟨nd,rfl⟩⟩;refine ⟨_,rfl,?_⟩;refine hK.out _ _ ⟨(blk_cell BK163.out 0).trans rfl,(blk_cell BK163.out 1).trans rfl,(blk_cell BK163.out 2).trans rfl,(blk_cell BK163.out 3).trans rfl,(blk_cell BK163.out 4).trans rfl⟩ (fun hHeld=>?_);clear hK K;refine nS 16 ?_;refine pT 7 17 (lA 45 255) HT_ ?_;refine pT 8 18 (lA 45 511) HT_ ?_;refine pT 9 19 (lA 45 1023) HT_ ?_;refine pT 10 20 (lA 45 2047) HT_ ?_;refine pT 11 21 (lA 45 4095) HT_ ?_;refine tS 12 22 (lA 45 8191) rfl rfl (take_ofW HT_.out HW_.out (by kernel_rfl)) hHeld zz24 ?_;refine pT 13 23 (lA 45 16383) HT_ ?_;refine one_ (i:=14) (N:=some 24) (lA 45 32767) rfl rfl (one_of HT_.out (by kernel_rfl)) (by decide) (fun K hK=>?_);refine goes_ Try.func73 (by kernel_rfl) rfl #[.int .i64 (wrap64 ((l1_0.length:Int) - a1_1)),.int .i64 14,.int .i64 120] (by rfl) rfl rfl zz2 ?_;(with_reducible refine (spec_l6In.calls (wrap64 ((l1_0.length:Int) - a1_1)) 14 120 true _ A10.out).mono ?_);rintro e w' ⟨rfl,⟨nd,rfl⟩⟩;refine ⟨_,rfl,?_⟩;refine hK.out _ _ ⟨(blk_cell BK163.out 0).trans rfl,(blk_cell BK163.out 1).trans rfl,(blk_cell BK163.out 2).trans rfl,(blk_cell BK163.out 3).trans rfl,(blk_cell BK163.out 4).trans rfl⟩ (fun hHeld=>?_);clear hK K;refine nS 24 ?_;refine pT 15 25 (lA 45 65535) HT_ ?_;refine pT 16 26 (lA 45 131071) HT_ ?_;refine pT 17 27 (lA 45 262143) HT_ ?_;refine pT 18 28 (lA 45 524287) HT_ ?_;refine pT 20 30 (lA 45 1572863) HT_ ?_;refine tS 19 29 (lA 45 2097151) rfl rfl (take_ofW HT_.out HW_.out (by kernel_rfl)) hHeld zz24 ?_;refine tS 21 31 (lA 45 4194303) rfl rfl (take_ofW HT_.out HW_.out (by kernel_rfl)) hHeld zz24 ?_;refine one_ (i:=22) (N:=some 32) (lA 45 8388607) rfl rfl (one_of HT_.out (by kernel_rfl)) (by decide) (fun K hK=>?_);refine goes_ Try.func73 (by kernel_rfl) rfl #[.int .i64 a1_2,.int .i64 0,.int .i64 a1_1] (by rfl) rfl rfl zz2 ?_;(with_reducible refine (spec_l6In.calls a1_2 0 a1_1 true _ A12.out).mono ?_);rintro e w' ⟨rfl,⟨nd,rfl⟩⟩;refine ⟨_,rfl,?_⟩;refine hK.out _ _ ⟨(blk_cell BK163.out 0).trans rfl,(blk_cell BK163.out 1).trans rfl,(blk_cell BK163.out 2).trans rfl,(blk_cell BK163.out 3).trans rfl,(blk_cell BK163.out 4).trans rfl⟩ (fun hHeld=>?_);clear hK K;refine nS 32 ?_;refine pT 23 33 (lA 45 16777215) HT_ ?_;refine pT 24 34 (lA 45 33554431) HT_ ?_;refine pT 25 35 (lA 45 67108863) HT_ ?_;refine pT 26 36 (lA 45 134217727) HT_ ?_;refine pT 28 38 (lA 45 402653183) HT_ ?_;refine pT 30 40 (lA 45 1476395007) HT_ ?_;refine tS 27 37 (lA 45 1610612735) rfl rfl (take_ofW HT_.out HW_.out (by kernel_rfl)) hHeld zz24 ?_;refine tS 29 39 (lA 45 2147483647) rfl rfl (take_ofW HT_.out HW_.out (by kernel_rfl)) hHeld zz24 ?_;refine one_ (i:=31) (N:=some 41) (lA 45 4294967295) rfl rfl (one_of HT_.out (by kernel_rfl)) (by decide) (fun K hK=>?_)
       refine goes_ Try.func73 (by kernel_rfl) rfl #[.int .i64 a1_3,.int .i64 a1_1,.int .i64 (l1_0.length:Int)] (by rfl) rfl rfl zz2 ?_;(with_reducible refine (spec_l6In.calls a1_3 a1_1 (l1_0.length:Int) true _ A14.out).mono ?_);rintro e w' ⟨rfl,⟨nd,rfl⟩⟩;refine ⟨_,rfl,?_⟩;refine hK.out _ _ ⟨(blk_cell BK163.out 0).trans rfl,(blk_cell BK163.out 1).trans rfl,(blk_cell BK163.out 2).trans rfl,(blk_cell BK163.out 3).trans rfl,(blk_cell BK163.out 4).trans rfl⟩ (fun hHeld=>?_);clear hK K;refine nS 41 ?_;refine pT 32 42 (lA 45 8589934591) HT_ ?_;refine pT 33 43 (lA 45 17179869183) HT_ ?_;refine pT 34 44 (lA 45 34359738367) HT_ ?_;refine pT 35 45 (lA 45 68719476735) HT_ ?_;refine pT 38 48 (lA 45 343597383679) HT_ ?_;refine pT 39 49 (lA 45 893353197567) HT_ ?_;refine tS 36 46 (lA 45 962072674303) rfl rfl (take_ofW HT_.out HW_.out (by kernel_rfl)) hHeld zz24 ?_;refine pT 37 47 (lA 45 1099511627775) HT_ ?_;refine tS 40 50 (lA 45 2199023255551) rfl rfl (take_ofW HT_.out HW_.out (by kernel_rfl)) hHeld zz24 ?_;refine pT 41 51 (lA 45 4398046511103) HT_ ?_;refine one_ (i:=42) (N:=some 52) (lA 45 8796093022207) rfl rfl (one_of HT_.out (by kernel_rfl)) (by decide) (fun K hK=>?_);refine goes_ Try.func103 (by kernel_rfl) rfl #[.int .i64 (wrap64 ((l1_0.length:Int) - a1_1))] (by rfl) rfl rfl zz2 ?_;(with_reducible refine (spec_l21Cards.calls (wrap64 ((l1_0.length:Int) - a1_1)) t169 _ A16.out).mono ?_);rintro e w' ⟨rfl,⟨nd,rfl⟩⟩;refine ⟨_,rfl,?_⟩;refine hK.out _ _ ⟨(blk_cell BK163.out 0).trans rfl,(blk_cell BK163.out 1).trans rfl,(blk_cell BK163.out 2).trans rfl,(blk_cell BK163.out 3).trans rfl,(blk_cell BK163.out 4).trans rfl⟩ (fun hHeld=>?_);clear hK K;refine nS 52 ?_;refine pT 43 53 (lA 45 17592186044415) HT_ ?_;refine pT 44 54 (lA 45 35184372088831) HT_ ?_;refine done_ (done_of HT_.out (by kernel_rfl)) ?_;try go_wp2
       go_meet
       case rel=>exact ⟨_,(((l1_4.length:Int) !=t169)),zz5,H',⟨by first|omega|exact Nat.le_refl _⟩,⟨by (with_reducible repeat (first|refine blk_drewN ?_ _|refine blk_drew ?_|refine blk_alloc ?_ _));exact BK163.out⟩,⟨by repeat (first|(with_reducible first|exact HB.out|apply below_alloc|apply pw_below_drewN|apply below_drew1|refine below_set ?_ GE163.out)|exact HB.out)⟩⟩
      ·replace c15 := Bool.eq_false_iff.mpr c15
       subst c15;rw [if_neg (show¬(false=true) by decide)] at H;have H':=aK H;clear H;try go_wp2
       have n0_:=aK (blk_drew BK163.out);have n1_:=aK (below_drew1 HB.out);clear BK163;clear HB;have BK163:=n0_;have HB:=n1_;clear n0_ n1_;refine sT 45 (S:=fun w'=>w'.cell? ⟨gb163,0,none⟩=some (.slice A1_0 l1_0.length c1_0)∧w'.cell? ⟨gb163,1,none⟩=some (.int .i64 a1_1)∧w'.cell? ⟨gb163,2,none⟩=some (.int .i64 a1_2)∧w'.cell? ⟨gb163,3,none⟩=some (.int .i64 a1_3)∧w'.cell? ⟨gb163,4,none⟩=some (.slice A1_4 l1_4.length c1_4)) (ds:=[]) ⟨(blk_cell BK163.out 0).trans rfl,(blk_cell BK163.out 1).trans rfl,(blk_cell BK163.out 2).trans rfl,(blk_cell BK163.out 3).trans rfl,(blk_cell BK163.out 4).trans rfl⟩ (fun hHeld=>?_);refine with_tabW spec_l21Bounds.tab2 spec_l21Bounds.bits2 (fun HT_ HW_=>?_);generalize w4.drew=w19 at BK163 HB hHeld ⊢;refine pT 0 10 (lA 45 1) HT_ ?_;refine one_ (i:=1) (N:=some 11) (lA 45 3) rfl rfl (one_of HT_.out (by kernel_rfl)) (by decide) (fun K hK=>?_);refine goes_ Try.func102 (by kernel_rfl) rfl #[.slice A0 l0.length c0] (by rfl) rfl rfl zz2 ?_;(with_reducible refine (spec_ClassesOk.calls k _ _ l0 true _ ?side1 ?side2 A6.out).mono ?_)
       (case side1=>exact zz7)
       (case side2=>exact HC0.out)
       rintro e w20 ⟨rfl,hb⟩;refine ⟨_,rfl,?_⟩;have n0_:=aK (blk_below (g:=gb163) (o:= .cells #[.slice A1_0 l1_0.length c1_0,.int .i64 a1_1,.int .i64 a1_2,.int .i64 a1_3,.slice A1_4 l1_4.length c1_4] 29 (0,0)) zz43 hb);have n1_:=aK (below_step zz20 hb);clear BK163;clear HB;have BK163:=n0_;have HB:=n1_;clear n0_ n1_;(try clear hb);(try clear hb2);(try clear hk);(try clear hi);refine hK.out _ _ ⟨(blk_cell BK163.out 0).trans rfl,(blk_cell BK163.out 1).trans rfl,(blk_cell BK163.out 2).trans rfl,(blk_cell BK163.out 3).trans rfl,(blk_cell BK163.out 4).trans rfl⟩ (fun hHeld=>?_);clear hK K;refine nS 11 ?_;refine pT 2 12 (lA 45 7) HT_ ?_;refine pT 3 13 (lA 45 15) HT_ ?_;refine pT 4 14 (lA 45 31) HT_ ?_;refine tS 5 15 (lA 45 63) rfl rfl (take_ofW HT_.out HW_.out (by kernel_rfl)) hHeld zz24 ?_;refine one_ (i:=6) (N:=some 16) (lA 45 127) rfl rfl (one_of HT_.out (by kernel_rfl)) (by decide) (fun K hK=>?_);refine goes_ Try.func73 (by kernel_rfl) rfl #[.int .i64 a1_1,.int .i64 0,.int .i64 40] (by rfl) rfl rfl zz2 ?_;(with_reducible refine (spec_l6In.calls a1_1 0 40 true _ A8.out).mono ?_);rintro e w' ⟨rfl,⟨nd,rfl⟩⟩;refine ⟨_,rfl,?_⟩;refine hK.out _ _ ⟨(blk_cell BK163.out 0).trans rfl,(blk_cell BK163.out 1).trans rfl,(blk_cell BK163.out 2).trans rfl,(blk_cell BK163.out 3).trans rfl,(blk_cell BK163.out 4).trans rfl⟩ (fun hHeld=>?_);clear hK K;refine nS 16 ?_;refine pT 7 17 (lA 45 255) HT_ ?_;refine pT 8 18 (lA 45 511) HT_ ?_;refine pT 9 19 (lA 45 1023) HT_ ?_;refine pT 10 20 (lA 45 2047) HT_ ?_;refine pT 11 21 (lA 45 4095) HT_ ?_;refine tS 12 22 (lA 45 8191) rfl rfl (take_ofW HT_.out HW_.out (by kernel_rfl)) hHeld zz24 ?_;refine pT 13 23 (lA 45 16383) HT_ ?_;refine one_ (i:=14) (N:=some 24) (lA 45 32767) rfl rfl (one_of HT_.out (by kernel_rfl)) (by decide) (fun K hK=>?_);refine goes_ Try.func73 (by kernel_rfl) rfl #[.int .i64 (wrap64 ((l1_0.length:Int) - a1_1)),.int .i64 14,.int .i64 120] (by rfl) rfl rfl zz2 ?_;(with_reducible refine (spec_l6In.calls (wrap64 ((l1_0.length:Int) - a1_1)) 14 120 true _ A10.out).mono ?_);rintro e w' ⟨rfl,⟨nd,rfl⟩⟩;refine ⟨_,rfl,?_⟩;refine hK.out _ _ ⟨(blk_cell BK163.out 0).trans rfl,(blk_cell BK163.out 1).trans rfl,(blk_cell BK163.out 2).trans rfl,(blk_cell BK163.out 3).trans rfl,(blk_cell BK163.out 4).trans rfl⟩ (fun hHeld=>?_);clear hK K;refine nS 24 ?_;refine pT 15 25 (lA 45 65535) HT_ ?_;refine pT 16 26 (lA 45 131071) HT_ ?_;refine pT 17 27 (lA 45 262143) HT_ ?_;refine pT 18 28 (lA 45 524287) HT_ ?_;refine pT 20 30 (lA 45 1572863) HT_ ?_;refine tS 19 29 (lA 45 2097151) rfl rfl (take_ofW HT_.out HW_.out (by kernel_rfl)) hHeld zz24 ?_;refine tS 21 31 (lA 45 4194303) rfl rfl (take_ofW HT_.out HW_.out (by kernel_rfl)) hHeld zz24 ?_;refine one_ (i:=22) (N:=some 32) (lA 45 8388607) rfl rfl (one_of HT_.out (by kernel_rfl)) (by decide) (fun K hK=>?_);refine goes_ Try.func73 (by kernel_rfl) rfl #[.int .i64 a1_2,.int .i64 0,.int .i64 a1_1] (by rfl) rfl rfl zz2 ?_;(with_reducible refine (spec_l6In.calls a1_2 0 a1_1 true _ A12.out).mono ?_);rintro e w' ⟨rfl,⟨nd,rfl⟩⟩;refine ⟨_,rfl,?_⟩;refine hK.out _ _ ⟨(blk_cell BK163.out 0).trans rfl,(blk_cell BK163.out 1).trans rfl,(blk_cell BK163.out 2).trans rfl,(blk_cell BK163.out 3).trans rfl,(blk_cell BK163.out 4).trans rfl⟩ (fun hHeld=>?_);clear hK K;refine nS 32 ?_;refine pT 23 33 (lA 45 16777215) HT_ ?_;refine pT 24 34 (lA 45 33554431) HT_ ?_;refine pT 25 35 (lA 45 67108863) HT_ ?_;refine pT 26 36 (lA 45 134217727) HT_ ?_;refine pT 28 38 (lA 45 402653183) HT_ ?_;refine pT 30 40 (lA 45 1476395007) HT_ ?_;refine tS 27 37 (lA 45 1610612735) rfl rfl (take_ofW HT_.out HW_.out (by kernel_rfl)) hHeld zz24 ?_;refine tS 29 39 (lA 45 2147483647) rfl rfl (take_ofW HT_.out HW_.out (by kernel_rfl)) hHeld zz24 ?_;refine one_ (i:=31) (N:=some 41) (lA 45 4294967295) rfl rfl (one_of HT_.out (by kernel_rfl)) (by decide) (fun K hK=>?_)
       refine goes_ Try.func73 (by kernel_rfl) rfl #[.int .i64 a1_3,.int .i64 a1_1,.int .i64 (l1_0.length:Int)] (by rfl) rfl rfl zz2 ?_;(with_reducible refine (spec_l6In.calls a1_3 a1_1 (l1_0.length:Int) false _ A14.out).mono ?_);rintro e w' ⟨rfl,⟨nd,rfl⟩⟩;refine ⟨_,rfl,?_⟩;refine hK.out _ _ ⟨(blk_cell BK163.out 0).trans rfl,(blk_cell BK163.out 1).trans rfl,(blk_cell BK163.out 2).trans rfl,(blk_cell BK163.out 3).trans rfl,(blk_cell BK163.out 4).trans rfl⟩ (fun hHeld=>?_);clear hK K;refine nS 41 ?_;refine pT 32 42 (lA 45 8589934591) HT_ ?_;refine pT 33 43 (lA 45 17179869183) HT_ ?_;refine pT 34 44 (lA 45 34359738367) HT_ ?_;refine uT 35 45 (lA 45 68719476735) HT_ ?_;refine uT 36 46 (lA 45 137438953471) HT_ ?_;refine uT 37 47 (lA 45 274877906943) HT_ ?_;refine uT 38 48 (lA 45 549755813887) HT_ ?_;refine uT 39 49 (lA 45 1099511627775) HT_ ?_;refine uT 40 50 (lA 45 2199023255551) HT_ ?_;refine uT 41 51 (lA 45 4398046511103) HT_ ?_;refine uT 42 52 (lA 45 8796093022207) HT_ ?_;refine uT 43 53 (lA 45 17592186044415) HT_ ?_;refine pT 44 54 (lA 45 35184372088831) HT_ ?_;refine done_ (done_of HT_.out (by kernel_rfl)) ?_;try go_wp2
       go_meet
       case rel=>exact ⟨_,(true),zz5,H',⟨by first|omega|exact Nat.le_refl _⟩,⟨by (with_reducible repeat (first|refine blk_drewN ?_ _|refine blk_drew ?_|refine blk_alloc ?_ _));exact BK163.out⟩,⟨by repeat (first|(with_reducible first|exact HB.out|apply below_alloc|apply pw_below_drewN|apply below_drew1|refine below_set ?_ GE163.out)|exact HB.out)⟩⟩
     ·replace c13 := Bool.eq_false_iff.mpr c13
      subst c13;rw [if_neg (show¬(false=true) by decide)] at H;have H':=aK H;clear H;try go_wp2
      have n0_:=aK (blk_drew BK163.out);have n1_:=aK (below_drew1 HB.out);clear BK163;clear HB;have BK163:=n0_;have HB:=n1_;clear n0_ n1_;refine sT 45 (S:=fun w'=>w'.cell? ⟨gb163,0,none⟩=some (.slice A1_0 l1_0.length c1_0)∧w'.cell? ⟨gb163,1,none⟩=some (.int .i64 a1_1)∧w'.cell? ⟨gb163,2,none⟩=some (.int .i64 a1_2)∧w'.cell? ⟨gb163,3,none⟩=some (.int .i64 a1_3)∧w'.cell? ⟨gb163,4,none⟩=some (.slice A1_4 l1_4.length c1_4)) (ds:=[]) ⟨(blk_cell BK163.out 0).trans rfl,(blk_cell BK163.out 1).trans rfl,(blk_cell BK163.out 2).trans rfl,(blk_cell BK163.out 3).trans rfl,(blk_cell BK163.out 4).trans rfl⟩ (fun hHeld=>?_);refine with_tabW spec_l21Bounds.tab2 spec_l21Bounds.bits2 (fun HT_ HW_=>?_);generalize w4.drew=w21 at BK163 HB hHeld ⊢;refine pT 0 10 (lA 45 1) HT_ ?_;refine one_ (i:=1) (N:=some 11) (lA 45 3) rfl rfl (one_of HT_.out (by kernel_rfl)) (by decide) (fun K hK=>?_);refine goes_ Try.func102 (by kernel_rfl) rfl #[.slice A0 l0.length c0] (by rfl) rfl rfl zz2 ?_;(with_reducible refine (spec_ClassesOk.calls k _ _ l0 true _ ?side1 ?side2 A6.out).mono ?_)
      (case side1=>exact zz7)
      (case side2=>exact HC0.out)
      rintro e w22 ⟨rfl,hb⟩;refine ⟨_,rfl,?_⟩;have n0_:=aK (blk_below (g:=gb163) (o:= .cells #[.slice A1_0 l1_0.length c1_0,.int .i64 a1_1,.int .i64 a1_2,.int .i64 a1_3,.slice A1_4 l1_4.length c1_4] 29 (0,0)) zz43 hb);have n1_:=aK (below_step zz20 hb);clear BK163;clear HB;have BK163:=n0_;have HB:=n1_;clear n0_ n1_;(try clear hb);(try clear hb2);(try clear hk);(try clear hi);refine hK.out _ _ ⟨(blk_cell BK163.out 0).trans rfl,(blk_cell BK163.out 1).trans rfl,(blk_cell BK163.out 2).trans rfl,(blk_cell BK163.out 3).trans rfl,(blk_cell BK163.out 4).trans rfl⟩ (fun hHeld=>?_);clear hK K;refine nS 11 ?_;refine pT 2 12 (lA 45 7) HT_ ?_;refine pT 3 13 (lA 45 15) HT_ ?_;refine pT 4 14 (lA 45 31) HT_ ?_;refine tS 5 15 (lA 45 63) rfl rfl (take_ofW HT_.out HW_.out (by kernel_rfl)) hHeld zz24 ?_;refine one_ (i:=6) (N:=some 16) (lA 45 127) rfl rfl (one_of HT_.out (by kernel_rfl)) (by decide) (fun K hK=>?_);refine goes_ Try.func73 (by kernel_rfl) rfl #[.int .i64 a1_1,.int .i64 0,.int .i64 40] (by rfl) rfl rfl zz2 ?_;(with_reducible refine (spec_l6In.calls a1_1 0 40 true _ A8.out).mono ?_);rintro e w' ⟨rfl,⟨nd,rfl⟩⟩;refine ⟨_,rfl,?_⟩;refine hK.out _ _ ⟨(blk_cell BK163.out 0).trans rfl,(blk_cell BK163.out 1).trans rfl,(blk_cell BK163.out 2).trans rfl,(blk_cell BK163.out 3).trans rfl,(blk_cell BK163.out 4).trans rfl⟩ (fun hHeld=>?_);clear hK K;refine nS 16 ?_;refine pT 7 17 (lA 45 255) HT_ ?_;refine pT 8 18 (lA 45 511) HT_ ?_;refine pT 9 19 (lA 45 1023) HT_ ?_;refine pT 10 20 (lA 45 2047) HT_ ?_;refine pT 11 21 (lA 45 4095) HT_ ?_;refine tS 12 22 (lA 45 8191) rfl rfl (take_ofW HT_.out HW_.out (by kernel_rfl)) hHeld zz24 ?_;refine pT 13 23 (lA 45 16383) HT_ ?_;refine one_ (i:=14) (N:=some 24) (lA 45 32767) rfl rfl (one_of HT_.out (by kernel_rfl)) (by decide) (fun K hK=>?_);refine goes_ Try.func73 (by kernel_rfl) rfl #[.int .i64 (wrap64 ((l1_0.length:Int) - a1_1)),.int .i64 14,.int .i64 120] (by rfl) rfl rfl zz2 ?_;(with_reducible refine (spec_l6In.calls (wrap64 ((l1_0.length:Int) - a1_1)) 14 120 true _ A10.out).mono ?_);rintro e w' ⟨rfl,⟨nd,rfl⟩⟩;refine ⟨_,rfl,?_⟩;refine hK.out _ _ ⟨(blk_cell BK163.out 0).trans rfl,(blk_cell BK163.out 1).trans rfl,(blk_cell BK163.out 2).trans rfl,(blk_cell BK163.out 3).trans rfl,(blk_cell BK163.out 4).trans rfl⟩ (fun hHeld=>?_);clear hK K;refine nS 24 ?_;refine pT 15 25 (lA 45 65535) HT_ ?_;refine pT 16 26 (lA 45 131071) HT_ ?_;refine pT 17 27 (lA 45 262143) HT_ ?_;refine pT 18 28 (lA 45 524287) HT_ ?_;refine pT 20 30 (lA 45 1572863) HT_ ?_;refine tS 19 29 (lA 45 2097151) rfl rfl (take_ofW HT_.out HW_.out (by kernel_rfl)) hHeld zz24 ?_;refine tS 21 31 (lA 45 4194303) rfl rfl (take_ofW HT_.out HW_.out (by kernel_rfl)) hHeld zz24 ?_;refine one_ (i:=22) (N:=some 32) (lA 45 8388607) rfl rfl (one_of HT_.out (by kernel_rfl)) (by decide) (fun K hK=>?_);refine goes_ Try.func73 (by kernel_rfl) rfl #[.int .i64 a1_2,.int .i64 0,.int .i64 a1_1] (by rfl) rfl rfl zz2 ?_;(with_reducible refine (spec_l6In.calls a1_2 0 a1_1 false _ A12.out).mono ?_);rintro e w' ⟨rfl,⟨nd,rfl⟩⟩;refine ⟨_,rfl,?_⟩;refine hK.out _ _ ⟨(blk_cell BK163.out 0).trans rfl,(blk_cell BK163.out 1).trans rfl,(blk_cell BK163.out 2).trans rfl,(blk_cell BK163.out 3).trans rfl,(blk_cell BK163.out 4).trans rfl⟩ (fun hHeld=>?_);clear hK K;refine nS 32 ?_;refine pT 23 33 (lA 45 16777215) HT_ ?_;refine pT 24 34 (lA 45 33554431) HT_ ?_;refine pT 25 35 (lA 45 67108863) HT_ ?_;refine uT 26 36 (lA 45 134217727) HT_ ?_;refine uT 27 37 (lA 45 268435455) HT_ ?_;refine uT 28 38 (lA 45 536870911) HT_ ?_;refine uT 29 39 (lA 45 1073741823) HT_ ?_;refine uT 30 40 (lA 45 2147483647) HT_ ?_;refine uT 31 41 (lA 45 4294967295) HT_ ?_;refine uT 32 42 (lA 45 8589934591) HT_ ?_;refine pT 33 43 (lA 45 17179869183) HT_ ?_;refine pT 34 44 (lA 45 34359738367) HT_ ?_;refine uT 35 45 (lA 45 68719476735) HT_ ?_;refine uT 36 46 (lA 45 137438953471) HT_ ?_;refine uT 37 47 (lA 45 274877906943) HT_ ?_
      refine uT 38 48 (lA 45 549755813887) HT_ ?_;refine uT 39 49 (lA 45 1099511627775) HT_ ?_;refine uT 40 50 (lA 45 2199023255551) HT_ ?_;refine uT 41 51 (lA 45 4398046511103) HT_ ?_;refine uT 42 52 (lA 45 8796093022207) HT_ ?_;refine uT 43 53 (lA 45 17592186044415) HT_ ?_;refine pT 44 54 (lA 45 35184372088831) HT_ ?_;refine done_ (done_of HT_.out (by kernel_rfl)) ?_;try go_wp2
      go_meet
      case rel=>exact ⟨_,(true),zz5,H',⟨by first|omega|exact Nat.le_refl _⟩,⟨by (with_reducible repeat (first|refine blk_drewN ?_ _|refine blk_drew ?_|refine blk_alloc ?_ _));exact BK163.out⟩,⟨by repeat (first|(with_reducible first|exact HB.out|apply below_alloc|apply pw_below_drewN|apply below_drew1|refine below_set ?_ GE163.out)|exact HB.out)⟩⟩
    ·replace c11 := Bool.eq_false_iff.mpr c11
     subst c11;rw [if_neg (show¬(false=true) by decide)] at H;have H':=aK H;clear H;try go_wp2
     have n0_:=aK (blk_drew BK163.out);have n1_:=aK (below_drew1 HB.out);clear BK163;clear HB;have BK163:=n0_;have HB:=n1_;clear n0_ n1_;refine sT 45 (S:=fun w'=>w'.cell? ⟨gb163,0,none⟩=some (.slice A1_0 l1_0.length c1_0)∧w'.cell? ⟨gb163,1,none⟩=some (.int .i64 a1_1)∧w'.cell? ⟨gb163,2,none⟩=some (.int .i64 a1_2)∧w'.cell? ⟨gb163,3,none⟩=some (.int .i64 a1_3)∧w'.cell? ⟨gb163,4,none⟩=some (.slice A1_4 l1_4.length c1_4)) (ds:=[]) ⟨(blk_cell BK163.out 0).trans rfl,(blk_cell BK163.out 1).trans rfl,(blk_cell BK163.out 2).trans rfl,(blk_cell BK163.out 3).trans rfl,(blk_cell BK163.out 4).trans rfl⟩ (fun hHeld=>?_);refine with_tabW spec_l21Bounds.tab2 spec_l21Bounds.bits2 (fun HT_ HW_=>?_);generalize w4.drew=w23 at BK163 HB hHeld ⊢;refine pT 0 10 (lA 45 1) HT_ ?_;refine one_ (i:=1) (N:=some 11) (lA 45 3) rfl rfl (one_of HT_.out (by kernel_rfl)) (by decide) (fun K hK=>?_);refine goes_ Try.func102 (by kernel_rfl) rfl #[.slice A0 l0.length c0] (by rfl) rfl rfl zz2 ?_;(with_reducible refine (spec_ClassesOk.calls k _ _ l0 true _ ?side1 ?side2 A6.out).mono ?_)
     (case side1=>exact zz7)
     (case side2=>exact HC0.out)
     rintro e w24 ⟨rfl,hb⟩;refine ⟨_,rfl,?_⟩;have n0_:=aK (blk_below (g:=gb163) (o:= .cells #[.slice A1_0 l1_0.length c1_0,.int .i64 a1_1,.int .i64 a1_2,.int .i64 a1_3,.slice A1_4 l1_4.length c1_4] 29 (0,0)) zz43 hb);have n1_:=aK (below_step zz20 hb);clear BK163;clear HB;have BK163:=n0_;have HB:=n1_;clear n0_ n1_;(try clear hb);(try clear hb2);(try clear hk);(try clear hi);refine hK.out _ _ ⟨(blk_cell BK163.out 0).trans rfl,(blk_cell BK163.out 1).trans rfl,(blk_cell BK163.out 2).trans rfl,(blk_cell BK163.out 3).trans rfl,(blk_cell BK163.out 4).trans rfl⟩ (fun hHeld=>?_);clear hK K;refine nS 11 ?_;refine pT 2 12 (lA 45 7) HT_ ?_;refine pT 3 13 (lA 45 15) HT_ ?_;refine pT 4 14 (lA 45 31) HT_ ?_;refine tS 5 15 (lA 45 63) rfl rfl (take_ofW HT_.out HW_.out (by kernel_rfl)) hHeld zz24 ?_;refine one_ (i:=6) (N:=some 16) (lA 45 127) rfl rfl (one_of HT_.out (by kernel_rfl)) (by decide) (fun K hK=>?_);refine goes_ Try.func73 (by kernel_rfl) rfl #[.int .i64 a1_1,.int .i64 0,.int .i64 40] (by rfl) rfl rfl zz2 ?_;(with_reducible refine (spec_l6In.calls a1_1 0 40 true _ A8.out).mono ?_);rintro e w' ⟨rfl,⟨nd,rfl⟩⟩;refine ⟨_,rfl,?_⟩;refine hK.out _ _ ⟨(blk_cell BK163.out 0).trans rfl,(blk_cell BK163.out 1).trans rfl,(blk_cell BK163.out 2).trans rfl,(blk_cell BK163.out 3).trans rfl,(blk_cell BK163.out 4).trans rfl⟩ (fun hHeld=>?_);clear hK K;refine nS 16 ?_;refine pT 7 17 (lA 45 255) HT_ ?_;refine pT 8 18 (lA 45 511) HT_ ?_;refine pT 9 19 (lA 45 1023) HT_ ?_;refine pT 10 20 (lA 45 2047) HT_ ?_;refine pT 11 21 (lA 45 4095) HT_ ?_;refine tS 12 22 (lA 45 8191) rfl rfl (take_ofW HT_.out HW_.out (by kernel_rfl)) hHeld zz24 ?_;refine pT 13 23 (lA 45 16383) HT_ ?_;refine one_ (i:=14) (N:=some 24) (lA 45 32767) rfl rfl (one_of HT_.out (by kernel_rfl)) (by decide) (fun K hK=>?_);refine goes_ Try.func73 (by kernel_rfl) rfl #[.int .i64 (wrap64 ((l1_0.length:Int) - a1_1)),.int .i64 14,.int .i64 120] (by rfl) rfl rfl zz2 ?_;(with_reducible refine (spec_l6In.calls (wrap64 ((l1_0.length:Int) - a1_1)) 14 120 false _ A10.out).mono ?_);rintro e w' ⟨rfl,⟨nd,rfl⟩⟩;refine ⟨_,rfl,?_⟩;refine hK.out _ _ ⟨(blk_cell BK163.out 0).trans rfl,(blk_cell BK163.out 1).trans rfl,(blk_cell BK163.out 2).trans rfl,(blk_cell BK163.out 3).trans rfl,(blk_cell BK163.out 4).trans rfl⟩ (fun hHeld=>?_);clear hK K;refine nS 24 ?_;refine pT 15 25 (lA 45 65535) HT_ ?_;refine pT 16 26 (lA 45 131071) HT_ ?_;refine pT 17 27 (lA 45 262143) HT_ ?_;refine uT 18 28 (lA 45 524287) HT_ ?_;refine uT 19 29 (lA 45 1048575) HT_ ?_;refine uT 20 30 (lA 45 2097151) HT_ ?_;refine uT 21 31 (lA 45 4194303) HT_ ?_;refine uT 22 32 (lA 45 8388607) HT_ ?_;refine uT 23 33 (lA 45 16777215) HT_ ?_;refine pT 24 34 (lA 45 33554431) HT_ ?_;refine pT 25 35 (lA 45 67108863) HT_ ?_;refine uT 26 36 (lA 45 134217727) HT_ ?_;refine uT 27 37 (lA 45 268435455) HT_ ?_;refine uT 28 38 (lA 45 536870911) HT_ ?_;refine uT 29 39 (lA 45 1073741823) HT_ ?_;refine uT 30 40 (lA 45 2147483647) HT_ ?_;refine uT 31 41 (lA 45 4294967295) HT_ ?_;refine uT 32 42 (lA 45 8589934591) HT_ ?_;refine pT 33 43 (lA 45 17179869183) HT_ ?_;refine pT 34 44 (lA 45 34359738367) HT_ ?_;refine uT 35 45 (lA 45 68719476735) HT_ ?_;refine uT 36 46 (lA 45 137438953471) HT_ ?_;refine uT 37 47 (lA 45 274877906943) HT_ ?_;refine uT 38 48 (lA 45 549755813887) HT_ ?_;refine uT 39 49 (lA 45 1099511627775) HT_ ?_;refine uT 40 50 (lA 45 2199023255551) HT_ ?_;refine uT 41 51 (lA 45 4398046511103) HT_ ?_;refine uT 42 52 (lA 45 8796093022207) HT_ ?_;refine uT 43 53 (lA 45 17592186044415) HT_ ?_;refine pT 44 54 (lA 45 35184372088831) HT_ ?_;refine done_ (done_of HT_.out (by kernel_rfl)) ?_;try go_wp2
     go_meet
     case rel=>exact ⟨_,(true),zz5,H',⟨by first|omega|exact Nat.le_refl _⟩,⟨by (with_reducible repeat (first|refine blk_drewN ?_ _|refine blk_drew ?_|refine blk_alloc ?_ _));exact BK163.out⟩,⟨by repeat (first|(with_reducible first|exact HB.out|apply below_alloc|apply pw_below_drewN|apply below_drew1|refine below_set ?_ GE163.out)|exact HB.out)⟩⟩
   ·replace c9 := Bool.eq_false_iff.mpr c9
    subst c9;rw [if_neg (show¬(false=true) by decide)] at H;have H':=aK H;clear H;try go_wp2
    have n0_:=aK (blk_drew BK163.out);have n1_:=aK (below_drew1 HB.out);clear BK163;clear HB;have BK163:=n0_;have HB:=n1_;clear n0_ n1_;refine sT 45 (S:=fun w'=>w'.cell? ⟨gb163,0,none⟩=some (.slice A1_0 l1_0.length c1_0)∧w'.cell? ⟨gb163,1,none⟩=some (.int .i64 a1_1)∧w'.cell? ⟨gb163,2,none⟩=some (.int .i64 a1_2)∧w'.cell? ⟨gb163,3,none⟩=some (.int .i64 a1_3)∧w'.cell? ⟨gb163,4,none⟩=some (.slice A1_4 l1_4.length c1_4)) (ds:=[]) ⟨(blk_cell BK163.out 0).trans rfl,(blk_cell BK163.out 1).trans rfl,(blk_cell BK163.out 2).trans rfl,(blk_cell BK163.out 3).trans rfl,(blk_cell BK163.out 4).trans rfl⟩ (fun hHeld=>?_);refine with_tabW spec_l21Bounds.tab2 spec_l21Bounds.bits2 (fun HT_ HW_=>?_);generalize w4.drew=w25 at BK163 HB hHeld ⊢;refine pT 0 10 (lA 45 1) HT_ ?_;refine one_ (i:=1) (N:=some 11) (lA 45 3) rfl rfl (one_of HT_.out (by kernel_rfl)) (by decide) (fun K hK=>?_);refine goes_ Try.func102 (by kernel_rfl) rfl #[.slice A0 l0.length c0] (by rfl) rfl rfl zz2 ?_;(with_reducible refine (spec_ClassesOk.calls k _ _ l0 true _ ?side1 ?side2 A6.out).mono ?_)
    (case side1=>exact zz7)
    (case side2=>exact HC0.out)
    rintro e w26 ⟨rfl,hb⟩;refine ⟨_,rfl,?_⟩;have n0_:=aK (blk_below (g:=gb163) (o:= .cells #[.slice A1_0 l1_0.length c1_0,.int .i64 a1_1,.int .i64 a1_2,.int .i64 a1_3,.slice A1_4 l1_4.length c1_4] 29 (0,0)) zz43 hb);have n1_:=aK (below_step zz20 hb);clear BK163;clear HB;have BK163:=n0_;have HB:=n1_;clear n0_ n1_;(try clear hb);(try clear hb2);(try clear hk);(try clear hi);refine hK.out _ _ ⟨(blk_cell BK163.out 0).trans rfl,(blk_cell BK163.out 1).trans rfl,(blk_cell BK163.out 2).trans rfl,(blk_cell BK163.out 3).trans rfl,(blk_cell BK163.out 4).trans rfl⟩ (fun hHeld=>?_);clear hK K;refine nS 11 ?_;refine pT 2 12 (lA 45 7) HT_ ?_;refine pT 3 13 (lA 45 15) HT_ ?_;refine pT 4 14 (lA 45 31) HT_ ?_;refine tS 5 15 (lA 45 63) rfl rfl (take_ofW HT_.out HW_.out (by kernel_rfl)) hHeld zz24 ?_;refine one_ (i:=6) (N:=some 16) (lA 45 127) rfl rfl (one_of HT_.out (by kernel_rfl)) (by decide) (fun K hK=>?_);refine goes_ Try.func73 (by kernel_rfl) rfl #[.int .i64 a1_1,.int .i64 0,.int .i64 40] (by rfl) rfl rfl zz2 ?_;(with_reducible refine (spec_l6In.calls a1_1 0 40 false _ A8.out).mono ?_);rintro e w' ⟨rfl,⟨nd,rfl⟩⟩;refine ⟨_,rfl,?_⟩;refine hK.out _ _ ⟨(blk_cell BK163.out 0).trans rfl,(blk_cell BK163.out 1).trans rfl,(blk_cell BK163.out 2).trans rfl,(blk_cell BK163.out 3).trans rfl,(blk_cell BK163.out 4).trans rfl⟩ (fun hHeld=>?_);clear hK K;refine nS 16 ?_;refine pT 7 17 (lA 45 255) HT_ ?_;refine pT 8 18 (lA 45 511) HT_ ?_;refine pT 9 19 (lA 45 1023) HT_ ?_;refine uT 10 20 (lA 45 2047) HT_ ?_;refine uT 11 21 (lA 45 4095) HT_ ?_;refine uT 12 22 (lA 45 8191) HT_ ?_;refine uT 13 23 (lA 45 16383) HT_ ?_;refine uT 14 24 (lA 45 32767) HT_ ?_;refine uT 15 25 (lA 45 65535) HT_ ?_;refine pT 16 26 (lA 45 131071) HT_ ?_;refine pT 17 27 (lA 45 262143) HT_ ?_;refine uT 18 28 (lA 45 524287) HT_ ?_;refine uT 19 29 (lA 45 1048575) HT_ ?_;refine uT 20 30 (lA 45 2097151) HT_ ?_;refine uT 21 31 (lA 45 4194303) HT_ ?_;refine uT 22 32 (lA 45 8388607) HT_ ?_;refine uT 23 33 (lA 45 16777215) HT_ ?_;refine pT 24 34 (lA 45 33554431) HT_ ?_;refine pT 25 35 (lA 45 67108863) HT_ ?_;refine uT 26 36 (lA 45 134217727) HT_ ?_;refine uT 27 37 (lA 45 268435455) HT_ ?_;refine uT 28 38 (lA 45 536870911) HT_ ?_;refine uT 29 39 (lA 45 1073741823) HT_ ?_;refine uT 30 40 (lA 45 2147483647) HT_ ?_;refine uT 31 41 (lA 45 4294967295) HT_ ?_;refine uT 32 42 (lA 45 8589934591) HT_ ?_;refine pT 33 43 (lA 45 17179869183) HT_ ?_;refine pT 34 44 (lA 45 34359738367) HT_ ?_;refine uT 35 45 (lA 45 68719476735) HT_ ?_;refine uT 36 46 (lA 45 137438953471) HT_ ?_;refine uT 37 47 (lA 45 274877906943) HT_ ?_;refine uT 38 48 (lA 45 549755813887) HT_ ?_;refine uT 39 49 (lA 45 1099511627775) HT_ ?_;refine uT 40 50 (lA 45 2199023255551) HT_ ?_;refine uT 41 51 (lA 45 4398046511103) HT_ ?_;refine uT 42 52 (lA 45 8796093022207) HT_ ?_;refine uT 43 53 (lA 45 17592186044415) HT_ ?_;refine pT 44 54 (lA 45 35184372088831) HT_ ?_;refine done_ (done_of HT_.out (by kernel_rfl)) ?_;try go_wp2
    go_meet
    case rel=>exact ⟨_,(true),zz5,H',⟨by first|omega|exact Nat.le_refl _⟩,⟨by (with_reducible repeat (first|refine blk_drewN ?_ _|refine blk_drew ?_|refine blk_alloc ?_ _));exact BK163.out⟩,⟨by repeat (first|(with_reducible first|exact HB.out|apply below_alloc|apply pw_below_drewN|apply below_drew1|refine below_set ?_ GE163.out)|exact HB.out)⟩⟩
  ·replace c7 := Bool.eq_false_iff.mpr c7
   subst c7;rw [if_neg (show¬(false=true) by decide)] at H;have H':=aK H;clear H;try go_wp2
   have n0_:=aK (blk_drew BK163.out);have n1_:=aK (below_drew1 HB.out);clear BK163;clear HB;have BK163:=n0_;have HB:=n1_;clear n0_ n1_;refine sT 45 (S:=fun w'=>True) (ds:=[]) trivial (fun hHeld=>?_);refine with_tabW spec_l21Bounds.tab2 spec_l21Bounds.bits2 (fun HT_ HW_=>?_);generalize w4.drew=w27 at BK163 HB hHeld ⊢;refine pT 0 10 (lA 45 1) HT_ ?_;refine one_ (i:=1) (N:=some 11) (lA 45 3) rfl rfl (one_of HT_.out (by kernel_rfl)) (by decide) (fun K hK=>?_);refine goes_ Try.func102 (by kernel_rfl) rfl #[.slice A0 l0.length c0] (by rfl) rfl rfl zz2 ?_;(with_reducible refine (spec_ClassesOk.calls k _ _ l0 false _ ?side1 ?side2 A6.out).mono ?_)
   (case side1=>exact zz7)
   (case side2=>exact HC0.out)
   rintro e w28 ⟨rfl,hb⟩;refine ⟨_,rfl,?_⟩;have n0_:=aK (blk_below (g:=gb163) (o:= .cells #[.slice A1_0 l1_0.length c1_0,.int .i64 a1_1,.int .i64 a1_2,.int .i64 a1_3,.slice A1_4 l1_4.length c1_4] 29 (0,0)) zz43 hb);have n1_:=aK (below_step zz20 hb);clear BK163;clear HB;have BK163:=n0_;have HB:=n1_;clear n0_ n1_;(try clear hb);(try clear hb2);(try clear hk);(try clear hi);refine hK.out _ _ trivial (fun hHeld=>?_);clear hK K;refine nS 11 ?_;refine pT 2 12 (lA 45 7) HT_ ?_;refine pT 3 13 (lA 45 15) HT_ ?_;refine uT 4 14 (lA 45 31) HT_ ?_;refine uT 5 15 (lA 45 63) HT_ ?_;refine uT 6 16 (lA 45 127) HT_ ?_;refine uT 7 17 (lA 45 255) HT_ ?_;refine pT 8 18 (lA 45 511) HT_ ?_;refine pT 9 19 (lA 45 1023) HT_ ?_;refine uT 10 20 (lA 45 2047) HT_ ?_;refine uT 11 21 (lA 45 4095) HT_ ?_;refine uT 12 22 (lA 45 8191) HT_ ?_;refine uT 13 23 (lA 45 16383) HT_ ?_;refine uT 14 24 (lA 45 32767) HT_ ?_;refine uT 15 25 (lA 45 65535) HT_ ?_;refine pT 16 26 (lA 45 131071) HT_ ?_;refine pT 17 27 (lA 45 262143) HT_ ?_;refine uT 18 28 (lA 45 524287) HT_ ?_;refine uT 19 29 (lA 45 1048575) HT_ ?_;refine uT 20 30 (lA 45 2097151) HT_ ?_;refine uT 21 31 (lA 45 4194303) HT_ ?_;refine uT 22 32 (lA 45 8388607) HT_ ?_;refine uT 23 33 (lA 45 16777215) HT_ ?_;refine pT 24 34 (lA 45 33554431) HT_ ?_;refine pT 25 35 (lA 45 67108863) HT_ ?_;refine uT 26 36 (lA 45 134217727) HT_ ?_;refine uT 27 37 (lA 45 268435455) HT_ ?_;refine uT 28 38 (lA 45 536870911) HT_ ?_;refine uT 29 39 (lA 45 1073741823) HT_ ?_;refine uT 30 40 (lA 45 2147483647) HT_ ?_;refine uT 31 41 (lA 45 4294967295) HT_ ?_;refine uT 32 42 (lA 45 8589934591) HT_ ?_;refine pT 33 43 (lA 45 17179869183) HT_ ?_;refine pT 34 44 (lA 45 34359738367) HT_ ?_;refine uT 35 45 (lA 45 68719476735) HT_ ?_;refine uT 36 46 (lA 45 137438953471) HT_ ?_;refine uT 37 47 (lA 45 274877906943) HT_ ?_;refine uT 38 48 (lA 45 549755813887) HT_ ?_;refine uT 39 49 (lA 45 1099511627775) HT_ ?_;refine uT 40 50 (lA 45 2199023255551) HT_ ?_;refine uT 41 51 (lA 45 4398046511103) HT_ ?_;refine uT 42 52 (lA 45 8796093022207) HT_ ?_;refine uT 43 53 (lA 45 17592186044415) HT_ ?_;refine pT 44 54 (lA 45 35184372088831) HT_ ?_;refine done_ (done_of HT_.out (by kernel_rfl)) ?_;try go_wp2
   go_meet
   case rel=>exact ⟨_,(true),zz5,H',⟨by first|omega|exact Nat.le_refl _⟩,⟨by (with_reducible repeat (first|refine blk_drewN ?_ _|refine blk_drew ?_|refine blk_alloc ?_ _));exact BK163.out⟩,⟨by repeat (first|(with_reducible first|exact HB.out|apply below_alloc|apply pw_below_drewN|apply below_drew1|refine below_set ?_ GE163.out)|exact HB.out)⟩⟩
 case rest =>
  clear HC3;(try clear c1);(try clear p2);(try clear c7);(try clear c9);(try clear c10);obtain ⟨kq,x54_2,rfl,HA,HJ2,BK163,HB⟩:=hcut
  cases kq with
  |zero=>exact absurd HA.out (by simp [spec_l21Bounds.j0])
  | succ kj2 =>
   have H:=HA.out;clear HA;simp only [spec_l21Bounds.j0] at H;by_cases c29:x54_2=true
   ·subst c29
    rw [if_pos rfl] at H;obtain rfl:=Option.some.inj H;go_wp2;go_ret;exact ⟨zz6,zz20⟩
   ·replace c29 := Bool.eq_false_iff.mpr c29
    subst c29;rw [if_neg (show¬(false=true) by decide)] at H;have H':=aK H;clear H;go_wp2
    go_loopg [6] kj2 (fun kq v6 w'=> ∃(x6_2:Int),v6= .int .i64 x6_2∧Aside0 (spec_l21Bounds.l0 kq (l1_0.length:Int) x6_2 l1_0 a1_1 a1_2 a1_3 l1_4=some r)∧Aside0 (kq≤kj2)∧Aside0 (w'.heap[gb163]? =some (.cells #[(.slice A1_0 l1_0.length c1_0),.int .i64 a1_1,.int .i64 a1_2,.int .i64 a1_3,(.slice A1_4 l1_4.length c1_4)] 29 (0,0)))∧Aside0 (Below w.heap.size w w'))
    case atStart=>exact ⟨(0),zz5,H',⟨Nat.le_refl _⟩,⟨by (with_reducible repeat (first|refine blk_drewN ?_ _|refine blk_drew ?_|refine blk_alloc ?_ _));exact BK163.out⟩,⟨by repeat (first|(with_reducible first|exact HB.out|apply below_alloc|apply pw_below_drewN|apply below_drew1|refine below_set ?_ GE163.out)|exact HB.out)⟩⟩
    case round =>
     clear H';(try clear c1);(try clear c2);(try clear p2);(try clear c7);(try clear c9);(try clear c10);(try clear c29);(try clear p2);obtain ⟨x6_2,rfl,HA,HK2,BK163,HB⟩:=hrel
     cases gk with
     |zero=>exact absurd HA.out (by simp [spec_l21Bounds.l0])
     | succ k2 =>
      have H:=HA.out;clear HA;simp only [spec_l21Bounds.l0] at H;by_cases c30:x6_2<(l1_0.length:Int)
      ·rw [if_pos c30] at H
       have c30b0:decide (x6_2<(l1_0.length:Int))=true:=decide_eq_true c30
       clear c30;replace H:=Option.bind_eq_some_iff.mp H;obtain ⟨t170,A310,H⟩:=H;(try dsimp only at H);have A31:=aK A310;clear A310;by_cases c32:t170=true
       ·subst c32
        rw [if_pos rfl] at H;by_cases c33:0≤x6_2
        ·rw [if_pos c33] at H
         have c33b0:decide (0≤x6_2)=true:=decide_eq_true c33
         clear c33;by_cases c34:x6_2<(l1_0.length:Int)
         ·rw [if_pos c34] at H
          have c34b0:decide (x6_2<(l1_0.length:Int))=true:=decide_eq_true c34
          clear c34;by_cases c35:(rd l1_0 x6_2)=0
          ·rw [if_pos c35] at H
           have c35b0:((rd l1_0 x6_2)==0)=true:=beq_iff_eq.mpr c35
           have c35b1:((rd l1_0 x6_2) !=0)=false:=bne_eq_false_iff_eq.mpr c35
           clear c35;have H':=aK H;clear H;obtain ⟨hcz36_0,hcz36_1,hcz36_2,hcz36_3,hcz36_4,hfz36_0,hfz36_1,hfz36_2,hfz36_3,hfz36_4⟩:=cbf5 BK163
           go_wp2_with (first|((with_reducible refine gate_callee (f:=73) rfl ?_);refine goesL_ (some 66) rfl rfl Try.func73 (by kernel_rfl) rfl #[.int .i64 x6_2,.int .i64 a1_2,.int .i64 (wrap64 (a1_1 - 1))] rfl zz2 ?_;(with_reducible refine (spec_l6In.calls x6_2 a1_2 (wrap64 (a1_1 - 1)) true _ A31.out).mono ?_);rintro e w' ⟨rfl,⟨nd,rfl⟩⟩;refine ⟨_,rfl,?_⟩;have p171:0≤(x6_2:Int):=of_decide_eq_true zz3;have q171:x6_2<(l1_0.length:Int):=of_decide_eq_true zz3;obtain ⟨ad171,e171,hx171_0⟩:=Kd.at_int HR1_0.out x6_2 p171 q171;cases e171;replace hx171_0:=(HB.out.cell (World.block_lt_of_cell? w _ hx171_0)).trans hx171_0;replace p171:=eq_true p171;replace q171:=eq_true q171))
           go_roundg k2
           case measure=>have:=HJ2.out;have:=HK2.out;omega
           case rel=>exact ⟨(wrap64 (x6_2+1)),zz5,H',⟨by have:=HJ2.out;have:=HK2.out;omega⟩,⟨by (with_reducible repeat (first|refine blk_drewN ?_ _|refine blk_drew ?_|refine blk_alloc ?_ _));exact BK163.out⟩,⟨by repeat (first|(with_reducible first|exact HB.out|apply below_alloc|apply pw_below_drewN|apply below_drew1|refine below_set ?_ GE163.out)|exact HB.out)⟩⟩
          ·rw [if_neg c35] at H
           have c35b0:((rd l1_0 x6_2)==0)=false:=beq_eq_false_iff_ne.mpr c35
           have c35b1:((rd l1_0 x6_2) !=0)=true:=bne_iff_ne.mpr c35
           obtain rfl:=Option.some.inj H;obtain ⟨hcz37_0,hcz37_1,hcz37_2,hcz37_3,hcz37_4,hfz37_0,hfz37_1,hfz37_2,hfz37_3,hfz37_4⟩:=cbf5 BK163
           go_wp2_with (first|((with_reducible refine gate_callee (f:=73) rfl ?_);refine goesL_ (some 66) rfl rfl Try.func73 (by kernel_rfl) rfl #[.int .i64 x6_2,.int .i64 a1_2,.int .i64 (wrap64 (a1_1 - 1))] rfl zz2 ?_;(with_reducible refine (spec_l6In.calls x6_2 a1_2 (wrap64 (a1_1 - 1)) true _ A31.out).mono ?_);rintro e w' ⟨rfl,⟨nd,rfl⟩⟩;refine ⟨_,rfl,?_⟩;have p171:0≤(x6_2:Int):=of_decide_eq_true zz3;have q171:x6_2<(l1_0.length:Int):=of_decide_eq_true zz3;obtain ⟨ad171,e171,hx171_0⟩:=Kd.at_int HR1_0.out x6_2 p171 q171;cases e171;replace hx171_0:=(HB.out.cell (World.block_lt_of_cell? w _ hx171_0)).trans hx171_0;replace p171:=eq_true p171;replace q171:=eq_true q171))
           go_ret;exact ⟨zz6,zz20⟩
         ·rw [if_neg c34] at H
          exact absurd H (by simp)
        ·rw [if_neg c33] at H
         exact absurd H (by simp)
       ·replace c32 := Bool.eq_false_iff.mpr c32
        subst c32;rw [if_neg (show¬(false=true) by decide)] at H;by_cases c38:x6_2≥a1_3
        ·rw [if_pos c38] at H
         have c38b0:decide (a1_3≤x6_2)=true:=decide_eq_true c38
         clear c38;by_cases c39:0≤x6_2
         ·rw [if_pos c39] at H
          have c39b0:decide (0≤x6_2)=true:=decide_eq_true c39
          clear c39;by_cases c40:x6_2<(l1_0.length:Int)
          ·rw [if_pos c40] at H
           have c40b0:decide (x6_2<(l1_0.length:Int))=true:=decide_eq_true c40
           clear c40;by_cases c41:(rd l1_0 x6_2)=0
           ·rw [if_pos c41] at H
            have c41b0:((rd l1_0 x6_2)==0)=true:=beq_iff_eq.mpr c41
            have c41b1:((rd l1_0 x6_2) !=0)=false:=bne_eq_false_iff_eq.mpr c41
            clear c41;have H':=aK H;clear H;obtain ⟨hcz42_0,hcz42_1,hcz42_2,hcz42_3,hcz42_4,hfz42_0,hfz42_1,hfz42_2,hfz42_3,hfz42_4⟩:=cbf5 BK163
            go_wp2_with (first|((with_reducible refine gate_callee (f:=73) rfl ?_);refine goesL_ (some 66) rfl rfl Try.func73 (by kernel_rfl) rfl #[.int .i64 x6_2,.int .i64 a1_2,.int .i64 (wrap64 (a1_1 - 1))] rfl zz2 ?_;(with_reducible refine (spec_l6In.calls x6_2 a1_2 (wrap64 (a1_1 - 1)) false _ A31.out).mono ?_);rintro e w' ⟨rfl,⟨nd,rfl⟩⟩;refine ⟨_,rfl,?_⟩;have p172:0≤(x6_2:Int):=of_decide_eq_true zz3;have q172:x6_2<(l1_0.length:Int):=of_decide_eq_true zz3;obtain ⟨ad172,e172,hx172_0⟩:=Kd.at_int HR1_0.out x6_2 p172 q172;cases e172;replace hx172_0:=(HB.out.cell (World.block_lt_of_cell? w _ hx172_0)).trans hx172_0;replace p172:=eq_true p172;replace q172:=eq_true q172))
            go_roundg k2
            case measure=>have:=HJ2.out;have:=HK2.out;omega
            case rel=>exact ⟨(wrap64 (x6_2+1)),zz5,H',⟨by have:=HJ2.out;have:=HK2.out;omega⟩,⟨by (with_reducible repeat (first|refine blk_drewN ?_ _|refine blk_drew ?_|refine blk_alloc ?_ _));exact BK163.out⟩,⟨by repeat (first|(with_reducible first|exact HB.out|apply below_alloc|apply pw_below_drewN|apply below_drew1|refine below_set ?_ GE163.out)|exact HB.out)⟩⟩
           ·rw [if_neg c41] at H
            have c41b0:((rd l1_0 x6_2)==0)=false:=beq_eq_false_iff_ne.mpr c41
            have c41b1:((rd l1_0 x6_2) !=0)=true:=bne_iff_ne.mpr c41
            obtain rfl:=Option.some.inj H;obtain ⟨hcz43_0,hcz43_1,hcz43_2,hcz43_3,hcz43_4,hfz43_0,hfz43_1,hfz43_2,hfz43_3,hfz43_4⟩:=cbf5 BK163
            go_wp2_with (first|((with_reducible refine gate_callee (f:=73) rfl ?_);refine goesL_ (some 66) rfl rfl Try.func73 (by kernel_rfl) rfl #[.int .i64 x6_2,.int .i64 a1_2,.int .i64 (wrap64 (a1_1 - 1))] rfl zz2 ?_;(with_reducible refine (spec_l6In.calls x6_2 a1_2 (wrap64 (a1_1 - 1)) false _ A31.out).mono ?_);rintro e w' ⟨rfl,⟨nd,rfl⟩⟩;refine ⟨_,rfl,?_⟩;have p172:0≤(x6_2:Int):=of_decide_eq_true zz3;have q172:x6_2<(l1_0.length:Int):=of_decide_eq_true zz3;obtain ⟨ad172,e172,hx172_0⟩:=Kd.at_int HR1_0.out x6_2 p172 q172;cases e172;replace hx172_0:=(HB.out.cell (World.block_lt_of_cell? w _ hx172_0)).trans hx172_0;replace p172:=eq_true p172;replace q172:=eq_true q172))
            go_ret;exact ⟨zz6,zz20⟩
          ·rw [if_neg c40] at H
           exact absurd H (by simp)
         ·rw [if_neg c39] at H
          exact absurd H (by simp)
        ·rw [if_neg c38] at H
         have c38b0:decide (a1_3≤x6_2)=false:=decide_eq_false c38
         clear c38;have H':=aK H;clear H;obtain ⟨hcz44_0,hcz44_1,hcz44_2,hcz44_3,hcz44_4,hfz44_0,hfz44_1,hfz44_2,hfz44_3,hfz44_4⟩:=cbf5 BK163
         go_wp2_with (first|((with_reducible refine gate_callee (f:=73) rfl ?_);refine goesL_ (some 66) rfl rfl Try.func73 (by kernel_rfl) rfl #[.int .i64 x6_2,.int .i64 a1_2,.int .i64 (wrap64 (a1_1 - 1))] rfl zz2 ?_;(with_reducible refine (spec_l6In.calls x6_2 a1_2 (wrap64 (a1_1 - 1)) false _ A31.out).mono ?_);rintro e w' ⟨rfl,⟨nd,rfl⟩⟩;refine ⟨_,rfl,?_⟩))
         go_roundg k2
         case measure=>have:=HJ2.out;have:=HK2.out;omega
         case rel=>exact ⟨(wrap64 (x6_2+1)),zz5,H',⟨by have:=HJ2.out;have:=HK2.out;omega⟩,⟨by (with_reducible repeat (first|refine blk_drewN ?_ _|refine blk_drew ?_|refine blk_alloc ?_ _));exact BK163.out⟩,⟨by repeat (first|(with_reducible first|exact HB.out|apply below_alloc|apply pw_below_drewN|apply below_drew1|refine below_set ?_ GE163.out)|exact HB.out)⟩⟩
      ·rw [if_neg c30] at H
       have c30b0:decide (x6_2<(l1_0.length:Int))=false:=decide_eq_false c30
       clear c30;obtain rfl:=Option.some.inj H;go_wp2;go_ret;exact ⟨zz6,zz20⟩
end Go.Proofs.Ytbaklikaoleplaa.K
namespace Go.Proofs.Ytbaklikaoleplaa.K
open Go.RowKit Go.Proofs.YtbaklikaoleplaaW.PrintWords Go.Proofs.YtbaklikaoleplaaW.PrintLast Go.Proofs.YtbaklikaoleplaaW.PrintMore
attribute [local go_sem] max2_int min2_int max_two min_two max_three min_three max_four min_four
set_option linter.unusedVariables false
set_option linter.unusedSimpArgs false
def spec_l21Head.f (a0:Int):Option (Int):=if a0<0 then (some 2) else (some 1)
set_option maxHeartbeats 8000000 in
set_option maxRecDepth 100000 in
theorem spec_l21Head.calls (a0:Int) (r:Int) (w:World) (h:spec_l21Head.f a0=some r):
  Calls Try.prog 104 #[.int .i64 a0] w fun e w'=>e= .returned (.int .i64 r)∧Drawn0 w w':=by
 have H:(if a0<0 then (some 2) else (some 1))=some r:=h
 clear h;by_cases c2:a0<0
 ·rw [if_pos c2] at H
  have c2b0:decide (a0<0)=true:=decide_eq_true c2
  clear c2;obtain rfl:=Option.some.inj H;go_enter Try.func104,Try.ntmps104;go_wp2;go_ret;exact ⟨zz5,zz10⟩
 ·rw [if_neg c2] at H
  have c2b0:decide (a0<0)=false:=decide_eq_false c2
  clear c2;obtain rfl:=Option.some.inj H;go_enter Try.func104,Try.ntmps104;go_wp2;go_ret;exact ⟨zz5,zz10⟩
end Go.Proofs.Ytbaklikaoleplaa.K
namespace Go.Proofs.Ytbaklikaoleplaa.K
open Go.RowKit Go.Proofs.YtbaklikaoleplaaW.PrintWords Go.Proofs.YtbaklikaoleplaaW.PrintLast Go.Proofs.YtbaklikaoleplaaW.PrintMore
attribute [local go_sem] max2_int min2_int max_two min_two max_three min_three max_four min_four
set_option linter.unusedVariables false
set_option linter.unusedSimpArgs false
def spec_l1Word.f (a0:Int):Option (Bool):=(spec_l6In.f a0 (-128) 127).bind fun t188=>(some t188)
set_option maxHeartbeats 8000000 in
set_option maxRecDepth 100000 in
theorem spec_l1Word.calls (a0:Int) (r:Bool) (w:World) (h:spec_l1Word.f a0=some r):
  Calls Try.prog 105 #[.int .i64 a0] w fun e w'=>e= .returned (.bool r)∧Drawn0 w w':=by
 have H:((spec_l6In.f a0 (-128) 127).bind fun t188=>(some t188))=some r:=h
 clear h;replace H:=Option.bind_eq_some_iff.mp H;obtain ⟨t188,A20,H⟩:=H;(try dsimp only at H);have A2:=aK A20;clear A20;obtain rfl:=Option.some.inj H;go_enter Try.func105,Try.ntmps105
 go_wp2_with (first|((with_reducible refine gate_callee (f:=73) rfl ?_);refine goesL_ (some 4) rfl rfl Try.func73 (by kernel_rfl) rfl #[.int .i64 a0,.int .i64 (-128),.int .i64 127] rfl zz2 ?_;(with_reducible refine (spec_l6In.calls a0 (-128) 127 t188 _ A2.out).mono ?_);rintro e w' ⟨rfl,⟨nd,rfl⟩⟩;refine ⟨_,rfl,?_⟩))
 go_ret;exact ⟨zz5,zz10⟩
end Go.Proofs.Ytbaklikaoleplaa.K
namespace Go.Proofs.Ytbaklikaoleplaa.K
open Go.RowKit Go.Proofs.YtbaklikaoleplaaW.PrintWords Go.Proofs.YtbaklikaoleplaaW.PrintLast Go.Proofs.YtbaklikaoleplaaW.PrintMore
attribute [local go_sem] max2_int min2_int max_two min_two max_three min_three max_four min_four
set_option linter.unusedVariables false
set_option linter.unusedSimpArgs false
def spec_l21Lead.f (l0:List Bool) (a1:Int):Option (Bool):=if a1=0 then (some true) else ((spec_l6In.f a1 1 (l0.length:Int)).bind fun t173=>(if t173=true then (if 0≤(wrap64 (a1 - 1)) then (if (wrap64 (a1 - 1))<(l0.length:Int) then (some (rdOf false l0 (wrap64 (a1 - 1)))) else (none)) else (none)) else (some false)))
set_option maxHeartbeats 8000000 in
set_option maxRecDepth 100000 in
theorem spec_l21Lead.calls (A0:Option Addr) (c0:Nat) (l0:List Bool) (a1:Int) (r:Bool) (w:World) (hr0:Kd.C Kd.bool w A0 l0.length l0) (hc0:l0.length≤c0) (h:spec_l21Lead.f l0 a1=some r):
  Calls Try.prog 43 #[.slice A0 l0.length c0,.int .i64 a1] w fun e w'=>e= .returned (.bool r)∧Drawn0 w w':=by
 have HR0:=aK hr0;have HC0:=aK hc0;clear hr0 hc0;have H:(if a1=0 then (some true) else ((spec_l6In.f a1 1 (l0.length:Int)).bind fun t173=>(if t173=true then (if 0≤(wrap64 (a1 - 1)) then (if (wrap64 (a1 - 1))<(l0.length:Int) then (some (rdOf false l0 (wrap64 (a1 - 1)))) else (none)) else (none)) else (some false))))=some r:=h
 clear h;by_cases c3:a1=0
 ·rw [if_pos c3] at H
  have c3b0:(a1==0)=true:=beq_iff_eq.mpr c3
  have c3b1:(a1 !=0)=false:=bne_eq_false_iff_eq.mpr c3
  clear c3;obtain rfl:=Option.some.inj H;go_enter Try.func43,Try.ntmps43;go_wp2;go_ret;exact ⟨zz5,zz10⟩
 ·rw [if_neg c3] at H
  have c3b0:(a1==0)=false:=beq_eq_false_iff_ne.mpr c3
  have c3b1:(a1 !=0)=true:=bne_iff_ne.mpr c3
  replace H:=Option.bind_eq_some_iff.mp H;obtain ⟨t173,A40,H⟩:=H;(try dsimp only at H);have A4:=aK A40;clear A40;by_cases c5:t173=true
  ·subst c5
   rw [if_pos rfl] at H;obtain ⟨ji6,hji6⟩: ∃j_:Int,(wrap64 (a1 - 1))=j_:=⟨_,rfl⟩;replace H:(if 0≤(ji6) then (if (ji6)<(l0.length:Int) then (some (rdOf false l0 (ji6))) else (none)) else (none))=some r:=by first|(rw [hji6] at H;exact H)|(simp only [hji6] at H ⊢;exact H)
   (try rw [hji6] at A4)
   have hji6w:(IntKind.i64.wrap (a1 - 1))=ji6:=(i64_w _).trans hji6
   by_cases c7:0≤(ji6)
   ·rw [if_pos c7] at H
    have c7b0:decide (0≤(ji6))=true:=decide_eq_true c7
    clear c7;by_cases c8:(ji6)<(l0.length:Int)
    ·rw [if_pos c8] at H
     have c8b0:decide ((ji6)<(l0.length:Int))=true:=decide_eq_true c8
     clear c8;obtain rfl:=Option.some.inj H;go_enter Try.func43,Try.ntmps43
     go_wp2_with (first|(go_at_call 73;(with_reducible refine (spec_l6In.calls a1 1 (l0.length:Int) true _ A4.out).mono ?_);rintro e w' ⟨rfl,⟨nd,rfl⟩⟩;have p174:0≤((ji6):Int):=of_decide_eq_true zz3;have q174:(ji6)<(l0.length:Int):=of_decide_eq_true zz3;obtain ⟨ad174,e174,hx174_0⟩:=Kd.at_bool HR0.out (ji6) p174 q174;cases e174;replace p174:=eq_true p174;replace q174:=eq_true q174))
     go_ret;exact ⟨(by first|rfl|(simp;done)|(simp only [←hji6]<;>(first|rfl|simp))|(simp [*];done)),zz10⟩
    ·rw [if_neg c8] at H
     exact absurd H (by simp)
   ·rw [if_neg c7] at H
    exact absurd H (by simp)
  ·replace c5 := Bool.eq_false_iff.mpr c5
   subst c5;rw [if_neg (show¬(false=true) by decide)] at H;obtain rfl:=Option.some.inj H;go_enter Try.func43,Try.ntmps43
   go_wp2_with (first|(go_at_call 73;(with_reducible refine (spec_l6In.calls a1 1 (l0.length:Int) false _ A4.out).mono ?_);rintro e w' ⟨rfl,⟨nd,rfl⟩⟩))
   go_ret;exact ⟨zz5,zz10⟩
end Go.Proofs.Ytbaklikaoleplaa.K
namespace Go.Proofs.Ytbaklikaoleplaa.K
open Go.RowKit Go.Proofs.YtbaklikaoleplaaW.PrintWords Go.Proofs.YtbaklikaoleplaaW.PrintLast Go.Proofs.YtbaklikaoleplaaW.PrintMore
attribute [local go_sem] max2_int min2_int max_two min_two max_three min_three max_four min_four
set_option linter.unusedVariables false
set_option linter.unusedSimpArgs false
def spec_l21Refs.l0:Nat→List (S53)→List Bool→Int→Int→Option (List Bool)
  |0,_,_,_,_=>none
  |k+1,x0,x7,x8,x9=>if x9<(x7.length:Int) then (if x8=(-2) then (if 0≤x9 then (spec_l21Refs.l0 k x0 (x7.set (x9:Int).toNat true) x8 (wrap64 (x9+1))) else (none)) else (if x8≥0 then ((spec_l2Fields.f k x0 x8).bind fun t182=>(if 0≤(wrap64 (x9 - 1)) then (if (wrap64 (x9 - 1))<(t182.length:Int) then (if 0≤x9 then (spec_l21Refs.l0 k x0 (x7.set (x9:Int).toNat ((rd t182 (wrap64 (x9 - 1))) !=1)) x8 (wrap64 (x9+1))) else (none)) else (none)) else (none))) else (if 0≤x9 then (spec_l21Refs.l0 k x0 (x7.set (x9:Int).toNat false) x8 (wrap64 (x9+1))) else (none)))) else (some x7)
def spec_l21Refs.f (k:Nat) (l0:List (S53)) (l1:List Int) (a2:Int):Option (List Bool):=(spec_l21Size.f k l0 l1 a2 (l1.length:Int)).bind fun t175=>(if 0≤t175 then (if (t175:Int).toNat≤281474976710656 then (if 0≤a2 then (if a2<(l1.length:Int) then ((spec_l21Head.f (rd l1 a2)).bind fun t180=>(spec_l21Refs.l0 k l0 (List.replicate (t175:Int).toNat false) (rd l1 a2) t180)) else (none)) else (none)) else (none)) else (none))
set_option maxHeartbeats 8000000 in
set_option maxRecDepth 100000 in
theorem spec_l21Refs.calls (k : Nat) (A0 : Option Addr) (c0 : Nat) (l0 : List (S53)) (A1 : Option Addr) (c1 : Nat) (l1 : List Int) (a2 : Int) (r : List Bool) (w : World) (hr0 : Kd.C k53 w A0 l0.length l0) (hc0 : l0.length ≤ c0) (hr1 : Kd.C (Kd.int .i64) w A1 l1.length l1) (hc1 : l1.length ≤ c1) (h : spec_l21Refs.f k l0 l1 a2 = some r) :
  Calls Try.prog 74 #[.slice A0 l0.length c0,.slice A1 l1.length c1,.int .i64 a2] w fun e w'=> ∃v0_:Value,e= .returned (v0_)∧Kd.R Kd.bool 4 w' w.heap.size (fun _=>True) v0_ r∧Below w.heap.size w w':=by
 have HR0:=aK hr0;have HC0:=aK hc0;clear hr0 hc0;have HR1:=aK hr1;have HC1:=aK hc1;clear hr1 hc1;have HB:=aK (Below.refl w.heap.size w);have H:((spec_l21Size.f k l0 l1 a2 (l1.length:Int)).bind fun t175=>(if 0≤t175 then (if (t175:Int).toNat≤281474976710656 then (if 0≤a2 then (if a2<(l1.length:Int) then ((spec_l21Head.f (rd l1 a2)).bind fun t180=>(spec_l21Refs.l0 k l0 (List.replicate (t175:Int).toNat false) (rd l1 a2) t180)) else (none)) else (none)) else (none)) else (none)))=some r:=h
 clear h;replace H:=Option.bind_eq_some_iff.mp H;obtain ⟨t175,A40,H⟩:=H;(try dsimp only at H);have A4:=aK A40;clear A40;by_cases c5:0≤t175
 ·rw [if_pos c5] at H
  have c5b0:=eq_true c5;have c5b1:decide (0≤t175)=true:=decide_eq_true c5
  clear c5;by_cases c6:(t175:Int).toNat≤281474976710656
  ·rw [if_pos c6] at H
   have c6b0:=eq_true c6;have c6b1:decide ((t175:Int).toNat≤281474976710656)=true:=decide_eq_true c6
   clear c6;obtain ⟨y176,hy176⟩: ∃y_:List Bool,y_=(List.replicate (t175:Int).toNat false):=⟨_,rfl⟩;replace H:(if 0≤a2 then (if a2<(l1.length:Int) then ((spec_l21Head.f (rd l1 a2)).bind fun t180=>(spec_l21Refs.l0 k l0 y176 (rd l1 a2) t180)) else (none)) else (none))=some r:=by first|(rw [hy176];with_reducible exact H)|(have H2_:=(Option.bind_some _ _).symm.trans H;rw [hy176];with_reducible exact H2_)|(have H2_:=(Option.bind_some _ _).symm.trans H;with_reducible exact H2_)|with_reducible exact H|(rw [hy176];exact H)|exact H
   have Ny176:=aK hy176;clear hy176;by_cases c7:0≤a2
   ·rw [if_pos c7] at H
    have c7b0:decide (0≤a2)=true:=decide_eq_true c7
    clear c7;by_cases c8:a2<(l1.length:Int)
    ·rw [if_pos c8] at H
     have c8b0:decide (a2<(l1.length:Int))=true:=decide_eq_true c8
     clear c8;replace H:=Option.bind_eq_some_iff.mp H;obtain ⟨t180,A90,H⟩:=H;(try dsimp only at H);have A9:=aK A90;clear A90;have H':=aK H;clear H;go_enter Try.func74,Try.ntmps74
     go_wp2_with (first|((with_reducible refine gate_callee (f:=48) rfl ?_);refine goesL_ (some 15) rfl rfl Try.func48 (by kernel_rfl) rfl #[.slice A0 l0.length c0,.slice A1 l1.length c1,.int .i64 a2,.int .i64 (l1.length:Int)] rfl zz2 ?_;(with_reducible refine (spec_l21Size.calls k _ _ l0 _ _ l1 a2 (l1.length:Int) t175 _ ?side1 ?side2 ?side3 ?side4 A4.out).mono ?_);(case side1=>exact (by repeat (first|exact HR0.out|(with_reducible refine Kd.C_alloc ?_ _)|(with_reducible refine Kd.C_drewN ?_ _)|(with_reducible refine Kd.C_drew ?_))));(case side2=>exact HC0.out);(case side3=>exact (by repeat (first|exact HR1.out|(with_reducible refine Kd.C_alloc ?_ _)|(with_reducible refine Kd.C_drewN ?_ _)|(with_reducible refine Kd.C_drew ?_))));(case side4=>exact HC1.out);rintro e w10 ⟨rfl,hb⟩;refine ⟨_,rfl,?_⟩;replace HB:=aK (below_step zz1 hb);(try clear hb);(try clear hb2);(try clear hk);(try clear hi))|((with_reducible refine gate_dst (N:=16) rfl ?_);refine Kd.R_make Kd.bool _ 4 rfl (N:=16) rfl 24 _ _ rfl t175 rfl rfl Try.underlying24 (.bool false) 1 info4 rfl (by decide) (by omega) false (ok:=fun _=>True) (okp:=fun _=>True) rfl (fun _ hk=>hk) trivial (of_decide_eq_true zz3) (Nat.le_trans (Nat.mul_le_mul_right _ (of_decide_eq_true zz3:t175.toNat≤281474976710656)) (by omega)) (Below.refl _ _) (Nat.le_refl _) ?_;intro v177 w11 ho12 hb hg_ hnew_;clear hg_ hnew_;(first|rw [←Ny176.out] at ho12|(simp only [Int.reduceToNat] at ho12;rw [←Ny176.out] at ho12));have HO178:=aK (Kd.R_lower ho12 (below_size zz1));replace HB:=aK (below_step zz1 hb);clear hb ho12;have p179:0≤(a2:Int):=of_decide_eq_true zz3;have q179:a2<(l1.length:Int):=of_decide_eq_true zz3;obtain ⟨ad179,e179,hx179_0⟩:=Kd.at_int HR1.out a2 p179 q179;cases e179;replace hx179_0:=(HB.out.cell (World.block_lt_of_cell? w _ hx179_0)).trans hx179_0;replace p179:=eq_true p179;replace q179:=eq_true q179)|((with_reducible refine gate_callee (f:=104) rfl ?_);refine goesL_ (some 22) rfl rfl Try.func104 (by kernel_rfl) rfl #[.int .i64 (rd l1 a2)] rfl zz2 ?_;(with_reducible refine (spec_l21Head.calls (rd l1 a2) t180 _ A9.out).mono ?_);rintro e w' ⟨rfl,⟨nd,rfl⟩⟩;refine ⟨_,rfl,?_⟩))
     go_loopg [9] k (fun kq v9 w'=> ∃(x7_1:List Bool) (x9_1:Int),v9= .int .i64 x9_1∧Aside0 (spec_l21Refs.l0 kq l0 x7_1 (rd l1 a2) x9_1=some r)∧Aside0 (kq≤k)∧Aside0 (Kd.R Kd.bool 4 w' w.heap.size (fun _=>True) v177 x7_1)∧Aside0 (Below w.heap.size w w'))
     case atStart=>exact ⟨(y176),(t180),zz5,H',⟨Nat.le_refl _⟩,⟨by (with_reducible repeat (first|apply Kd.R_alloc|apply Kd.R_drewN|apply Kd.R_drew));exact HO178.out⟩,⟨by repeat (first|(with_reducible first|exact HB.out|apply below_alloc|apply pw_below_drewN|apply below_drew1)|exact HB.out)⟩⟩
     case round =>
      clear H';(try clear c1);(try clear p1);(try clear q1);(try clear hx1);(try clear p2);(try clear c4);(try clear c5);(try clear c5b0);(try clear c5b1);(try clear c6);(try clear c6b0);(try clear c6b1);(try clear c7);(try clear c7b0);(try clear c8);(try clear c8b0);(try clear c10);(try clear hx179_0);(try clear p179);(try clear q179);obtain ⟨x7_1,x9_1,rfl,HA,HK1,HO_7,HB⟩:=hrel
      cases gk with
      |zero=>exact absurd HA.out (by simp [spec_l21Refs.l0])
      | succ k1 =>
       have H:=HA.out;clear HA;simp only [spec_l21Refs.l0] at H;by_cases c13:x9_1<(x7_1.length:Int)
       ·rw [if_pos c13] at H
        have c13b0:decide (x9_1<(x7_1.length:Int))=true:=decide_eq_true c13
        clear c13;by_cases c14:(rd l1 a2)=(-2)
        ·rw [if_pos c14] at H
         have c14b0:((rd l1 a2)==(-2))=true:=beq_iff_eq.mpr c14
         have c14b1:((rd l1 a2) !=(-2))=false:=bne_eq_false_iff_eq.mpr c14
         clear c14;by_cases c15:0≤x9_1
         ·rw [if_pos c15] at H
          have c15b0:decide (0≤x9_1)=true:=decide_eq_true c15
          clear c15;obtain ⟨y181,hy181⟩: ∃y_:List Bool,y_=(x7_1.set (x9_1:Int).toNat true):=⟨_,rfl⟩;replace H:(spec_l21Refs.l0 k1 l0 y181 (rd l1 a2) (wrap64 (x9_1+1)))=some r:=by first|(rw [hy181];with_reducible exact H)|(have H2_:=(Option.bind_some _ _).symm.trans H;rw [hy181];with_reducible exact H2_)|(have H2_:=(Option.bind_some _ _).symm.trans H;with_reducible exact H2_)|with_reducible exact H|(rw [hy181];exact H)|exact H
          have Ny181:=aK hy181;clear hy181;have H':=aK H;clear H;obtain ⟨Ao17,co17,eo17⟩:=Kd.R_slice HO_7.out;subst eo17;have p16:0≤(x9_1:Int):=of_decide_eq_true zz3
          have q16:(x9_1:Int)<((x7_1.length:Int):Int):=of_decide_eq_true zz3
          obtain ⟨go16,co16,eo16,gb16,gl16,cl16,HG16⟩:=Kd.R_form HO_7.out (by omega)
          (first|cases eo16|(injection eo16 with ea_ en_ ec_;(first|subst ea_|(injection ea_ with ea_;subst ea_));subst ec_;clear en_))
          have GB16:=aK gb16;have GG16:=aK HG16;clear gb16 gl16 HG16;obtain ⟨hx16_0,hf16_0⟩:=Kd.R_celln false HO_7.out (x9_1:Int) p16 q16;replace p16:=eq_true p16;replace q16:=eq_true q16;have HP18:=Kd.R_putg HO_7.out (x9_1:Int) true
          go_wp2_with (first|((with_reducible refine gate_store (t:=4) (p:=47) rfl ?_);refine store_event (t:=4) (p:=47) (v:=?vo_w19) (w1:=(wr.setCell ⟨go16,(x9_1:Int).toNat,none⟩ (.bool true))) ?hg ?ho ?hn ?hr ?_;(case ho=>rfl);(case hg=>rfl);(case hn=>rfl);(case hr=>first|(go_simp;done)|(go_simp;rfl)|((try (first|(obtain ⟨_,_,rfl⟩:=Kd.R_slice HO_7.out)|(obtain ⟨_,_,rfl⟩:=Kd.S_slice HO_7.out)));first|(go_simp;done)|(go_simp;rfl)));intro w19 hw;have hg:wr.grownBy w19 (some go16):=(by rw [hw];exact HP18.2);have hp_:Kd.R Kd.bool 4 w19 w.heap.size (fun _=>True) (.slice (some ⟨go16,0,none⟩) x7_1.length co17) y181:=(by rw [hw,Ny181.out];exact HP18.1);clear HP18;replace HO_7:=aK (hp_);replace HB:=aK ((by rw [hw];exact below_set (HB.out) GB16.out:Below w.heap.size w w19));clear hg hw hp_))
          go_roundg k1
          case measure=>have:=HK1.out;omega
          case rel=>exact ⟨(y181),(wrap64 (x9_1+1)),zz5,H',⟨by have:=HK1.out;omega⟩,⟨by (with_reducible repeat (first|apply Kd.R_alloc|apply Kd.R_drewN|apply Kd.R_drew));exact HO_7.out⟩,⟨by repeat (first|(with_reducible first|exact HB.out|apply below_alloc|apply pw_below_drewN|apply below_drew1)|exact HB.out)⟩⟩
         ·rw [if_neg c15] at H
          exact absurd H (by simp)
        ·rw [if_neg c14] at H
         have c14b0:((rd l1 a2)==(-2))=false:=beq_eq_false_iff_ne.mpr c14
         have c14b1:((rd l1 a2) !=(-2))=true:=bne_iff_ne.mpr c14
         by_cases c20:(rd l1 a2)≥0
         ·rw [if_pos c20] at H
          have c20b0:decide (0≤(rd l1 a2))=true:=decide_eq_true c20
          clear c20;replace H:=Option.bind_eq_some_iff.mp H;obtain ⟨t182,A210,H⟩:=H;(try dsimp only at H);have A21:=aK A210;clear A210;obtain ⟨ji22,hji22⟩: ∃j_:Int,(wrap64 (x9_1 - 1))=j_:=⟨_,rfl⟩;replace H:(if 0≤(ji22) then (if (ji22)<(t182.length:Int) then (if 0≤x9_1 then (spec_l21Refs.l0 k1 l0 (x7_1.set (x9_1:Int).toNat ((rd t182 (ji22)) !=1)) (rd l1 a2) (wrap64 (x9_1+1))) else (none)) else (none)) else (none))=some r:=by first|(rw [hji22] at H;exact H)|(simp only [hji22] at H ⊢;exact H)
          (try rw [hji22] at A21)
          have hji22w:(IntKind.i64.wrap (x9_1 - 1))=ji22:=(i64_w _).trans hji22
          by_cases c23:0≤(ji22)
          ·rw [if_pos c23] at H
           have c23b0:decide (0≤(ji22))=true:=decide_eq_true c23
           clear c23;by_cases c24:(ji22)<(t182.length:Int)
           ·rw [if_pos c24] at H
            have c24b0:decide ((ji22)<(t182.length:Int))=true:=decide_eq_true c24
            clear c24;by_cases c25:0≤x9_1
            ·rw [if_pos c25] at H
             have c25b0:decide (0≤x9_1)=true:=decide_eq_true c25
             clear c25;obtain ⟨y186,hy186⟩: ∃y_:List Bool,y_=(x7_1.set (x9_1:Int).toNat ((rd t182 (ji22)) !=1)):=⟨_,rfl⟩;replace H:(spec_l21Refs.l0 k1 l0 y186 (rd l1 a2) (wrap64 (x9_1+1)))=some r:=by first|(rw [hy186];with_reducible exact H)|(have H2_:=(Option.bind_some _ _).symm.trans H;rw [hy186];with_reducible exact H2_)|(have H2_:=(Option.bind_some _ _).symm.trans H;with_reducible exact H2_)|with_reducible exact H|(rw [hy186];exact H)|exact H
             have Ny186:=aK hy186;clear hy186;have H':=aK H;clear H;obtain ⟨Ao27,co27,eo27⟩:=Kd.R_slice HO_7.out;subst eo27
             go_wp2_with (first|(go_at_call 75;(with_reducible refine (spec_l2Fields.calls k1 _ _ l0 (rd l1 a2) t182 _ ?side1 ?side2 A21.out).mono ?_);(case side1=>exact zz7);(case side2=>exact HC0.out);rintro e w28 ⟨v183,rfl,ho0,hb⟩;have HO184:=aK (Kd.R_lower ho0 (below_size zz1));replace HO_7:=aK (Kd.R_below (by (with_reducible repeat (first|apply Kd.R_alloc|apply Kd.R_drewN|apply Kd.R_drew));exact HO_7.out) hb);replace HB:=aK (below_step zz1 hb);(try clear hb);(try clear hb2);(try clear hk);(try clear hi);(try clear ho0);obtain ⟨Ao29,co29,eo29⟩:=Kd.R_slice HO184.out;subst eo29;have p185:0≤((ji22):Int):=of_decide_eq_true zz3;have q185:(ji22)<(t182.length:Int):=of_decide_eq_true zz3;obtain ⟨ad185,e185,hx185_0⟩:=Kd.at_int (Kd.R_reads' HO184.out).2.2 (ji22) p185 q185;cases e185;replace p185:=eq_true p185;replace q185:=eq_true q185;have p26:0≤(x9_1:Int):=of_decide_eq_true zz3;have q26:(x9_1:Int)<((x7_1.length:Int):Int):=of_decide_eq_true zz3;obtain ⟨go26,co26,eo26,gb26,gl26,cl26,HG26⟩:=Kd.R_form HO_7.out (by omega);(first|cases eo26|(injection eo26 with ea_ en_ ec_;(first|subst ea_|(injection ea_ with ea_;subst ea_));subst ec_;clear en_));have GB26:=aK gb26;have GG26:=aK HG26;clear gb26 gl26 HG26;obtain ⟨hx26_0,hf26_0⟩:=Kd.R_celln false HO_7.out (x9_1:Int) p26 q26;replace p26:=eq_true p26;replace q26:=eq_true q26;obtain ⟨hy30_,hz30_⟩:=Kd.R_celln false HO_7.out (x9_1:Int) (of_decide_eq_true zz3) (of_decide_eq_true zz3);have HP30:=Kd.R_putg HO_7.out (x9_1:Int) ((rd t182 (ji22)) !=1))|((with_reducible refine gate_store (t:=4) (p:=47) rfl ?_);refine store_event (t:=4) (p:=47) (v:=?vo_w31) (w1:=(w28.setCell ⟨go26,(x9_1:Int).toNat,none⟩ (.bool ((rd t182 (ji22)) !=1)))) ?hg ?ho ?hn ?hr ?_;(case ho=>rfl);(case hg=>rfl);(case hn=>rfl);(case hr=>first|(go_simp;done)|(go_simp;rfl)|((try (first|(obtain ⟨_,_,rfl⟩:=Kd.R_slice HO184.out)|(obtain ⟨_,_,rfl⟩:=Kd.S_slice HO184.out)));(try (first|(obtain ⟨_,_,rfl⟩:=Kd.R_slice HO_7.out)|(obtain ⟨_,_,rfl⟩:=Kd.S_slice HO_7.out)));first|(go_simp;done)|(go_simp;rfl)));intro w31 hw;have hg:w28.grownBy w31 (some go26):=(by rw [hw];exact HP30.2);have hp_:Kd.R Kd.bool 4 w31 w.heap.size (fun _=>True) (.slice (some ⟨go26,0,none⟩) x7_1.length co27) y186:=(by rw [hw,Ny186.out];exact HP30.1);clear HP30;replace HO184:=aK (Kd.R_over' (v:=(.slice (some ⟨go26,0,none⟩) x7_1.length co27)) (by (with_reducible repeat (first|apply Kd.R_alloc|apply Kd.R_drewN|apply Kd.R_drew));exact HO184.out) (Kd.R_typed HO_7.out) (by decide) hg);replace HO_7:=aK (hp_);replace HB:=aK ((by rw [hw];exact below_set (HB.out) GB26.out:Below w.heap.size w w31));clear hg hw hp_))
             go_roundg k1
             case measure=>have:=HK1.out;omega
             case rel=>exact ⟨(y186),(wrap64 (x9_1+1)),zz5,H',⟨by have:=HK1.out;omega⟩,⟨by (with_reducible repeat (first|apply Kd.R_alloc|apply Kd.R_drewN|apply Kd.R_drew));exact HO_7.out⟩,⟨by repeat (first|(with_reducible first|exact HB.out|apply below_alloc|apply pw_below_drewN|apply below_drew1)|exact HB.out)⟩⟩
            ·rw [if_neg c25] at H
             exact absurd H (by simp)
           ·rw [if_neg c24] at H
            exact absurd H (by simp)
          ·rw [if_neg c23] at H
           exact absurd H (by simp)
         ·rw [if_neg c20] at H
          have c20b0:decide (0≤(rd l1 a2))=false:=decide_eq_false c20
          clear c20;by_cases c32:0≤x9_1
          ·rw [if_pos c32] at H
           have c32b0:decide (0≤x9_1)=true:=decide_eq_true c32
           clear c32;obtain ⟨y187,hy187⟩: ∃y_:List Bool,y_=(x7_1.set (x9_1:Int).toNat false):=⟨_,rfl⟩;replace H:(spec_l21Refs.l0 k1 l0 y187 (rd l1 a2) (wrap64 (x9_1+1)))=some r:=by first|(rw [hy187];with_reducible exact H)|(have H2_:=(Option.bind_some _ _).symm.trans H;rw [hy187];with_reducible exact H2_)|(have H2_:=(Option.bind_some _ _).symm.trans H;with_reducible exact H2_)|with_reducible exact H|(rw [hy187];exact H)|exact H
           have Ny187:=aK hy187;clear hy187;have H':=aK H;clear H;obtain ⟨Ao34,co34,eo34⟩:=Kd.R_slice HO_7.out;subst eo34;have p33:0≤(x9_1:Int):=of_decide_eq_true zz3
           have q33:(x9_1:Int)<((x7_1.length:Int):Int):=of_decide_eq_true zz3
           obtain ⟨go33,co33,eo33,gb33,gl33,cl33,HG33⟩:=Kd.R_form HO_7.out (by omega)
           (first|cases eo33|(injection eo33 with ea_ en_ ec_;(first|subst ea_|(injection ea_ with ea_;subst ea_));subst ec_;clear en_))
           have GB33:=aK gb33;have GG33:=aK HG33;clear gb33 gl33 HG33;obtain ⟨hx33_0,hf33_0⟩:=Kd.R_celln false HO_7.out (x9_1:Int) p33 q33;replace p33:=eq_true p33;replace q33:=eq_true q33;have HP35:=Kd.R_putg HO_7.out (x9_1:Int) false
           go_wp2_with (first|((with_reducible refine gate_store (t:=4) (p:=47) rfl ?_);refine store_event (t:=4) (p:=47) (v:=?vo_w36) (w1:=(wr.setCell ⟨go33,(x9_1:Int).toNat,none⟩ (.bool false))) ?hg ?ho ?hn ?hr ?_;(case ho=>rfl);(case hg=>rfl);(case hn=>rfl);(case hr=>first|(go_simp;done)|(go_simp;rfl)|((try (first|(obtain ⟨_,_,rfl⟩:=Kd.R_slice HO_7.out)|(obtain ⟨_,_,rfl⟩:=Kd.S_slice HO_7.out)));first|(go_simp;done)|(go_simp;rfl)));intro w36 hw;have hg:wr.grownBy w36 (some go33):=(by rw [hw];exact HP35.2);have hp_:Kd.R Kd.bool 4 w36 w.heap.size (fun _=>True) (.slice (some ⟨go33,0,none⟩) x7_1.length co34) y187:=(by rw [hw,Ny187.out];exact HP35.1);clear HP35;replace HO_7:=aK (hp_);replace HB:=aK ((by rw [hw];exact below_set (HB.out) GB33.out:Below w.heap.size w w36));clear hg hw hp_))
           go_roundg k1
           case measure=>have:=HK1.out;omega
           case rel=>exact ⟨(y187),(wrap64 (x9_1+1)),zz5,H',⟨by have:=HK1.out;omega⟩,⟨by (with_reducible repeat (first|apply Kd.R_alloc|apply Kd.R_drewN|apply Kd.R_drew));exact HO_7.out⟩,⟨by repeat (first|(with_reducible first|exact HB.out|apply below_alloc|apply pw_below_drewN|apply below_drew1)|exact HB.out)⟩⟩
          ·rw [if_neg c32] at H
           exact absurd H (by simp)
       ·rw [if_neg c13] at H
        have c13b0:decide (x9_1<(x7_1.length:Int))=false:=decide_eq_false c13
        clear c13;obtain rfl:=Option.some.inj H;obtain ⟨Ao37,co37,eo37⟩:=Kd.R_slice HO_7.out;subst eo37;go_wp2;go_ret;exact ⟨_,by first|rfl|(simp [errW_none,errW_some]<;>rfl)|(simp [*,errW_none,errW_some]<;>rfl),by (with_reducible repeat (first|apply Kd.R_alloc|apply Kd.R_drewN|apply Kd.R_drew));exact HO_7.out,by repeat (first|(with_reducible first|exact HB.out|apply below_alloc|apply pw_below_drewN|apply below_drew1)|exact HB.out)⟩
    ·rw [if_neg c8] at H
     exact absurd H (by simp)
   ·rw [if_neg c7] at H
    exact absurd H (by simp)
  ·rw [if_neg c6] at H
   exact absurd H (by simp)
 ·rw [if_neg c5] at H
  exact absurd H (by simp)
end Go.Proofs.Ytbaklikaoleplaa.K
