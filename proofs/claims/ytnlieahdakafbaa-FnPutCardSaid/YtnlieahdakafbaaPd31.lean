import Derived.Test.YtnlieahdakafbaaPd24
import Derived.Test.YtnlieahdakafbaaPd25
import Derived.Test.YtnlieahdakafbaaPd30
import Derived.Test.YtnlieahdakafbaaPd26
namespace Go.Proofs.Ytnlieahdakafbaa.K
open Go.RowKit Go.Proofs.YtnlieahdakafbaaW.PrintWords Go.Proofs.YtnlieahdakafbaaW.PrintLast Go.Proofs.YtnlieahdakafbaaW.PrintMore
attribute [local go_sem] max2_int min2_int max_two min_two max_three min_three max_four min_four
set_option linter.unusedVariables false
set_option linter.unusedSimpArgs false
mutual
def spec_l21Bounds.j0:Nat→Int→Bool→List Int→Int→Int→Int→List Bool→Option (Bool)
 |0,_,_,_,_,_,_,_=>none
 |k+1,x5,x54,x265000,x265001,x265002,x265003,x265004=>if x54=true then (some false) else (spec_l21Bounds.l0 k x5 0 x265000 x265001 x265002 x265003 x265004)
def spec_l21Bounds.l0:Nat→Int→Int→List Int→Int→Int→Int→List Bool→Option (Bool)
 |0,_,_,_,_,_,_,_=>none
 |k+1,x5,x6,x265000,x265001,x265002,x265003,x265004=>if x6<x5 then ((spec_l6In.f x6 x265002 (wrap64 (x265001 - 1))).bind fun t271=>(if t271=true then (if 0≤x6 then (if x6<(x265000.length:Int) then (if (rd x265000 x6)=0 then (spec_l21Bounds.l0 k x5 (wrap64 (x6+1)) x265000 x265001 x265002 x265003 x265004) else (some false)) else (none)) else (none)) else (if x6≥x265003 then (if 0≤x6 then (if x6<(x265000.length:Int) then (if (rd x265000 x6)=0 then (spec_l21Bounds.l0 k x5 (wrap64 (x6+1)) x265000 x265001 x265002 x265003 x265004) else (some false)) else (none)) else (none)) else (spec_l21Bounds.l0 k x5 (wrap64 (x6+1)) x265000 x265001 x265002 x265003 x265004)))) else (some true)
end
def spec_l21Bounds.f (k:Nat) (l0:List (S112)) (l1_0:List Int) (a1_1:Int) (a1_2:Int) (a1_3:Int) (l1_4:List Bool):Option (Bool):=(spec_ClassesOk.f k l0).bind fun t265=>(if t265=true then ((spec_l6In.f a1_1 0 40).bind fun t266=>(if t266=true then ((spec_l6In.f (wrap64 ((l1_0.length:Int) - a1_1)) 14 120).bind fun t267=>(if t267=true then ((spec_l6In.f a1_2 0 a1_1).bind fun t268=>(if t268=true then ((spec_l6In.f a1_3 a1_1 (l1_0.length:Int)).bind fun t269=>(if t269=true then ((spec_l21Cards.f (wrap64 ((l1_0.length:Int) - a1_1))).bind fun t270=>(spec_l21Bounds.j0 k (l1_0.length:Int) ((l1_4.length:Int) !=t270) l1_0 a1_1 a1_2 a1_3 l1_4)) else (spec_l21Bounds.j0 k (l1_0.length:Int) true l1_0 a1_1 a1_2 a1_3 l1_4))) else (spec_l21Bounds.j0 k (l1_0.length:Int) true l1_0 a1_1 a1_2 a1_3 l1_4))) else (spec_l21Bounds.j0 k (l1_0.length:Int) true l1_0 a1_1 a1_2 a1_3 l1_4))) else (spec_l21Bounds.j0 k (l1_0.length:Int) true l1_0 a1_1 a1_2 a1_3 l1_4))) else (spec_l21Bounds.j0 k (l1_0.length:Int) true l1_0 a1_1 a1_2 a1_3 l1_4))
theorem spec_l21Bounds.mono_l: ∀k,(∀y0 y1 y2 y3 y4 y5 y6,LeO (spec_l21Bounds.j0 k y0 y1 y2 y3 y4 y5 y6) (spec_l21Bounds.j0 (k+1) y0 y1 y2 y3 y4 y5 y6))∧(∀y0 y1 y2 y3 y4 y5 y6,LeO (spec_l21Bounds.l0 k y0 y1 y2 y3 y4 y5 y6) (spec_l21Bounds.l0 (k+1) y0 y1 y2 y3 y4 y5 y6))
 |0=>⟨fun _ _ _ _ _ _ _ r h=>by simp [spec_l21Bounds.j0] at h,fun _ _ _ _ _ _ _ r h=>by simp [spec_l21Bounds.l0] at h⟩
 | k + 1 => by
  obtain ⟨ih0,ih1⟩:=spec_l21Bounds.mono_l k;refine ⟨?_,?_⟩
  ·intro y0 y1 y2 y3 y4 y5 y6
   unfold spec_l21Bounds.j0;repeat' first
   |(with_reducible exact ih0 _ _ _ _ _ _ _)
   |(with_reducible exact ih1 _ _ _ _ _ _ _)
   |(with_reducible exact spec_ClassesOk.mono _ _)
   |(with_reducible exact LeO.refl _)
   |(with_reducible exact LeO.none _)
   |(with_reducible refine LeO.ite ?_ ?_)
   |(with_reducible refine LeO.bind ?_ (fun _=>?_))
   |exact ih0 _ _ _ _ _ _ _
   |exact ih1 _ _ _ _ _ _ _
   |exact spec_ClassesOk.mono _ _
   |exact LeO.none _
   |refine LeO.ite ?_ ?_
   |refine LeO.bind ?_ (fun _=>?_)
  ·intro y0 y1 y2 y3 y4 y5 y6
   unfold spec_l21Bounds.l0;repeat' first
   |(with_reducible exact ih0 _ _ _ _ _ _ _)
   |(with_reducible exact ih1 _ _ _ _ _ _ _)
   |(with_reducible exact spec_ClassesOk.mono _ _)
   |(with_reducible exact LeO.refl _)
   |(with_reducible exact LeO.none _)
   |(with_reducible refine LeO.ite ?_ ?_)
   |(with_reducible refine LeO.bind ?_ (fun _=>?_))
   |exact ih0 _ _ _ _ _ _ _
   |exact ih1 _ _ _ _ _ _ _
   |exact spec_ClassesOk.mono _ _
   |exact LeO.none _
   |refine LeO.ite ?_ ?_
   |refine LeO.bind ?_ (fun _=>?_)
def spec_l21Bounds.T2:Bool×List (List Nat×List Nat):=(true,[([],[]),([0],[0]),([1],[1]),([2,1],[2]),([3],[3]),([4,3],[3,4]),([5,3,3],[3,5]),([6,3],[3,6]),([3,7],[3,7]),([8,6],[8]),([9],[9]),([9],[9]),([11,9],[9,11]),([10,12,9],[9,10,12]),([13,9,9],[9,13]),([14,9],[9,14]),([9,15],[9,15]),([16,14],[16]),([17],[17]),([18,17],[17,18]),([17],[17]),([20,17],[17,20]),([19,21,17,17],[17,19,21]),([22,17],[17,22]),([17,23],[17,23]),([24,22],[24]),([25],[25]),([26,25],[25,26]),([25],[25]),([28,25],[25,28]),([25],[25]),([27,29,30,25,25],[25,27,29,30]),([31,25],[25,31]),([25,32],[25,32]),([33,31],[33]),([34],[34]),([35,34],[34,35]),([36,34],[34,36]),([34],[34]),([34],[34]),([39,34],[34,39]),([38,40,34],[34,38,40]),([41,34,34],[34,41]),([37,42,34],[34,37,42]),([34,43],[34,43])])
def spec_l21Bounds.B2:List Nat:=[0,1,3,7,15,31,63,127,255,511,1023,1023,3071,8191,16383,32767,65535,131071,262143,524287,262143,1310719,4194303,8388607,16777215,33554431,67108863,134217727,67108863,335544319,67108863,2147483647,4294967295,8589934591,17179869183,34359738367,68719476735,137438953471,34359738367,34359738367,584115552255,1958505086975,4157528342527,8796093022207,17592186044415]
theorem spec_l21Bounds.tab2:rtab .any (opsOf Try.f46 2)=spec_l21Bounds.T2:=by kernel_rfl
theorem spec_l21Bounds.bits2:waitsOk spec_l21Bounds.T2.2 spec_l21Bounds.B2=true:=by kernel_rfl
set_option maxHeartbeats 8000000 in
set_option maxRecDepth 100000 in
theorem spec_l21Bounds.calls (k : Nat) (A0 : Option Addr) (c0 : Nat) (l0 : List (S112)) (A1_0 : Option Addr) (c1_0 : Nat) (l1_0 : List Int) (a1_1 : Int) (a1_2 : Int) (a1_3 : Int) (A1_4 : Option Addr) (c1_4 : Nat) (l1_4 : List Bool) (r : Bool) (w : World) (hr0 : Kd.C k112 w A0 l0.length l0) (hc0 : l0.length ≤ c0) (hr1_0 : Kd.C (Kd.int .i64) w A1_0 l1_0.length l1_0) (hc1_0 : l1_0.length ≤ c1_0) (hr1_4 : Kd.C Kd.bool w A1_4 l1_4.length l1_4) (hc1_4 : l1_4.length ≤ c1_4) (h : spec_l21Bounds.f k l0 l1_0 a1_1 a1_2 a1_3 l1_4 = some r) :
  Calls Try.prog 46 #[.slice A0 l0.length c0,.agg #[.slice A1_0 l1_0.length c1_0,.int .i64 a1_1,.int .i64 a1_2,.int .i64 a1_3,.slice A1_4 l1_4.length c1_4]] w fun e w'=>e= .returned (.bool r)∧Below w.heap.size w w':=by
 have hu27:=Try.underlying27;have HR0:=aK hr0;have HC0:=aK hc0;clear hr0 hc0;have HR1_0:=aK hr1_0;have HC1_0:=aK hc1_0;clear hr1_0 hc1_0;have HR1_4:=aK hr1_4;have HC1_4:=aK hc1_4;clear hr1_4 hc1_4;have HB:=aK (Below.refl w.heap.size w);have H:((spec_ClassesOk.f k l0).bind fun t265=>(if t265=true then ((spec_l6In.f a1_1 0 40).bind fun t266=>(if t266=true then ((spec_l6In.f (wrap64 ((l1_0.length:Int) - a1_1)) 14 120).bind fun t267=>(if t267=true then ((spec_l6In.f a1_2 0 a1_1).bind fun t268=>(if t268=true then ((spec_l6In.f a1_3 a1_1 (l1_0.length:Int)).bind fun t269=>(if t269=true then ((spec_l21Cards.f (wrap64 ((l1_0.length:Int) - a1_1))).bind fun t270=>(spec_l21Bounds.j0 k (l1_0.length:Int) ((l1_4.length:Int) !=t270) l1_0 a1_1 a1_2 a1_3 l1_4)) else (spec_l21Bounds.j0 k (l1_0.length:Int) true l1_0 a1_1 a1_2 a1_3 l1_4))) else (spec_l21Bounds.j0 k (l1_0.length:Int) true l1_0 a1_1 a1_2 a1_3 l1_4))) else (spec_l21Bounds.j0 k (l1_0.length:Int) true l1_0 a1_1 a1_2 a1_3 l1_4))) else (spec_l21Bounds.j0 k (l1_0.length:Int) true l1_0 a1_1 a1_2 a1_3 l1_4))) else (spec_l21Bounds.j0 k (l1_0.length:Int) true l1_0 a1_1 a1_2 a1_3 l1_4)))=some r:=h
 clear h;have HC3:=aK H;clear H;go_enter Try.func46,Try.ntmps46
 go_upto_region 2 with (first|((with_reducible refine gate_dst (N:=3) rfl ?_);(try (refine gate_guard (by rfl) ?_;dsimp only));refine box_event ?hg (N:=3) ?hd (cs:= #[.slice A1_0 l1_0.length c1_0,.int .i64 a1_1,.int .i64 a1_2,.int .i64 a1_3,.slice A1_4 l1_4.length c1_4]) (t:=27) ?hr ?_;(case hd=>rfl);(case hg=>rfl);(case hr=>first|(go_simp;done)|(go_simp;rfl));intro gb264 hg w4 hbox hb;have BK264:=aK (hbox);have GW264:=aK ((by rw [hg];exact (below_size zz1):w.heap.size≤gb264));have GE264:=aK ((by rw [hg];exact (below_size zz1):w.heap.size≤gb264));replace HB:=aK (below_step zz1 hb);clear hb hbox hg;obtain ⟨hcz5_0,hcz5_1,hcz5_2,hcz5_3,hcz5_4,hfz5_0,hfz5_1,hfz5_2,hfz5_3,hfz5_4⟩:=cbf5 BK264))
 (try simp only [Act.put,List.setIfInBounds_toArray,List.set_cons_zero,List.set_cons_succ])
 go_cut [54] (fun v54 wc=> ∃(kq:Nat) (x54_2:Bool),v54= .bool x54_2∧Aside0 (spec_l21Bounds.j0 kq (l1_0.length:Int) x54_2 l1_0 a1_1 a1_2 a1_3 l1_4=some r)∧Aside0 (kq≤k)∧Aside0 (wc.heap[gb264]? =some (.cells #[(.slice A1_0 l1_0.length c1_0),.int .i64 a1_1,.int .i64 a1_2,.int .i64 a1_3,(.slice A1_4 l1_4.length c1_4)] 27 (0,0)))∧Aside0 (Below w.heap.size w wc))
 case first =>
  have H:=HC3.out;clear HC3;replace H:=Option.bind_eq_some_iff.mp H;obtain ⟨t265,A60,H⟩:=H;(try dsimp only at H);have A6:=aK A60;clear A60;by_cases c7:t265=true
  ·subst c7
   rw [if_pos rfl] at H;replace H:=Option.bind_eq_some_iff.mp H;obtain ⟨t266,A80,H⟩:=H;(try dsimp only at H);have A8:=aK A80;clear A80;by_cases c9:t266=true
   ·subst c9
    rw [if_pos rfl] at H;replace H:=Option.bind_eq_some_iff.mp H;obtain ⟨t267,A100,H⟩:=H;(try dsimp only at H);have A10:=aK A100;clear A100;by_cases c11:t267=true
    ·subst c11
     rw [if_pos rfl] at H;replace H:=Option.bind_eq_some_iff.mp H;obtain ⟨t268,A120,H⟩:=H;(try dsimp only at H);have A12:=aK A120;clear A120;by_cases c13:t268=true
     ·subst c13
      rw [if_pos rfl] at H;replace H:=Option.bind_eq_some_iff.mp H;obtain ⟨t269,A140,H⟩:=H;(try dsimp only at H);have A14:=aK A140;clear A140;by_cases c15:t269=true
      ·subst c15
       rw [if_pos rfl] at H;replace H:=Option.bind_eq_some_iff.mp H;obtain ⟨t270,A160,H⟩:=H;(try dsimp only at H);have A16:=aK A160;clear A160;have H':=aK H;clear H;try go_wp2
       have n0_:=aK (blk_drew BK264.out);have n1_:=aK (below_drew1 HB.out);clear BK264;clear HB;have BK264:=n0_;have HB:=n1_;clear n0_ n1_;refine sT 45 (S:=fun w'=>w'.cell? ⟨gb264,0,none⟩=some (.slice A1_0 l1_0.length c1_0)∧w'.cell? ⟨gb264,1,none⟩=some (.int .i64 a1_1)∧w'.cell? ⟨gb264,2,none⟩=some (.int .i64 a1_2)∧w'.cell? ⟨gb264,3,none⟩=some (.int .i64 a1_3)∧w'.cell? ⟨gb264,4,none⟩=some (.slice A1_4 l1_4.length c1_4)) (ds:=[]) ⟨(blk_cell BK264.out 0).trans rfl,(blk_cell BK264.out 1).trans rfl,(blk_cell BK264.out 2).trans rfl,(blk_cell BK264.out 3).trans rfl,(blk_cell BK264.out 4).trans rfl⟩ (fun hHeld=>?_);refine with_tabW spec_l21Bounds.tab2 spec_l21Bounds.bits2 (fun HT_ HW_=>?_);generalize w4.drew=w17 at BK264 HB hHeld ⊢;refine pT 0 10 (lA 45 1) HT_ ?_;refine one_ (i:=1) (N:=some 11) (lA 45 3) rfl rfl (one_of HT_.out (by kernel_rfl)) (by decide) (fun K hK=>?_);refine goes_ Try.func83 (by kernel_rfl) rfl #[.slice A0 l0.length c0] (by rfl) rfl rfl zz2 ?_;(with_reducible refine (spec_ClassesOk.calls k _ _ l0 true _ ?side1 ?side2 A6.out).mono ?_)
       (case side1=>exact zz4)
       (case side2=>exact HC0.out)
       rintro e w18 ⟨rfl,hb⟩;refine ⟨_,rfl,?_⟩;have n0_:=aK (blk_below (g:=gb264) (o:= .cells #[.slice A1_0 l1_0.length c1_0,.int .i64 a1_1,.int .i64 a1_2,.int .i64 a1_3,.slice A1_4 l1_4.length c1_4] 27 (0,0)) zz41 hb);have n1_:=aK (below_step zz21 hb);clear BK264;clear HB;have BK264:=n0_;have HB:=n1_;clear n0_ n1_;(try clear hb);(try clear hb2);(try clear hk);(try clear hi);refine hK.out _ _ ⟨(blk_cell BK264.out 0).trans rfl,(blk_cell BK264.out 1).trans rfl,(blk_cell BK264.out 2).trans rfl,(blk_cell BK264.out 3).trans rfl,(blk_cell BK264.out 4).trans rfl⟩ (fun hHeld=>?_);clear hK K;refine nS 11 ?_;refine pT 2 12 (lA 45 7) HT_ ?_;refine pT 3 13 (lA 45 15) HT_ ?_;refine pT 4 14 (lA 45 31) HT_ ?_;refine tS 5 15 (lA 45 63) rfl rfl (take_ofW HT_.out HW_.out (by kernel_rfl)) hHeld zz17 ?_;refine one_ (i:=6) (N:=some 16) (lA 45 127) rfl rfl (one_of HT_.out (by kernel_rfl)) (by decide) (fun K hK=>?_);refine goes_ Try.func79 (by kernel_rfl) rfl #[.int .i64 a1_1,.int .i64 0,.int .i64 40] (by rfl) rfl rfl zz2 ?_;(with_reducible refine (spec_l6In.calls a1_1 0 40 true _ A8.out).mono ?_);rintro e w' ⟨rfl,⟨nd,rfl⟩⟩;refine ⟨_,rfl,?_⟩;refine hK.out _ _ ⟨(blk_cell BK264.out 0).trans rfl,(blk_cell BK264.out 1).trans rfl,(blk_cell BK264.out 2).trans rfl,(blk_cell BK264.out 3).trans rfl,(blk_cell BK264.out 4).trans rfl⟩ (fun hHeld=>?_);clear hK K;refine nS 16 ?_;refine pT 7 17 (lA 45 255) HT_ ?_;refine pT 8 18 (lA 45 511) HT_ ?_;refine pT 9 19 (lA 45 1023) HT_ ?_;refine pT 10 20 (lA 45 2047) HT_ ?_;refine pT 11 21 (lA 45 4095) HT_ ?_;refine tS 12 22 (lA 45 8191) rfl rfl (take_ofW HT_.out HW_.out (by kernel_rfl)) hHeld zz17 ?_;refine pT 13 23 (lA 45 16383) HT_ ?_;refine one_ (i:=14) (N:=some 24) (lA 45 32767) rfl rfl (one_of HT_.out (by kernel_rfl)) (by decide) (fun K hK=>?_);refine goes_ Try.func79 (by kernel_rfl) rfl #[.int .i64 (wrap64 ((l1_0.length:Int) - a1_1)),.int .i64 14,.int .i64 120] (by rfl) rfl rfl zz2 ?_;(with_reducible refine (spec_l6In.calls (wrap64 ((l1_0.length:Int) - a1_1)) 14 120 true _ A10.out).mono ?_);rintro e w' ⟨rfl,⟨nd,rfl⟩⟩;refine ⟨_,rfl,?_⟩;refine hK.out _ _ ⟨(blk_cell BK264.out 0).trans rfl,(blk_cell BK264.out 1).trans rfl,(blk_cell BK264.out 2).trans rfl,(blk_cell BK264.out 3).trans rfl,(blk_cell BK264.out 4).trans rfl⟩ (fun hHeld=>?_);clear hK K;refine nS 24 ?_;refine pT 15 25 (lA 45 65535) HT_ ?_;refine pT 16 26 (lA 45 131071) HT_ ?_;refine pT 17 27 (lA 45 262143) HT_ ?_;refine pT 18 28 (lA 45 524287) HT_ ?_;refine pT 20 30 (lA 45 1572863) HT_ ?_;refine tS 19 29 (lA 45 2097151) rfl rfl (take_ofW HT_.out HW_.out (by kernel_rfl)) hHeld zz17 ?_;refine tS 21 31 (lA 45 4194303) rfl rfl (take_ofW HT_.out HW_.out (by kernel_rfl)) hHeld zz17 ?_;refine one_ (i:=22) (N:=some 32) (lA 45 8388607) rfl rfl (one_of HT_.out (by kernel_rfl)) (by decide) (fun K hK=>?_);refine goes_ Try.func79 (by kernel_rfl) rfl #[.int .i64 a1_2,.int .i64 0,.int .i64 a1_1] (by rfl) rfl rfl zz2 ?_;(with_reducible refine (spec_l6In.calls a1_2 0 a1_1 true _ A12.out).mono ?_);rintro e w' ⟨rfl,⟨nd,rfl⟩⟩;refine ⟨_,rfl,?_⟩;refine hK.out _ _ ⟨(blk_cell BK264.out 0).trans rfl,(blk_cell BK264.out 1).trans rfl,(blk_cell BK264.out 2).trans rfl,(blk_cell BK264.out 3).trans rfl,(blk_cell BK264.out 4).trans rfl⟩ (fun hHeld=>?_);clear hK K;refine nS 32 ?_;refine pT 23 33 (lA 45 16777215) HT_ ?_;refine pT 24 34 (lA 45 33554431) HT_ ?_;refine pT 25 35 (lA 45 67108863) HT_ ?_;refine pT 26 36 (lA 45 134217727) HT_ ?_;refine pT 28 38 (lA 45 402653183) HT_ ?_;refine pT 30 40 (lA 45 1476395007) HT_ ?_;refine tS 27 37 (lA 45 1610612735) rfl rfl (take_ofW HT_.out HW_.out (by kernel_rfl)) hHeld zz17 ?_;refine tS 29 39 (lA 45 2147483647) rfl rfl (take_ofW HT_.out HW_.out (by kernel_rfl)) hHeld zz17 ?_;refine one_ (i:=31) (N:=some 41) (lA 45 4294967295) rfl rfl (one_of HT_.out (by kernel_rfl)) (by decide) (fun K hK=>?_)
       refine goes_ Try.func79 (by kernel_rfl) rfl #[.int .i64 a1_3,.int .i64 a1_1,.int .i64 (l1_0.length:Int)] (by rfl) rfl rfl zz2 ?_;(with_reducible refine (spec_l6In.calls a1_3 a1_1 (l1_0.length:Int) true _ A14.out).mono ?_);rintro e w' ⟨rfl,⟨nd,rfl⟩⟩;refine ⟨_,rfl,?_⟩;refine hK.out _ _ ⟨(blk_cell BK264.out 0).trans rfl,(blk_cell BK264.out 1).trans rfl,(blk_cell BK264.out 2).trans rfl,(blk_cell BK264.out 3).trans rfl,(blk_cell BK264.out 4).trans rfl⟩ (fun hHeld=>?_);clear hK K;refine nS 41 ?_;refine pT 32 42 (lA 45 8589934591) HT_ ?_;refine pT 33 43 (lA 45 17179869183) HT_ ?_;refine pT 34 44 (lA 45 34359738367) HT_ ?_;refine pT 35 45 (lA 45 68719476735) HT_ ?_;refine pT 38 48 (lA 45 343597383679) HT_ ?_;refine pT 39 49 (lA 45 893353197567) HT_ ?_;refine tS 36 46 (lA 45 962072674303) rfl rfl (take_ofW HT_.out HW_.out (by kernel_rfl)) hHeld zz17 ?_;refine pT 37 47 (lA 45 1099511627775) HT_ ?_;refine tS 40 50 (lA 45 2199023255551) rfl rfl (take_ofW HT_.out HW_.out (by kernel_rfl)) hHeld zz17 ?_;refine pT 41 51 (lA 45 4398046511103) HT_ ?_;refine one_ (i:=42) (N:=some 52) (lA 45 8796093022207) rfl rfl (one_of HT_.out (by kernel_rfl)) (by decide) (fun K hK=>?_);refine goes_ Try.func84 (by kernel_rfl) rfl #[.int .i64 (wrap64 ((l1_0.length:Int) - a1_1))] (by rfl) rfl rfl zz2 ?_;(with_reducible refine (spec_l21Cards.calls (wrap64 ((l1_0.length:Int) - a1_1)) t270 _ A16.out).mono ?_);rintro e w' ⟨rfl,⟨nd,rfl⟩⟩;refine ⟨_,rfl,?_⟩;refine hK.out _ _ ⟨(blk_cell BK264.out 0).trans rfl,(blk_cell BK264.out 1).trans rfl,(blk_cell BK264.out 2).trans rfl,(blk_cell BK264.out 3).trans rfl,(blk_cell BK264.out 4).trans rfl⟩ (fun hHeld=>?_);clear hK K;refine nS 52 ?_;refine pT 43 53 (lA 45 17592186044415) HT_ ?_;refine pT 44 54 (lA 45 35184372088831) HT_ ?_;refine done_ (done_of HT_.out (by kernel_rfl)) ?_;try go_wp2
       go_meet
       case rel=>exact ⟨_,(((l1_4.length:Int) !=t270)),zz7,H',⟨by first|omega|exact Nat.le_refl _⟩,⟨by (with_reducible repeat (first|refine blk_drewN ?_ _|refine blk_drew ?_|refine blk_alloc ?_ _));exact BK264.out⟩,⟨by repeat (first|(with_reducible first|exact HB.out|apply below_alloc|apply pw_below_drewN|apply below_drew1|refine below_set ?_ GE264.out)|exact HB.out)⟩⟩
      ·replace c15 := Bool.eq_false_iff.mpr c15
       subst c15;rw [if_neg (show¬(false=true) by decide)] at H;have H':=aK H;clear H;try go_wp2
       have n0_:=aK (blk_drew BK264.out);have n1_:=aK (below_drew1 HB.out);clear BK264;clear HB;have BK264:=n0_;have HB:=n1_;clear n0_ n1_;refine sT 45 (S:=fun w'=>w'.cell? ⟨gb264,0,none⟩=some (.slice A1_0 l1_0.length c1_0)∧w'.cell? ⟨gb264,1,none⟩=some (.int .i64 a1_1)∧w'.cell? ⟨gb264,2,none⟩=some (.int .i64 a1_2)∧w'.cell? ⟨gb264,3,none⟩=some (.int .i64 a1_3)∧w'.cell? ⟨gb264,4,none⟩=some (.slice A1_4 l1_4.length c1_4)) (ds:=[]) ⟨(blk_cell BK264.out 0).trans rfl,(blk_cell BK264.out 1).trans rfl,(blk_cell BK264.out 2).trans rfl,(blk_cell BK264.out 3).trans rfl,(blk_cell BK264.out 4).trans rfl⟩ (fun hHeld=>?_);refine with_tabW spec_l21Bounds.tab2 spec_l21Bounds.bits2 (fun HT_ HW_=>?_);generalize w4.drew=w19 at BK264 HB hHeld ⊢;refine pT 0 10 (lA 45 1) HT_ ?_;refine one_ (i:=1) (N:=some 11) (lA 45 3) rfl rfl (one_of HT_.out (by kernel_rfl)) (by decide) (fun K hK=>?_);refine goes_ Try.func83 (by kernel_rfl) rfl #[.slice A0 l0.length c0] (by rfl) rfl rfl zz2 ?_;(with_reducible refine (spec_ClassesOk.calls k _ _ l0 true _ ?side1 ?side2 A6.out).mono ?_)
       (case side1=>exact zz4)
       (case side2=>exact HC0.out)
       rintro e w20 ⟨rfl,hb⟩;refine ⟨_,rfl,?_⟩;have n0_:=aK (blk_below (g:=gb264) (o:= .cells #[.slice A1_0 l1_0.length c1_0,.int .i64 a1_1,.int .i64 a1_2,.int .i64 a1_3,.slice A1_4 l1_4.length c1_4] 27 (0,0)) zz41 hb);have n1_:=aK (below_step zz21 hb);clear BK264;clear HB;have BK264:=n0_;have HB:=n1_;clear n0_ n1_;(try clear hb);(try clear hb2);(try clear hk);(try clear hi);refine hK.out _ _ ⟨(blk_cell BK264.out 0).trans rfl,(blk_cell BK264.out 1).trans rfl,(blk_cell BK264.out 2).trans rfl,(blk_cell BK264.out 3).trans rfl,(blk_cell BK264.out 4).trans rfl⟩ (fun hHeld=>?_);clear hK K;refine nS 11 ?_;refine pT 2 12 (lA 45 7) HT_ ?_;refine pT 3 13 (lA 45 15) HT_ ?_;refine pT 4 14 (lA 45 31) HT_ ?_;refine tS 5 15 (lA 45 63) rfl rfl (take_ofW HT_.out HW_.out (by kernel_rfl)) hHeld zz17 ?_;refine one_ (i:=6) (N:=some 16) (lA 45 127) rfl rfl (one_of HT_.out (by kernel_rfl)) (by decide) (fun K hK=>?_);refine goes_ Try.func79 (by kernel_rfl) rfl #[.int .i64 a1_1,.int .i64 0,.int .i64 40] (by rfl) rfl rfl zz2 ?_;(with_reducible refine (spec_l6In.calls a1_1 0 40 true _ A8.out).mono ?_);rintro e w' ⟨rfl,⟨nd,rfl⟩⟩;refine ⟨_,rfl,?_⟩;refine hK.out _ _ ⟨(blk_cell BK264.out 0).trans rfl,(blk_cell BK264.out 1).trans rfl,(blk_cell BK264.out 2).trans rfl,(blk_cell BK264.out 3).trans rfl,(blk_cell BK264.out 4).trans rfl⟩ (fun hHeld=>?_);clear hK K;refine nS 16 ?_;refine pT 7 17 (lA 45 255) HT_ ?_;refine pT 8 18 (lA 45 511) HT_ ?_;refine pT 9 19 (lA 45 1023) HT_ ?_;refine pT 10 20 (lA 45 2047) HT_ ?_;refine pT 11 21 (lA 45 4095) HT_ ?_;refine tS 12 22 (lA 45 8191) rfl rfl (take_ofW HT_.out HW_.out (by kernel_rfl)) hHeld zz17 ?_;refine pT 13 23 (lA 45 16383) HT_ ?_;refine one_ (i:=14) (N:=some 24) (lA 45 32767) rfl rfl (one_of HT_.out (by kernel_rfl)) (by decide) (fun K hK=>?_);refine goes_ Try.func79 (by kernel_rfl) rfl #[.int .i64 (wrap64 ((l1_0.length:Int) - a1_1)),.int .i64 14,.int .i64 120] (by rfl) rfl rfl zz2 ?_;(with_reducible refine (spec_l6In.calls (wrap64 ((l1_0.length:Int) - a1_1)) 14 120 true _ A10.out).mono ?_);rintro e w' ⟨rfl,⟨nd,rfl⟩⟩;refine ⟨_,rfl,?_⟩;refine hK.out _ _ ⟨(blk_cell BK264.out 0).trans rfl,(blk_cell BK264.out 1).trans rfl,(blk_cell BK264.out 2).trans rfl,(blk_cell BK264.out 3).trans rfl,(blk_cell BK264.out 4).trans rfl⟩ (fun hHeld=>?_);clear hK K;refine nS 24 ?_;refine pT 15 25 (lA 45 65535) HT_ ?_;refine pT 16 26 (lA 45 131071) HT_ ?_;refine pT 17 27 (lA 45 262143) HT_ ?_;refine pT 18 28 (lA 45 524287) HT_ ?_;refine pT 20 30 (lA 45 1572863) HT_ ?_;refine tS 19 29 (lA 45 2097151) rfl rfl (take_ofW HT_.out HW_.out (by kernel_rfl)) hHeld zz17 ?_;refine tS 21 31 (lA 45 4194303) rfl rfl (take_ofW HT_.out HW_.out (by kernel_rfl)) hHeld zz17 ?_;refine one_ (i:=22) (N:=some 32) (lA 45 8388607) rfl rfl (one_of HT_.out (by kernel_rfl)) (by decide) (fun K hK=>?_);refine goes_ Try.func79 (by kernel_rfl) rfl #[.int .i64 a1_2,.int .i64 0,.int .i64 a1_1] (by rfl) rfl rfl zz2 ?_;(with_reducible refine (spec_l6In.calls a1_2 0 a1_1 true _ A12.out).mono ?_);rintro e w' ⟨rfl,⟨nd,rfl⟩⟩;refine ⟨_,rfl,?_⟩;refine hK.out _ _ ⟨(blk_cell BK264.out 0).trans rfl,(blk_cell BK264.out 1).trans rfl,(blk_cell BK264.out 2).trans rfl,(blk_cell BK264.out 3).trans rfl,(blk_cell BK264.out 4).trans rfl⟩ (fun hHeld=>?_);clear hK K;refine nS 32 ?_;refine pT 23 33 (lA 45 16777215) HT_ ?_;refine pT 24 34 (lA 45 33554431) HT_ ?_;refine pT 25 35 (lA 45 67108863) HT_ ?_;refine pT 26 36 (lA 45 134217727) HT_ ?_;refine pT 28 38 (lA 45 402653183) HT_ ?_;refine pT 30 40 (lA 45 1476395007) HT_ ?_;refine tS 27 37 (lA 45 1610612735) rfl rfl (take_ofW HT_.out HW_.out (by kernel_rfl)) hHeld zz17 ?_;refine tS 29 39 (lA 45 2147483647) rfl rfl (take_ofW HT_.out HW_.out (by kernel_rfl)) hHeld zz17 ?_;refine one_ (i:=31) (N:=some 41) (lA 45 4294967295) rfl rfl (one_of HT_.out (by kernel_rfl)) (by decide) (fun K hK=>?_)
       refine goes_ Try.func79 (by kernel_rfl) rfl #[.int .i64 a1_3,.int .i64 a1_1,.int .i64 (l1_0.length:Int)] (by rfl) rfl rfl zz2 ?_;(with_reducible refine (spec_l6In.calls a1_3 a1_1 (l1_0.length:Int) false _ A14.out).mono ?_);rintro e w' ⟨rfl,⟨nd,rfl⟩⟩;refine ⟨_,rfl,?_⟩;refine hK.out _ _ ⟨(blk_cell BK264.out 0).trans rfl,(blk_cell BK264.out 1).trans rfl,(blk_cell BK264.out 2).trans rfl,(blk_cell BK264.out 3).trans rfl,(blk_cell BK264.out 4).trans rfl⟩ (fun hHeld=>?_);clear hK K;refine nS 41 ?_;refine pT 32 42 (lA 45 8589934591) HT_ ?_;refine pT 33 43 (lA 45 17179869183) HT_ ?_;refine pT 34 44 (lA 45 34359738367) HT_ ?_;refine uT 35 45 (lA 45 68719476735) HT_ ?_;refine uT 36 46 (lA 45 137438953471) HT_ ?_;refine uT 37 47 (lA 45 274877906943) HT_ ?_;refine uT 38 48 (lA 45 549755813887) HT_ ?_;refine uT 39 49 (lA 45 1099511627775) HT_ ?_;refine uT 40 50 (lA 45 2199023255551) HT_ ?_;refine uT 41 51 (lA 45 4398046511103) HT_ ?_;refine uT 42 52 (lA 45 8796093022207) HT_ ?_;refine uT 43 53 (lA 45 17592186044415) HT_ ?_;refine pT 44 54 (lA 45 35184372088831) HT_ ?_;refine done_ (done_of HT_.out (by kernel_rfl)) ?_;try go_wp2
       go_meet
       case rel=>exact ⟨_,(true),zz7,H',⟨by first|omega|exact Nat.le_refl _⟩,⟨by (with_reducible repeat (first|refine blk_drewN ?_ _|refine blk_drew ?_|refine blk_alloc ?_ _));exact BK264.out⟩,⟨by repeat (first|(with_reducible first|exact HB.out|apply below_alloc|apply pw_below_drewN|apply below_drew1|refine below_set ?_ GE264.out)|exact HB.out)⟩⟩
     ·replace c13 := Bool.eq_false_iff.mpr c13
      subst c13;rw [if_neg (show¬(false=true) by decide)] at H;have H':=aK H;clear H;try go_wp2
      have n0_:=aK (blk_drew BK264.out);have n1_:=aK (below_drew1 HB.out);clear BK264;clear HB;have BK264:=n0_;have HB:=n1_;clear n0_ n1_;refine sT 45 (S:=fun w'=>w'.cell? ⟨gb264,0,none⟩=some (.slice A1_0 l1_0.length c1_0)∧w'.cell? ⟨gb264,1,none⟩=some (.int .i64 a1_1)∧w'.cell? ⟨gb264,2,none⟩=some (.int .i64 a1_2)∧w'.cell? ⟨gb264,3,none⟩=some (.int .i64 a1_3)∧w'.cell? ⟨gb264,4,none⟩=some (.slice A1_4 l1_4.length c1_4)) (ds:=[]) ⟨(blk_cell BK264.out 0).trans rfl,(blk_cell BK264.out 1).trans rfl,(blk_cell BK264.out 2).trans rfl,(blk_cell BK264.out 3).trans rfl,(blk_cell BK264.out 4).trans rfl⟩ (fun hHeld=>?_);refine with_tabW spec_l21Bounds.tab2 spec_l21Bounds.bits2 (fun HT_ HW_=>?_);generalize w4.drew=w21 at BK264 HB hHeld ⊢;refine pT 0 10 (lA 45 1) HT_ ?_;refine one_ (i:=1) (N:=some 11) (lA 45 3) rfl rfl (one_of HT_.out (by kernel_rfl)) (by decide) (fun K hK=>?_);refine goes_ Try.func83 (by kernel_rfl) rfl #[.slice A0 l0.length c0] (by rfl) rfl rfl zz2 ?_;(with_reducible refine (spec_ClassesOk.calls k _ _ l0 true _ ?side1 ?side2 A6.out).mono ?_)
      (case side1=>exact zz4)
      (case side2=>exact HC0.out)
      rintro e w22 ⟨rfl,hb⟩;refine ⟨_,rfl,?_⟩;have n0_:=aK (blk_below (g:=gb264) (o:= .cells #[.slice A1_0 l1_0.length c1_0,.int .i64 a1_1,.int .i64 a1_2,.int .i64 a1_3,.slice A1_4 l1_4.length c1_4] 27 (0,0)) zz41 hb);have n1_:=aK (below_step zz21 hb);clear BK264;clear HB;have BK264:=n0_;have HB:=n1_;clear n0_ n1_;(try clear hb);(try clear hb2);(try clear hk);(try clear hi);refine hK.out _ _ ⟨(blk_cell BK264.out 0).trans rfl,(blk_cell BK264.out 1).trans rfl,(blk_cell BK264.out 2).trans rfl,(blk_cell BK264.out 3).trans rfl,(blk_cell BK264.out 4).trans rfl⟩ (fun hHeld=>?_);clear hK K;refine nS 11 ?_;refine pT 2 12 (lA 45 7) HT_ ?_;refine pT 3 13 (lA 45 15) HT_ ?_;refine pT 4 14 (lA 45 31) HT_ ?_;refine tS 5 15 (lA 45 63) rfl rfl (take_ofW HT_.out HW_.out (by kernel_rfl)) hHeld zz17 ?_;refine one_ (i:=6) (N:=some 16) (lA 45 127) rfl rfl (one_of HT_.out (by kernel_rfl)) (by decide) (fun K hK=>?_);refine goes_ Try.func79 (by kernel_rfl) rfl #[.int .i64 a1_1,.int .i64 0,.int .i64 40] (by rfl) rfl rfl zz2 ?_;(with_reducible refine (spec_l6In.calls a1_1 0 40 true _ A8.out).mono ?_);rintro e w' ⟨rfl,⟨nd,rfl⟩⟩;refine ⟨_,rfl,?_⟩;refine hK.out _ _ ⟨(blk_cell BK264.out 0).trans rfl,(blk_cell BK264.out 1).trans rfl,(blk_cell BK264.out 2).trans rfl,(blk_cell BK264.out 3).trans rfl,(blk_cell BK264.out 4).trans rfl⟩ (fun hHeld=>?_);clear hK K;refine nS 16 ?_;refine pT 7 17 (lA 45 255) HT_ ?_;refine pT 8 18 (lA 45 511) HT_ ?_;refine pT 9 19 (lA 45 1023) HT_ ?_;refine pT 10 20 (lA 45 2047) HT_ ?_;refine pT 11 21 (lA 45 4095) HT_ ?_;refine tS 12 22 (lA 45 8191) rfl rfl (take_ofW HT_.out HW_.out (by kernel_rfl)) hHeld zz17 ?_;refine pT 13 23 (lA 45 16383) HT_ ?_;refine one_ (i:=14) (N:=some 24) (lA 45 32767) rfl rfl (one_of HT_.out (by kernel_rfl)) (by decide) (fun K hK=>?_);refine goes_ Try.func79 (by kernel_rfl) rfl #[.int .i64 (wrap64 ((l1_0.length:Int) - a1_1)),.int .i64 14,.int .i64 120] (by rfl) rfl rfl zz2 ?_;(with_reducible refine (spec_l6In.calls (wrap64 ((l1_0.length:Int) - a1_1)) 14 120 true _ A10.out).mono ?_);rintro e w' ⟨rfl,⟨nd,rfl⟩⟩;refine ⟨_,rfl,?_⟩;refine hK.out _ _ ⟨(blk_cell BK264.out 0).trans rfl,(blk_cell BK264.out 1).trans rfl,(blk_cell BK264.out 2).trans rfl,(blk_cell BK264.out 3).trans rfl,(blk_cell BK264.out 4).trans rfl⟩ (fun hHeld=>?_);clear hK K;refine nS 24 ?_;refine pT 15 25 (lA 45 65535) HT_ ?_;refine pT 16 26 (lA 45 131071) HT_ ?_;refine pT 17 27 (lA 45 262143) HT_ ?_;refine pT 18 28 (lA 45 524287) HT_ ?_;refine pT 20 30 (lA 45 1572863) HT_ ?_;refine tS 19 29 (lA 45 2097151) rfl rfl (take_ofW HT_.out HW_.out (by kernel_rfl)) hHeld zz17 ?_;refine tS 21 31 (lA 45 4194303) rfl rfl (take_ofW HT_.out HW_.out (by kernel_rfl)) hHeld zz17 ?_;refine one_ (i:=22) (N:=some 32) (lA 45 8388607) rfl rfl (one_of HT_.out (by kernel_rfl)) (by decide) (fun K hK=>?_);refine goes_ Try.func79 (by kernel_rfl) rfl #[.int .i64 a1_2,.int .i64 0,.int .i64 a1_1] (by rfl) rfl rfl zz2 ?_;(with_reducible refine (spec_l6In.calls a1_2 0 a1_1 false _ A12.out).mono ?_);rintro e w' ⟨rfl,⟨nd,rfl⟩⟩;refine ⟨_,rfl,?_⟩;refine hK.out _ _ ⟨(blk_cell BK264.out 0).trans rfl,(blk_cell BK264.out 1).trans rfl,(blk_cell BK264.out 2).trans rfl,(blk_cell BK264.out 3).trans rfl,(blk_cell BK264.out 4).trans rfl⟩ (fun hHeld=>?_);clear hK K;refine nS 32 ?_;refine pT 23 33 (lA 45 16777215) HT_ ?_;refine pT 24 34 (lA 45 33554431) HT_ ?_;refine pT 25 35 (lA 45 67108863) HT_ ?_;refine uT 26 36 (lA 45 134217727) HT_ ?_;refine uT 27 37 (lA 45 268435455) HT_ ?_;refine uT 28 38 (lA 45 536870911) HT_ ?_;refine uT 29 39 (lA 45 1073741823) HT_ ?_;refine uT 30 40 (lA 45 2147483647) HT_ ?_;refine uT 31 41 (lA 45 4294967295) HT_ ?_;refine uT 32 42 (lA 45 8589934591) HT_ ?_;refine pT 33 43 (lA 45 17179869183) HT_ ?_;refine pT 34 44 (lA 45 34359738367) HT_ ?_;refine uT 35 45 (lA 45 68719476735) HT_ ?_;refine uT 36 46 (lA 45 137438953471) HT_ ?_;refine uT 37 47 (lA 45 274877906943) HT_ ?_
      refine uT 38 48 (lA 45 549755813887) HT_ ?_;refine uT 39 49 (lA 45 1099511627775) HT_ ?_;refine uT 40 50 (lA 45 2199023255551) HT_ ?_;refine uT 41 51 (lA 45 4398046511103) HT_ ?_;refine uT 42 52 (lA 45 8796093022207) HT_ ?_;refine uT 43 53 (lA 45 17592186044415) HT_ ?_;refine pT 44 54 (lA 45 35184372088831) HT_ ?_;refine done_ (done_of HT_.out (by kernel_rfl)) ?_;try go_wp2
      go_meet
      case rel=>exact ⟨_,(true),zz7,H',⟨by first|omega|exact Nat.le_refl _⟩,⟨by (with_reducible repeat (first|refine blk_drewN ?_ _|refine blk_drew ?_|refine blk_alloc ?_ _));exact BK264.out⟩,⟨by repeat (first|(with_reducible first|exact HB.out|apply below_alloc|apply pw_below_drewN|apply below_drew1|refine below_set ?_ GE264.out)|exact HB.out)⟩⟩
    ·replace c11 := Bool.eq_false_iff.mpr c11
     subst c11;rw [if_neg (show¬(false=true) by decide)] at H;have H':=aK H;clear H;try go_wp2
     have n0_:=aK (blk_drew BK264.out);have n1_:=aK (below_drew1 HB.out);clear BK264;clear HB;have BK264:=n0_;have HB:=n1_;clear n0_ n1_;refine sT 45 (S:=fun w'=>w'.cell? ⟨gb264,0,none⟩=some (.slice A1_0 l1_0.length c1_0)∧w'.cell? ⟨gb264,1,none⟩=some (.int .i64 a1_1)∧w'.cell? ⟨gb264,2,none⟩=some (.int .i64 a1_2)∧w'.cell? ⟨gb264,3,none⟩=some (.int .i64 a1_3)∧w'.cell? ⟨gb264,4,none⟩=some (.slice A1_4 l1_4.length c1_4)) (ds:=[]) ⟨(blk_cell BK264.out 0).trans rfl,(blk_cell BK264.out 1).trans rfl,(blk_cell BK264.out 2).trans rfl,(blk_cell BK264.out 3).trans rfl,(blk_cell BK264.out 4).trans rfl⟩ (fun hHeld=>?_);refine with_tabW spec_l21Bounds.tab2 spec_l21Bounds.bits2 (fun HT_ HW_=>?_);generalize w4.drew=w23 at BK264 HB hHeld ⊢;refine pT 0 10 (lA 45 1) HT_ ?_;refine one_ (i:=1) (N:=some 11) (lA 45 3) rfl rfl (one_of HT_.out (by kernel_rfl)) (by decide) (fun K hK=>?_);refine goes_ Try.func83 (by kernel_rfl) rfl #[.slice A0 l0.length c0] (by rfl) rfl rfl zz2 ?_;(with_reducible refine (spec_ClassesOk.calls k _ _ l0 true _ ?side1 ?side2 A6.out).mono ?_)
     (case side1=>exact zz4)
     (case side2=>exact HC0.out)
     rintro e w24 ⟨rfl,hb⟩;refine ⟨_,rfl,?_⟩;have n0_:=aK (blk_below (g:=gb264) (o:= .cells #[.slice A1_0 l1_0.length c1_0,.int .i64 a1_1,.int .i64 a1_2,.int .i64 a1_3,.slice A1_4 l1_4.length c1_4] 27 (0,0)) zz41 hb);have n1_:=aK (below_step zz21 hb);clear BK264;clear HB;have BK264:=n0_;have HB:=n1_;clear n0_ n1_;(try clear hb);(try clear hb2);(try clear hk);(try clear hi);refine hK.out _ _ ⟨(blk_cell BK264.out 0).trans rfl,(blk_cell BK264.out 1).trans rfl,(blk_cell BK264.out 2).trans rfl,(blk_cell BK264.out 3).trans rfl,(blk_cell BK264.out 4).trans rfl⟩ (fun hHeld=>?_);clear hK K;refine nS 11 ?_;refine pT 2 12 (lA 45 7) HT_ ?_;refine pT 3 13 (lA 45 15) HT_ ?_;refine pT 4 14 (lA 45 31) HT_ ?_;refine tS 5 15 (lA 45 63) rfl rfl (take_ofW HT_.out HW_.out (by kernel_rfl)) hHeld zz17 ?_;refine one_ (i:=6) (N:=some 16) (lA 45 127) rfl rfl (one_of HT_.out (by kernel_rfl)) (by decide) (fun K hK=>?_);refine goes_ Try.func79 (by kernel_rfl) rfl #[.int .i64 a1_1,.int .i64 0,.int .i64 40] (by rfl) rfl rfl zz2 ?_;(with_reducible refine (spec_l6In.calls a1_1 0 40 true _ A8.out).mono ?_);rintro e w' ⟨rfl,⟨nd,rfl⟩⟩;refine ⟨_,rfl,?_⟩;refine hK.out _ _ ⟨(blk_cell BK264.out 0).trans rfl,(blk_cell BK264.out 1).trans rfl,(blk_cell BK264.out 2).trans rfl,(blk_cell BK264.out 3).trans rfl,(blk_cell BK264.out 4).trans rfl⟩ (fun hHeld=>?_);clear hK K;refine nS 16 ?_;refine pT 7 17 (lA 45 255) HT_ ?_;refine pT 8 18 (lA 45 511) HT_ ?_;refine pT 9 19 (lA 45 1023) HT_ ?_;refine pT 10 20 (lA 45 2047) HT_ ?_;refine pT 11 21 (lA 45 4095) HT_ ?_;refine tS 12 22 (lA 45 8191) rfl rfl (take_ofW HT_.out HW_.out (by kernel_rfl)) hHeld zz17 ?_;refine pT 13 23 (lA 45 16383) HT_ ?_;refine one_ (i:=14) (N:=some 24) (lA 45 32767) rfl rfl (one_of HT_.out (by kernel_rfl)) (by decide) (fun K hK=>?_);refine goes_ Try.func79 (by kernel_rfl) rfl #[.int .i64 (wrap64 ((l1_0.length:Int) - a1_1)),.int .i64 14,.int .i64 120] (by rfl) rfl rfl zz2 ?_;(with_reducible refine (spec_l6In.calls (wrap64 ((l1_0.length:Int) - a1_1)) 14 120 false _ A10.out).mono ?_);rintro e w' ⟨rfl,⟨nd,rfl⟩⟩;refine ⟨_,rfl,?_⟩;refine hK.out _ _ ⟨(blk_cell BK264.out 0).trans rfl,(blk_cell BK264.out 1).trans rfl,(blk_cell BK264.out 2).trans rfl,(blk_cell BK264.out 3).trans rfl,(blk_cell BK264.out 4).trans rfl⟩ (fun hHeld=>?_);clear hK K;refine nS 24 ?_;refine pT 15 25 (lA 45 65535) HT_ ?_;refine pT 16 26 (lA 45 131071) HT_ ?_;refine pT 17 27 (lA 45 262143) HT_ ?_;refine uT 18 28 (lA 45 524287) HT_ ?_;refine uT 19 29 (lA 45 1048575) HT_ ?_;refine uT 20 30 (lA 45 2097151) HT_ ?_;refine uT 21 31 (lA 45 4194303) HT_ ?_;refine uT 22 32 (lA 45 8388607) HT_ ?_;refine uT 23 33 (lA 45 16777215) HT_ ?_;refine pT 24 34 (lA 45 33554431) HT_ ?_;refine pT 25 35 (lA 45 67108863) HT_ ?_;refine uT 26 36 (lA 45 134217727) HT_ ?_;refine uT 27 37 (lA 45 268435455) HT_ ?_;refine uT 28 38 (lA 45 536870911) HT_ ?_;refine uT 29 39 (lA 45 1073741823) HT_ ?_;refine uT 30 40 (lA 45 2147483647) HT_ ?_;refine uT 31 41 (lA 45 4294967295) HT_ ?_;refine uT 32 42 (lA 45 8589934591) HT_ ?_;refine pT 33 43 (lA 45 17179869183) HT_ ?_;refine pT 34 44 (lA 45 34359738367) HT_ ?_;refine uT 35 45 (lA 45 68719476735) HT_ ?_;refine uT 36 46 (lA 45 137438953471) HT_ ?_;refine uT 37 47 (lA 45 274877906943) HT_ ?_;refine uT 38 48 (lA 45 549755813887) HT_ ?_;refine uT 39 49 (lA 45 1099511627775) HT_ ?_;refine uT 40 50 (lA 45 2199023255551) HT_ ?_;refine uT 41 51 (lA 45 4398046511103) HT_ ?_;refine uT 42 52 (lA 45 8796093022207) HT_ ?_;refine uT 43 53 (lA 45 17592186044415) HT_ ?_;refine pT 44 54 (lA 45 35184372088831) HT_ ?_;refine done_ (done_of HT_.out (by kernel_rfl)) ?_;try go_wp2
     go_meet
     case rel=>exact ⟨_,(true),zz7,H',⟨by first|omega|exact Nat.le_refl _⟩,⟨by (with_reducible repeat (first|refine blk_drewN ?_ _|refine blk_drew ?_|refine blk_alloc ?_ _));exact BK264.out⟩,⟨by repeat (first|(with_reducible first|exact HB.out|apply below_alloc|apply pw_below_drewN|apply below_drew1|refine below_set ?_ GE264.out)|exact HB.out)⟩⟩
   ·replace c9 := Bool.eq_false_iff.mpr c9
    subst c9;rw [if_neg (show¬(false=true) by decide)] at H;have H':=aK H;clear H;try go_wp2
    have n0_:=aK (blk_drew BK264.out);have n1_:=aK (below_drew1 HB.out);clear BK264;clear HB;have BK264:=n0_;have HB:=n1_;clear n0_ n1_;refine sT 45 (S:=fun w'=>w'.cell? ⟨gb264,0,none⟩=some (.slice A1_0 l1_0.length c1_0)∧w'.cell? ⟨gb264,1,none⟩=some (.int .i64 a1_1)∧w'.cell? ⟨gb264,2,none⟩=some (.int .i64 a1_2)∧w'.cell? ⟨gb264,3,none⟩=some (.int .i64 a1_3)∧w'.cell? ⟨gb264,4,none⟩=some (.slice A1_4 l1_4.length c1_4)) (ds:=[]) ⟨(blk_cell BK264.out 0).trans rfl,(blk_cell BK264.out 1).trans rfl,(blk_cell BK264.out 2).trans rfl,(blk_cell BK264.out 3).trans rfl,(blk_cell BK264.out 4).trans rfl⟩ (fun hHeld=>?_);refine with_tabW spec_l21Bounds.tab2 spec_l21Bounds.bits2 (fun HT_ HW_=>?_);generalize w4.drew=w25 at BK264 HB hHeld ⊢;refine pT 0 10 (lA 45 1) HT_ ?_;refine one_ (i:=1) (N:=some 11) (lA 45 3) rfl rfl (one_of HT_.out (by kernel_rfl)) (by decide) (fun K hK=>?_);refine goes_ Try.func83 (by kernel_rfl) rfl #[.slice A0 l0.length c0] (by rfl) rfl rfl zz2 ?_;(with_reducible refine (spec_ClassesOk.calls k _ _ l0 true _ ?side1 ?side2 A6.out).mono ?_)
    (case side1=>exact zz4)
    (case side2=>exact HC0.out)
    rintro e w26 ⟨rfl,hb⟩;refine ⟨_,rfl,?_⟩;have n0_:=aK (blk_below (g:=gb264) (o:= .cells #[.slice A1_0 l1_0.length c1_0,.int .i64 a1_1,.int .i64 a1_2,.int .i64 a1_3,.slice A1_4 l1_4.length c1_4] 27 (0,0)) zz41 hb);have n1_:=aK (below_step zz21 hb);clear BK264;clear HB;have BK264:=n0_;have HB:=n1_;clear n0_ n1_;(try clear hb);(try clear hb2);(try clear hk);(try clear hi);refine hK.out _ _ ⟨(blk_cell BK264.out 0).trans rfl,(blk_cell BK264.out 1).trans rfl,(blk_cell BK264.out 2).trans rfl,(blk_cell BK264.out 3).trans rfl,(blk_cell BK264.out 4).trans rfl⟩ (fun hHeld=>?_);clear hK K;refine nS 11 ?_;refine pT 2 12 (lA 45 7) HT_ ?_;refine pT 3 13 (lA 45 15) HT_ ?_;refine pT 4 14 (lA 45 31) HT_ ?_;refine tS 5 15 (lA 45 63) rfl rfl (take_ofW HT_.out HW_.out (by kernel_rfl)) hHeld zz17 ?_;refine one_ (i:=6) (N:=some 16) (lA 45 127) rfl rfl (one_of HT_.out (by kernel_rfl)) (by decide) (fun K hK=>?_);refine goes_ Try.func79 (by kernel_rfl) rfl #[.int .i64 a1_1,.int .i64 0,.int .i64 40] (by rfl) rfl rfl zz2 ?_;(with_reducible refine (spec_l6In.calls a1_1 0 40 false _ A8.out).mono ?_);rintro e w' ⟨rfl,⟨nd,rfl⟩⟩;refine ⟨_,rfl,?_⟩;refine hK.out _ _ ⟨(blk_cell BK264.out 0).trans rfl,(blk_cell BK264.out 1).trans rfl,(blk_cell BK264.out 2).trans rfl,(blk_cell BK264.out 3).trans rfl,(blk_cell BK264.out 4).trans rfl⟩ (fun hHeld=>?_);clear hK K;refine nS 16 ?_;refine pT 7 17 (lA 45 255) HT_ ?_;refine pT 8 18 (lA 45 511) HT_ ?_;refine pT 9 19 (lA 45 1023) HT_ ?_;refine uT 10 20 (lA 45 2047) HT_ ?_;refine uT 11 21 (lA 45 4095) HT_ ?_;refine uT 12 22 (lA 45 8191) HT_ ?_;refine uT 13 23 (lA 45 16383) HT_ ?_;refine uT 14 24 (lA 45 32767) HT_ ?_;refine uT 15 25 (lA 45 65535) HT_ ?_;refine pT 16 26 (lA 45 131071) HT_ ?_;refine pT 17 27 (lA 45 262143) HT_ ?_;refine uT 18 28 (lA 45 524287) HT_ ?_;refine uT 19 29 (lA 45 1048575) HT_ ?_;refine uT 20 30 (lA 45 2097151) HT_ ?_;refine uT 21 31 (lA 45 4194303) HT_ ?_;refine uT 22 32 (lA 45 8388607) HT_ ?_;refine uT 23 33 (lA 45 16777215) HT_ ?_;refine pT 24 34 (lA 45 33554431) HT_ ?_;refine pT 25 35 (lA 45 67108863) HT_ ?_;refine uT 26 36 (lA 45 134217727) HT_ ?_;refine uT 27 37 (lA 45 268435455) HT_ ?_;refine uT 28 38 (lA 45 536870911) HT_ ?_;refine uT 29 39 (lA 45 1073741823) HT_ ?_;refine uT 30 40 (lA 45 2147483647) HT_ ?_;refine uT 31 41 (lA 45 4294967295) HT_ ?_;refine uT 32 42 (lA 45 8589934591) HT_ ?_;refine pT 33 43 (lA 45 17179869183) HT_ ?_;refine pT 34 44 (lA 45 34359738367) HT_ ?_;refine uT 35 45 (lA 45 68719476735) HT_ ?_;refine uT 36 46 (lA 45 137438953471) HT_ ?_;refine uT 37 47 (lA 45 274877906943) HT_ ?_;refine uT 38 48 (lA 45 549755813887) HT_ ?_;refine uT 39 49 (lA 45 1099511627775) HT_ ?_;refine uT 40 50 (lA 45 2199023255551) HT_ ?_;refine uT 41 51 (lA 45 4398046511103) HT_ ?_;refine uT 42 52 (lA 45 8796093022207) HT_ ?_;refine uT 43 53 (lA 45 17592186044415) HT_ ?_;refine pT 44 54 (lA 45 35184372088831) HT_ ?_;refine done_ (done_of HT_.out (by kernel_rfl)) ?_;try go_wp2
    go_meet
    case rel=>exact ⟨_,(true),zz7,H',⟨by first|omega|exact Nat.le_refl _⟩,⟨by (with_reducible repeat (first|refine blk_drewN ?_ _|refine blk_drew ?_|refine blk_alloc ?_ _));exact BK264.out⟩,⟨by repeat (first|(with_reducible first|exact HB.out|apply below_alloc|apply pw_below_drewN|apply below_drew1|refine below_set ?_ GE264.out)|exact HB.out)⟩⟩
  ·replace c7 := Bool.eq_false_iff.mpr c7
   subst c7;rw [if_neg (show¬(false=true) by decide)] at H;have H':=aK H;clear H;try go_wp2
   have n0_:=aK (blk_drew BK264.out);have n1_:=aK (below_drew1 HB.out);clear BK264;clear HB;have BK264:=n0_;have HB:=n1_;clear n0_ n1_;refine sT 45 (S:=fun w'=>True) (ds:=[]) trivial (fun hHeld=>?_);refine with_tabW spec_l21Bounds.tab2 spec_l21Bounds.bits2 (fun HT_ HW_=>?_);generalize w4.drew=w27 at BK264 HB hHeld ⊢;refine pT 0 10 (lA 45 1) HT_ ?_;refine one_ (i:=1) (N:=some 11) (lA 45 3) rfl rfl (one_of HT_.out (by kernel_rfl)) (by decide) (fun K hK=>?_);refine goes_ Try.func83 (by kernel_rfl) rfl #[.slice A0 l0.length c0] (by rfl) rfl rfl zz2 ?_;(with_reducible refine (spec_ClassesOk.calls k _ _ l0 false _ ?side1 ?side2 A6.out).mono ?_)
   (case side1=>exact zz4)
   (case side2=>exact HC0.out)
   rintro e w28 ⟨rfl,hb⟩;refine ⟨_,rfl,?_⟩;have n0_:=aK (blk_below (g:=gb264) (o:= .cells #[.slice A1_0 l1_0.length c1_0,.int .i64 a1_1,.int .i64 a1_2,.int .i64 a1_3,.slice A1_4 l1_4.length c1_4] 27 (0,0)) zz41 hb);have n1_:=aK (below_step zz21 hb);clear BK264;clear HB;have BK264:=n0_;have HB:=n1_;clear n0_ n1_;(try clear hb);(try clear hb2);(try clear hk);(try clear hi);refine hK.out _ _ trivial (fun hHeld=>?_);clear hK K;refine nS 11 ?_;refine pT 2 12 (lA 45 7) HT_ ?_;refine pT 3 13 (lA 45 15) HT_ ?_;refine uT 4 14 (lA 45 31) HT_ ?_;refine uT 5 15 (lA 45 63) HT_ ?_;refine uT 6 16 (lA 45 127) HT_ ?_;refine uT 7 17 (lA 45 255) HT_ ?_;refine pT 8 18 (lA 45 511) HT_ ?_;refine pT 9 19 (lA 45 1023) HT_ ?_;refine uT 10 20 (lA 45 2047) HT_ ?_;refine uT 11 21 (lA 45 4095) HT_ ?_;refine uT 12 22 (lA 45 8191) HT_ ?_;refine uT 13 23 (lA 45 16383) HT_ ?_;refine uT 14 24 (lA 45 32767) HT_ ?_;refine uT 15 25 (lA 45 65535) HT_ ?_;refine pT 16 26 (lA 45 131071) HT_ ?_;refine pT 17 27 (lA 45 262143) HT_ ?_;refine uT 18 28 (lA 45 524287) HT_ ?_;refine uT 19 29 (lA 45 1048575) HT_ ?_;refine uT 20 30 (lA 45 2097151) HT_ ?_;refine uT 21 31 (lA 45 4194303) HT_ ?_;refine uT 22 32 (lA 45 8388607) HT_ ?_;refine uT 23 33 (lA 45 16777215) HT_ ?_;refine pT 24 34 (lA 45 33554431) HT_ ?_;refine pT 25 35 (lA 45 67108863) HT_ ?_;refine uT 26 36 (lA 45 134217727) HT_ ?_;refine uT 27 37 (lA 45 268435455) HT_ ?_;refine uT 28 38 (lA 45 536870911) HT_ ?_;refine uT 29 39 (lA 45 1073741823) HT_ ?_;refine uT 30 40 (lA 45 2147483647) HT_ ?_;refine uT 31 41 (lA 45 4294967295) HT_ ?_;refine uT 32 42 (lA 45 8589934591) HT_ ?_;refine pT 33 43 (lA 45 17179869183) HT_ ?_;refine pT 34 44 (lA 45 34359738367) HT_ ?_;refine uT 35 45 (lA 45 68719476735) HT_ ?_;refine uT 36 46 (lA 45 137438953471) HT_ ?_;refine uT 37 47 (lA 45 274877906943) HT_ ?_;refine uT 38 48 (lA 45 549755813887) HT_ ?_;refine uT 39 49 (lA 45 1099511627775) HT_ ?_;refine uT 40 50 (lA 45 2199023255551) HT_ ?_;refine uT 41 51 (lA 45 4398046511103) HT_ ?_;refine uT 42 52 (lA 45 8796093022207) HT_ ?_;refine uT 43 53 (lA 45 17592186044415) HT_ ?_;refine pT 44 54 (lA 45 35184372088831) HT_ ?_;refine done_ (done_of HT_.out (by kernel_rfl)) ?_;try go_wp2
   go_meet
   case rel=>exact ⟨_,(true),zz7,H',⟨by first|omega|exact Nat.le_refl _⟩,⟨by (with_reducible repeat (first|refine blk_drewN ?_ _|refine blk_drew ?_|refine blk_alloc ?_ _));exact BK264.out⟩,⟨by repeat (first|(with_reducible first|exact HB.out|apply below_alloc|apply pw_below_drewN|apply below_drew1|refine below_set ?_ GE264.out)|exact HB.out)⟩⟩
 case rest =>
  clear HC3;(try clear c1);(try clear p2);(try clear c7);(try clear c8);(try clear c9);obtain ⟨kq,x54_2,rfl,HA,HJ2,BK264,HB⟩:=hcut
  cases kq with
  |zero=>exact absurd HA.out (by simp [spec_l21Bounds.j0])
  | succ kj2 =>
   have H:=HA.out;clear HA;simp only [spec_l21Bounds.j0] at H;by_cases c29:x54_2=true
   ·subst c29
    rw [if_pos rfl] at H;obtain rfl:=Option.some.inj H;go_wp2;go_ret;exact ⟨zz8,zz21⟩
   ·replace c29 := Bool.eq_false_iff.mpr c29
    subst c29;rw [if_neg (show¬(false=true) by decide)] at H;have H':=aK H;clear H;go_wp2
    go_loopg [6] kj2 (fun kq v6 w'=> ∃(x6_2:Int),v6= .int .i64 x6_2∧Aside0 (spec_l21Bounds.l0 kq (l1_0.length:Int) x6_2 l1_0 a1_1 a1_2 a1_3 l1_4=some r)∧Aside0 (kq≤kj2)∧Aside0 (w'.heap[gb264]? =some (.cells #[(.slice A1_0 l1_0.length c1_0),.int .i64 a1_1,.int .i64 a1_2,.int .i64 a1_3,(.slice A1_4 l1_4.length c1_4)] 27 (0,0)))∧Aside0 (Below w.heap.size w w'))
    case atStart=>exact ⟨(0),zz7,H',⟨Nat.le_refl _⟩,⟨by (with_reducible repeat (first|refine blk_drewN ?_ _|refine blk_drew ?_|refine blk_alloc ?_ _));exact BK264.out⟩,⟨by repeat (first|(with_reducible first|exact HB.out|apply below_alloc|apply pw_below_drewN|apply below_drew1|refine below_set ?_ GE264.out)|exact HB.out)⟩⟩
    case round =>
     clear H';(try clear c1);(try clear c2);(try clear p2);(try clear c7);(try clear c8);(try clear c9);(try clear c29);(try clear p2);obtain ⟨x6_2,rfl,HA,HK2,BK264,HB⟩:=hrel
     cases gk with
     |zero=>exact absurd HA.out (by simp [spec_l21Bounds.l0])
     | succ k2 =>
      have H:=HA.out;clear HA;simp only [spec_l21Bounds.l0] at H;by_cases c30:x6_2<(l1_0.length:Int)
      ·rw [if_pos c30] at H
       have c30b0:decide (x6_2<(l1_0.length:Int))=true:=decide_eq_true c30
       clear c30;replace H:=Option.bind_eq_some_iff.mp H;obtain ⟨t271,A310,H⟩:=H;(try dsimp only at H);have A31:=aK A310;clear A310;by_cases c32:t271=true
       ·subst c32
        rw [if_pos rfl] at H;by_cases c33:0≤x6_2
        ·rw [if_pos c33] at H
         have c33b0:decide (0≤x6_2)=true:=decide_eq_true c33
         clear c33;by_cases c34:x6_2<(l1_0.length:Int)
         ·rw [if_pos c34] at H
          have c34b0:decide (x6_2<(l1_0.length:Int))=true:=decide_eq_true c34
          clear c34;by_cases c35:(rd l1_0 x6_2)=0
          ·rw [if_pos c35] at H
           have c35b0:((rd l1_0 x6_2)==0)=true:=beq_iff_eq.mpr c35
           have c35b1:((rd l1_0 x6_2) !=0)=false:=bne_eq_false_iff_eq.mpr c35
           clear c35;have H':=aK H;clear H;obtain ⟨hcz36_0,hcz36_1,hcz36_2,hcz36_3,hcz36_4,hfz36_0,hfz36_1,hfz36_2,hfz36_3,hfz36_4⟩:=cbf5 BK264
           go_wp2_with (first|((with_reducible refine gate_callee (f:=79) rfl ?_);refine goesL_ (some 66) rfl rfl Try.func79 (by kernel_rfl) rfl #[.int .i64 x6_2,.int .i64 a1_2,.int .i64 (wrap64 (a1_1 - 1))] rfl zz2 ?_;(with_reducible refine (spec_l6In.calls x6_2 a1_2 (wrap64 (a1_1 - 1)) true _ A31.out).mono ?_);rintro e w' ⟨rfl,⟨nd,rfl⟩⟩;refine ⟨_,rfl,?_⟩;have p272:0≤(x6_2:Int):=of_decide_eq_true zz3;have q272:x6_2<(l1_0.length:Int):=of_decide_eq_true zz3;obtain ⟨ad272,e272,hx272_0⟩:=Kd.at_int HR1_0.out x6_2 p272 q272;cases e272;replace hx272_0:=(HB.out.cell (World.block_lt_of_cell? w _ hx272_0)).trans hx272_0;replace p272:=eq_true p272;replace q272:=eq_true q272))
           go_roundg k2
           case measure=>have:=HJ2.out;have:=HK2.out;omega
           case rel=>exact ⟨(wrap64 (x6_2+1)),zz7,H',⟨by have:=HJ2.out;have:=HK2.out;omega⟩,⟨by (with_reducible repeat (first|refine blk_drewN ?_ _|refine blk_drew ?_|refine blk_alloc ?_ _));exact BK264.out⟩,⟨by repeat (first|(with_reducible first|exact HB.out|apply below_alloc|apply pw_below_drewN|apply below_drew1|refine below_set ?_ GE264.out)|exact HB.out)⟩⟩
          ·rw [if_neg c35] at H
           have c35b0:((rd l1_0 x6_2)==0)=false:=beq_eq_false_iff_ne.mpr c35
           have c35b1:((rd l1_0 x6_2) !=0)=true:=bne_iff_ne.mpr c35
           obtain rfl:=Option.some.inj H;obtain ⟨hcz37_0,hcz37_1,hcz37_2,hcz37_3,hcz37_4,hfz37_0,hfz37_1,hfz37_2,hfz37_3,hfz37_4⟩:=cbf5 BK264
           go_wp2_with (first|((with_reducible refine gate_callee (f:=79) rfl ?_);refine goesL_ (some 66) rfl rfl Try.func79 (by kernel_rfl) rfl #[.int .i64 x6_2,.int .i64 a1_2,.int .i64 (wrap64 (a1_1 - 1))] rfl zz2 ?_;(with_reducible refine (spec_l6In.calls x6_2 a1_2 (wrap64 (a1_1 - 1)) true _ A31.out).mono ?_);rintro e w' ⟨rfl,⟨nd,rfl⟩⟩;refine ⟨_,rfl,?_⟩;have p272:0≤(x6_2:Int):=of_decide_eq_true zz3;have q272:x6_2<(l1_0.length:Int):=of_decide_eq_true zz3;obtain ⟨ad272,e272,hx272_0⟩:=Kd.at_int HR1_0.out x6_2 p272 q272;cases e272;replace hx272_0:=(HB.out.cell (World.block_lt_of_cell? w _ hx272_0)).trans hx272_0;replace p272:=eq_true p272;replace q272:=eq_true q272))
           go_ret;exact ⟨zz8,zz21⟩
         ·rw [if_neg c34] at H
          exact absurd H (by simp)
        ·rw [if_neg c33] at H
         exact absurd H (by simp)
       ·replace c32 := Bool.eq_false_iff.mpr c32
        subst c32;rw [if_neg (show¬(false=true) by decide)] at H;by_cases c38:x6_2≥a1_3
        ·rw [if_pos c38] at H
         have c38b0:decide (a1_3≤x6_2)=true:=decide_eq_true c38
         clear c38;by_cases c39:0≤x6_2
         ·rw [if_pos c39] at H
          have c39b0:decide (0≤x6_2)=true:=decide_eq_true c39
          clear c39;by_cases c40:x6_2<(l1_0.length:Int)
          ·rw [if_pos c40] at H
           have c40b0:decide (x6_2<(l1_0.length:Int))=true:=decide_eq_true c40
           clear c40;by_cases c41:(rd l1_0 x6_2)=0
           ·rw [if_pos c41] at H
            have c41b0:((rd l1_0 x6_2)==0)=true:=beq_iff_eq.mpr c41
            have c41b1:((rd l1_0 x6_2) !=0)=false:=bne_eq_false_iff_eq.mpr c41
            clear c41;have H':=aK H;clear H;obtain ⟨hcz42_0,hcz42_1,hcz42_2,hcz42_3,hcz42_4,hfz42_0,hfz42_1,hfz42_2,hfz42_3,hfz42_4⟩:=cbf5 BK264
            go_wp2_with (first|((with_reducible refine gate_callee (f:=79) rfl ?_);refine goesL_ (some 66) rfl rfl Try.func79 (by kernel_rfl) rfl #[.int .i64 x6_2,.int .i64 a1_2,.int .i64 (wrap64 (a1_1 - 1))] rfl zz2 ?_;(with_reducible refine (spec_l6In.calls x6_2 a1_2 (wrap64 (a1_1 - 1)) false _ A31.out).mono ?_);rintro e w' ⟨rfl,⟨nd,rfl⟩⟩;refine ⟨_,rfl,?_⟩;have p273:0≤(x6_2:Int):=of_decide_eq_true zz3;have q273:x6_2<(l1_0.length:Int):=of_decide_eq_true zz3;obtain ⟨ad273,e273,hx273_0⟩:=Kd.at_int HR1_0.out x6_2 p273 q273;cases e273;replace hx273_0:=(HB.out.cell (World.block_lt_of_cell? w _ hx273_0)).trans hx273_0;replace p273:=eq_true p273;replace q273:=eq_true q273))
            go_roundg k2
            case measure=>have:=HJ2.out;have:=HK2.out;omega
            case rel=>exact ⟨(wrap64 (x6_2+1)),zz7,H',⟨by have:=HJ2.out;have:=HK2.out;omega⟩,⟨by (with_reducible repeat (first|refine blk_drewN ?_ _|refine blk_drew ?_|refine blk_alloc ?_ _));exact BK264.out⟩,⟨by repeat (first|(with_reducible first|exact HB.out|apply below_alloc|apply pw_below_drewN|apply below_drew1|refine below_set ?_ GE264.out)|exact HB.out)⟩⟩
           ·rw [if_neg c41] at H
            have c41b0:((rd l1_0 x6_2)==0)=false:=beq_eq_false_iff_ne.mpr c41
            have c41b1:((rd l1_0 x6_2) !=0)=true:=bne_iff_ne.mpr c41
            obtain rfl:=Option.some.inj H;obtain ⟨hcz43_0,hcz43_1,hcz43_2,hcz43_3,hcz43_4,hfz43_0,hfz43_1,hfz43_2,hfz43_3,hfz43_4⟩:=cbf5 BK264
            go_wp2_with (first|((with_reducible refine gate_callee (f:=79) rfl ?_);refine goesL_ (some 66) rfl rfl Try.func79 (by kernel_rfl) rfl #[.int .i64 x6_2,.int .i64 a1_2,.int .i64 (wrap64 (a1_1 - 1))] rfl zz2 ?_;(with_reducible refine (spec_l6In.calls x6_2 a1_2 (wrap64 (a1_1 - 1)) false _ A31.out).mono ?_);rintro e w' ⟨rfl,⟨nd,rfl⟩⟩;refine ⟨_,rfl,?_⟩;have p273:0≤(x6_2:Int):=of_decide_eq_true zz3;have q273:x6_2<(l1_0.length:Int):=of_decide_eq_true zz3;obtain ⟨ad273,e273,hx273_0⟩:=Kd.at_int HR1_0.out x6_2 p273 q273;cases e273;replace hx273_0:=(HB.out.cell (World.block_lt_of_cell? w _ hx273_0)).trans hx273_0;replace p273:=eq_true p273;replace q273:=eq_true q273))
            go_ret;exact ⟨zz8,zz21⟩
          ·rw [if_neg c40] at H
           exact absurd H (by simp)
         ·rw [if_neg c39] at H
          exact absurd H (by simp)
        ·rw [if_neg c38] at H
         have c38b0:decide (a1_3≤x6_2)=false:=decide_eq_false c38
         clear c38;have H':=aK H;clear H;obtain ⟨hcz44_0,hcz44_1,hcz44_2,hcz44_3,hcz44_4,hfz44_0,hfz44_1,hfz44_2,hfz44_3,hfz44_4⟩:=cbf5 BK264
         go_wp2_with (first|((with_reducible refine gate_callee (f:=79) rfl ?_);refine goesL_ (some 66) rfl rfl Try.func79 (by kernel_rfl) rfl #[.int .i64 x6_2,.int .i64 a1_2,.int .i64 (wrap64 (a1_1 - 1))] rfl zz2 ?_;(with_reducible refine (spec_l6In.calls x6_2 a1_2 (wrap64 (a1_1 - 1)) false _ A31.out).mono ?_);rintro e w' ⟨rfl,⟨nd,rfl⟩⟩;refine ⟨_,rfl,?_⟩))
         go_roundg k2
         case measure=>have:=HJ2.out;have:=HK2.out;omega
         case rel=>exact ⟨(wrap64 (x6_2+1)),zz7,H',⟨by have:=HJ2.out;have:=HK2.out;omega⟩,⟨by (with_reducible repeat (first|refine blk_drewN ?_ _|refine blk_drew ?_|refine blk_alloc ?_ _));exact BK264.out⟩,⟨by repeat (first|(with_reducible first|exact HB.out|apply below_alloc|apply pw_below_drewN|apply below_drew1|refine below_set ?_ GE264.out)|exact HB.out)⟩⟩
      ·rw [if_neg c30] at H
       have c30b0:decide (x6_2<(l1_0.length:Int))=false:=decide_eq_false c30
       clear c30;obtain rfl:=Option.some.inj H;go_wp2;go_ret;exact ⟨zz8,zz21⟩
end Go.Proofs.Ytnlieahdakafbaa.K
namespace Go.Proofs.Ytnlieahdakafbaa.K
open Go.RowKit Go.Proofs.YtnlieahdakafbaaW.PrintWords Go.Proofs.YtnlieahdakafbaaW.PrintLast Go.Proofs.YtnlieahdakafbaaW.PrintMore
attribute [local go_sem] max2_int min2_int max_two min_two max_three min_three max_four min_four
set_option linter.unusedVariables false
set_option linter.unusedSimpArgs false
def spec_l21Lead.f (l0:List Bool) (a1:Int):Option (Bool):=if a1=0 then (some true) else ((spec_l6In.f a1 1 (l0.length:Int)).bind fun t274=>(if t274=true then (if 0≤(wrap64 (a1 - 1)) then (if (wrap64 (a1 - 1))<(l0.length:Int) then (some (rdOf false l0 (wrap64 (a1 - 1)))) else (none)) else (none)) else (some false)))
set_option maxHeartbeats 8000000 in
set_option maxRecDepth 100000 in
theorem spec_l21Lead.calls (A0:Option Addr) (c0:Nat) (l0:List Bool) (a1:Int) (r:Bool) (w:World) (hr0:Kd.C Kd.bool w A0 l0.length l0) (hc0:l0.length≤c0) (h:spec_l21Lead.f l0 a1=some r):
  Calls Try.prog 41 #[.slice A0 l0.length c0,.int .i64 a1] w fun e w'=>e= .returned (.bool r)∧Drawn0 w w':=by
 have HR0:=aK hr0;have HC0:=aK hc0;clear hr0 hc0;have H:(if a1=0 then (some true) else ((spec_l6In.f a1 1 (l0.length:Int)).bind fun t274=>(if t274=true then (if 0≤(wrap64 (a1 - 1)) then (if (wrap64 (a1 - 1))<(l0.length:Int) then (some (rdOf false l0 (wrap64 (a1 - 1)))) else (none)) else (none)) else (some false))))=some r:=h
 clear h;by_cases c3:a1=0
 ·rw [if_pos c3] at H
  have c3b0:(a1==0)=true:=beq_iff_eq.mpr c3
  have c3b1:(a1 !=0)=false:=bne_eq_false_iff_eq.mpr c3
  clear c3;obtain rfl:=Option.some.inj H;go_enter Try.func41,Try.ntmps41;go_wp2;go_ret;exact ⟨zz7,zz13⟩
 ·rw [if_neg c3] at H
  have c3b0:(a1==0)=false:=beq_eq_false_iff_ne.mpr c3
  have c3b1:(a1 !=0)=true:=bne_iff_ne.mpr c3
  replace H:=Option.bind_eq_some_iff.mp H;obtain ⟨t274,A40,H⟩:=H;(try dsimp only at H);have A4:=aK A40;clear A40;by_cases c5:t274=true
  ·subst c5
   rw [if_pos rfl] at H;obtain ⟨ji6,hji6⟩: ∃j_:Int,(wrap64 (a1 - 1))=j_:=⟨_,rfl⟩;replace H:(if 0≤(ji6) then (if (ji6)<(l0.length:Int) then (some (rdOf false l0 (ji6))) else (none)) else (none))=some r:=by first|(rw [hji6] at H;exact H)|(simp only [hji6] at H ⊢;exact H)
   (try rw [hji6] at A4)
   have hji6w:(IntKind.i64.wrap (a1 - 1))=ji6:=(i64_w _).trans hji6
   by_cases c7:0≤(ji6)
   ·rw [if_pos c7] at H
    have c7b0:decide (0≤(ji6))=true:=decide_eq_true c7
    clear c7;by_cases c8:(ji6)<(l0.length:Int)
    ·rw [if_pos c8] at H
     have c8b0:decide ((ji6)<(l0.length:Int))=true:=decide_eq_true c8
     clear c8;obtain rfl:=Option.some.inj H;go_enter Try.func41,Try.ntmps41
     go_wp2_with (first|(go_at_call 79;(with_reducible refine (spec_l6In.calls a1 1 (l0.length:Int) true _ A4.out).mono ?_);rintro e w' ⟨rfl,⟨nd,rfl⟩⟩;have p275:0≤((ji6):Int):=of_decide_eq_true zz3;have q275:(ji6)<(l0.length:Int):=of_decide_eq_true zz3;obtain ⟨ad275,e275,hx275_0⟩:=Kd.at_bool HR0.out (ji6) p275 q275;cases e275;replace p275:=eq_true p275;replace q275:=eq_true q275))
     go_ret;exact ⟨(by first|rfl|(simp;done)|(simp only [←hji6]<;>(first|rfl|simp))|(simp [*];done)),zz13⟩
    ·rw [if_neg c8] at H
     exact absurd H (by simp)
   ·rw [if_neg c7] at H
    exact absurd H (by simp)
  ·replace c5 := Bool.eq_false_iff.mpr c5
   subst c5;rw [if_neg (show¬(false=true) by decide)] at H;obtain rfl:=Option.some.inj H;go_enter Try.func41,Try.ntmps41
   go_wp2_with (first|(go_at_call 79;(with_reducible refine (spec_l6In.calls a1 1 (l0.length:Int) false _ A4.out).mono ?_);rintro e w' ⟨rfl,⟨nd,rfl⟩⟩))
   go_ret;exact ⟨zz7,zz13⟩
end Go.Proofs.Ytnlieahdakafbaa.K
namespace Go.Proofs.Ytnlieahdakafbaa.K
open Go.RowKit Go.Proofs.YtnlieahdakafbaaW.PrintWords Go.Proofs.YtnlieahdakafbaaW.PrintLast Go.Proofs.YtnlieahdakafbaaW.PrintMore
attribute [local go_sem] max2_int min2_int max_two min_two max_three min_three max_four min_four
set_option linter.unusedVariables false
set_option linter.unusedSimpArgs false
def spec_l1Word.f (a0:Int):Option (Bool):=(spec_l6In.f a0 (-128) 127).bind fun t276=>(some t276)
set_option maxHeartbeats 8000000 in
set_option maxRecDepth 100000 in
theorem spec_l1Word.calls (a0:Int) (r:Bool) (w:World) (h:spec_l1Word.f a0=some r):
  Calls Try.prog 43 #[.int .i64 a0] w fun e w'=>e= .returned (.bool r)∧Drawn0 w w':=by
 have H:((spec_l6In.f a0 (-128) 127).bind fun t276=>(some t276))=some r:=h
 clear h;replace H:=Option.bind_eq_some_iff.mp H;obtain ⟨t276,A20,H⟩:=H;(try dsimp only at H);have A2:=aK A20;clear A20;obtain rfl:=Option.some.inj H;go_enter Try.func43,Try.ntmps43
 go_wp2_with (first|((with_reducible refine gate_callee (f:=79) rfl ?_);refine goesL_ (some 4) rfl rfl Try.func79 (by kernel_rfl) rfl #[.int .i64 a0,.int .i64 (-128),.int .i64 127] rfl zz2 ?_;(with_reducible refine (spec_l6In.calls a0 (-128) 127 t276 _ A2.out).mono ?_);rintro e w' ⟨rfl,⟨nd,rfl⟩⟩;refine ⟨_,rfl,?_⟩))
 go_ret;exact ⟨zz7,zz13⟩
end Go.Proofs.Ytnlieahdakafbaa.K
namespace Go.Proofs.Ytnlieahdakafbaa.K
open Go.RowKit Go.Proofs.YtnlieahdakafbaaW.PrintWords Go.Proofs.YtnlieahdakafbaaW.PrintLast Go.Proofs.YtnlieahdakafbaaW.PrintMore
attribute [local go_sem] max2_int min2_int max_two min_two max_three min_three max_four min_four
set_option linter.unusedVariables false
set_option linter.unusedSimpArgs false
mutual
def spec_l21Thing.l0:Nat→List Bool→Int→List Bool→Int→List Int→Int→Int→Int→List Bool→Option (Bool)
 |0,_,_,_,_,_,_,_,_,_=>none
 |k+1,x2,x3,x9,x10,x278000,x278001,x278002,x278003,x278004=>if x10<(x9.length:Int) then (if 0≤(wrap64 (x3+x10)) then (if (wrap64 (x3+x10))<(x278000.length:Int) then (if 0≤x10 then (if rdOf false x9 x10=true then ((spec_l21Lead.f x2 (rd x278000 (wrap64 (x3+x10)))).bind fun t285=>(if t285=true then (spec_l21Thing.j1 k x2 x3 x9 x10 (rd x278000 (wrap64 (x3+x10))) false x278000 x278001 x278002 x278003 x278004) else (spec_l21Thing.j1 k x2 x3 x9 x10 (rd x278000 (wrap64 (x3+x10))) true x278000 x278001 x278002 x278003 x278004))) else ((spec_l1Word.f (rd x278000 (wrap64 (x3+x10)))).bind fun t288=>(spec_l21Thing.j1 k x2 x3 x9 x10 (rd x278000 (wrap64 (x3+x10))) (!t288) x278000 x278001 x278002 x278003 x278004))) else (none)) else (none)) else (none)) else (some true)
def spec_l21Thing.j1:Nat→List Bool→Int→List Bool→Int→Int→Bool→List Int→Int→Int→Int→List Bool→Option (Bool)
 |0,_,_,_,_,_,_,_,_,_,_,_=>none
 |k+1,x2,x3,x9,x10,x11,x57,x278000,x278001,x278002,x278003,x278004=>if x57=true then (some false) else (if 0≤x10 then (if x10<(x9.length:Int) then (if rdOf false x9 x10=true then (if x3≥x278001 then ((spec_l6In.f x11 1 x278001).bind fun t290=>(if t290=true then (if 0≤(wrap64 (Int.tdiv (wrap64 ((wrap64 (x3+x10)) - x278001)) 4)) then (if (wrap64 (Int.tdiv (wrap64 ((wrap64 (x3+x10)) - x278001)) 4))<(x278004.length:Int) then (if (rdOf false x278004 (wrap64 (Int.tdiv (wrap64 ((wrap64 (x3+x10)) - x278001)) 4))=true) then (spec_l21Thing.l0 k x2 x3 x9 (wrap64 (x10+1)) x278000 x278001 x278002 x278003 x278004) else (some false)) else (none)) else (none)) else (spec_l21Thing.l0 k x2 x3 x9 (wrap64 (x10+1)) x278000 x278001 x278002 x278003 x278004))) else (spec_l21Thing.l0 k x2 x3 x9 (wrap64 (x10+1)) x278000 x278001 x278002 x278003 x278004)) else (spec_l21Thing.l0 k x2 x3 x9 (wrap64 (x10+1)) x278000 x278001 x278002 x278003 x278004)) else (none)) else (none))
end
def spec_l21Thing.f (k:Nat) (l0:List (S112)) (l1_0:List Int) (a1_1:Int) (a1_2:Int) (a1_3:Int) (l1_4:List Bool) (l2:List Bool) (a3:Int):Option (Bool):=(spec_l21Refs.f k l0 l1_0 a3).bind fun t278=>(if 0≤a3 then (if a3<(l1_0.length:Int) then ((spec_l21Head.f (rd l1_0 a3)).bind fun t282=>(spec_l21Thing.l0 k l2 a3 t278 t282 l1_0 a1_1 a1_2 a1_3 l1_4)) else (none)) else (none))
set_option maxHeartbeats 8000000 in
set_option maxRecDepth 100000 in
theorem spec_l21Thing.calls (k : Nat) (A0 : Option Addr) (c0 : Nat) (l0 : List (S112)) (A1_0 : Option Addr) (c1_0 : Nat) (l1_0 : List Int) (a1_1 : Int) (a1_2 : Int) (a1_3 : Int) (A1_4 : Option Addr) (c1_4 : Nat) (l1_4 : List Bool) (A2 : Option Addr) (c2 : Nat) (l2 : List Bool) (a3 : Int) (r : Bool) (w : World) (hr0 : Kd.C k112 w A0 l0.length l0) (hc0 : l0.length ≤ c0) (hr1_0 : Kd.C (Kd.int .i64) w A1_0 l1_0.length l1_0) (hc1_0 : l1_0.length ≤ c1_0) (hr1_4 : Kd.C Kd.bool w A1_4 l1_4.length l1_4) (hc1_4 : l1_4.length ≤ c1_4) (hr2 : Kd.C Kd.bool w A2 l2.length l2) (hc2 : l2.length ≤ c2) (h : spec_l21Thing.f k l0 l1_0 a1_1 a1_2 a1_3 l1_4 l2 a3 = some r) :
  Calls Try.prog 47 #[.slice A0 l0.length c0,.agg #[.slice A1_0 l1_0.length c1_0,.int .i64 a1_1,.int .i64 a1_2,.int .i64 a1_3,.slice A1_4 l1_4.length c1_4],.slice A2 l2.length c2,.int .i64 a3] w fun e w'=>e= .returned (.bool r)∧Below w.heap.size w w':=by
 have hu27:=Try.underlying27;have HR0:=aK hr0;have HC0:=aK hc0;clear hr0 hc0;have HR1_0:=aK hr1_0;have HC1_0:=aK hc1_0;clear hr1_0 hc1_0;have HR1_4:=aK hr1_4;have HC1_4:=aK hc1_4;clear hr1_4 hc1_4;have HR2:=aK hr2;have HC2:=aK hc2;clear hr2 hc2;have HB:=aK (Below.refl w.heap.size w);have H:((spec_l21Refs.f k l0 l1_0 a3).bind fun t278=>(if 0≤a3 then (if a3<(l1_0.length:Int) then ((spec_l21Head.f (rd l1_0 a3)).bind fun t282=>(spec_l21Thing.l0 k l2 a3 t278 t282 l1_0 a1_1 a1_2 a1_3 l1_4)) else (none)) else (none)))=some r:=h
 clear h;replace H:=Option.bind_eq_some_iff.mp H;obtain ⟨t278,A50,H⟩:=H;(try dsimp only at H);have A5:=aK A50;clear A50;by_cases c6:0≤a3
 ·rw [if_pos c6] at H
  have c6b0:decide (0≤a3)=true:=decide_eq_true c6
  clear c6;by_cases c7:a3<(l1_0.length:Int)
  ·rw [if_pos c7] at H
   have c7b0:decide (a3<(l1_0.length:Int))=true:=decide_eq_true c7
   clear c7;replace H:=Option.bind_eq_some_iff.mp H;obtain ⟨t282,A80,H⟩:=H;(try dsimp only at H);have A8:=aK A80;clear A80;have H':=aK H;clear H;go_enter Try.func47,Try.ntmps47
   go_wp2_with (first|((with_reducible refine gate_dst (N:=5) rfl ?_);refine box_event ?hg (N:=5) ?hd (cs:= #[.slice A1_0 l1_0.length c1_0,.int .i64 a1_1,.int .i64 a1_2,.int .i64 a1_3,.slice A1_4 l1_4.length c1_4]) (t:=27) ?hr ?_;(case hd=>rfl);(case hg=>rfl);(case hr=>first|(go_simp;done)|(go_simp;rfl));intro gb277 hg w9 hbox hb;have BK277:=aK (hbox);have GW277:=aK ((by rw [hg];exact (below_size zz1):w.heap.size≤gb277));have GE277:=aK ((by rw [hg];exact (below_size zz1):w.heap.size≤gb277));replace HB:=aK (below_step zz1 hb);clear hb hbox hg;obtain ⟨hcz10_0,hcz10_1,hcz10_2,hcz10_3,hcz10_4,hfz10_0,hfz10_1,hfz10_2,hfz10_3,hfz10_4⟩:=cbf5 BK277)|((with_reducible refine gate_callee (f:=39) rfl ?_);refine goesL_ (some 16) rfl rfl Try.func39 (by kernel_rfl) rfl #[.slice A0 l0.length c0,.slice A1_0 l1_0.length c1_0,.int .i64 a3] rfl zz2 ?_;(with_reducible refine (spec_l21Refs.calls k _ _ l0 _ _ l1_0 a3 t278 _ ?side1 ?side2 ?side3 ?side4 A5.out).mono ?_);(case side1=>exact zz4);(case side2=>exact HC0.out);(case side3=>exact zz6);(case side4=>exact HC1_0.out);rintro e w11 ⟨v279,rfl,ho0,hb⟩;refine ⟨_,rfl,?_⟩;have HO280:=aK (Kd.R_lower ho0 (below_size zz37));replace BK277:=aK (blk_below (g:=gb277) (o:= .cells #[.slice A1_0 l1_0.length c1_0,.int .i64 a1_1,.int .i64 a1_2,.int .i64 a1_3,.slice A1_4 l1_4.length c1_4] 27 (0,0)) (by (with_reducible repeat (first|refine blk_drewN ?_ _|refine blk_drew ?_|refine blk_alloc ?_ _));exact BK277.out) hb);replace HB:=aK (below_step zz37 hb);(try clear hb);(try clear hb2);(try clear hk);(try clear hi);(try clear ho0);obtain ⟨hcz12_0,hcz12_1,hcz12_2,hcz12_3,hcz12_4,hfz12_0,hfz12_1,hfz12_2,hfz12_3,hfz12_4⟩:=cbf5 BK277;have p281:0≤(a3:Int):=of_decide_eq_true zz3;have q281:a3<(l1_0.length:Int):=of_decide_eq_true zz3;obtain ⟨ad281,e281,hx281_0⟩:=Kd.at_int HR1_0.out a3 p281 q281;cases e281;replace hx281_0:=(HB.out.cell (World.block_lt_of_cell? w _ hx281_0)).trans hx281_0;replace p281:=eq_true p281;replace q281:=eq_true q281)|((with_reducible refine gate_callee (f:=78) rfl ?_);refine goesL_ (some 22) rfl rfl Try.func78 (by kernel_rfl) rfl #[.int .i64 (rd l1_0 a3)] rfl zz2 ?_;(with_reducible refine (spec_l21Head.calls (rd l1_0 a3) t282 _ A8.out).mono ?_);rintro e w' ⟨rfl,⟨nd,rfl⟩⟩;refine ⟨_,rfl,?_⟩))
   go_loopg [10] k (fun kq v10 w'=> ∃(x10_1:Int),v10= .int .i64 x10_1∧Aside0 (spec_l21Thing.l0 kq l2 a3 t278 x10_1 l1_0 a1_1 a1_2 a1_3 l1_4=some r)∧Aside0 (kq≤k)∧Aside0 (Kd.R Kd.bool 4 w' w.heap.size (fun _=>True) v279 t278)∧Aside0 (w'.heap[gb277]? =some (.cells #[(.slice (some ad281) l1_0.length c1_0),.int .i64 a1_1,.int .i64 a1_2,.int .i64 a1_3,(.slice A1_4 l1_4.length c1_4)] 27 (0,0)))∧Aside0 (Below w.heap.size w w'))
   case atStart=>exact ⟨(t282),zz7,H',⟨Nat.le_refl _⟩,⟨by (with_reducible repeat (first|apply Kd.R_alloc|apply Kd.R_drewN|apply Kd.R_drew));exact HO280.out⟩,⟨by (with_reducible repeat (first|refine blk_drewN ?_ _|refine blk_drew ?_|refine blk_alloc ?_ _));exact BK277.out⟩,⟨by repeat (first|(with_reducible first|exact HB.out|apply below_alloc|apply pw_below_drewN|apply below_drew1|refine below_set ?_ GE277.out)|exact HB.out)⟩⟩
   case round =>
    clear H';(try clear c1);(try clear c2);(try clear p2);(try clear q2);(try clear hx2);(try clear c3);(try clear c4);(try clear c6);(try clear c6b0);(try clear c7);(try clear c7b0);(try clear hcz10_0);(try clear hcz10_1);(try clear hcz10_2);(try clear hcz10_3);(try clear hcz10_4);(try clear hcz12_0);(try clear hcz12_1);(try clear hcz12_2);(try clear hcz12_3);(try clear hcz12_4);(try clear hfz10_0);(try clear hfz10_1);(try clear hfz10_2);(try clear hfz10_3);(try clear hfz10_4);(try clear hfz12_0);(try clear hfz12_1);(try clear hfz12_2);(try clear hfz12_3);(try clear hfz12_4);(try clear hx281_0);(try clear p281);(try clear q281);obtain ⟨x10_1,rfl,HA,HK1,HO_9,BK277,HB⟩:=hrel
    cases gk with
    |zero=>exact absurd HA.out (by simp [spec_l21Thing.l0])
    | succ k1 =>
     have H:=HA.out;clear HA;simp only [spec_l21Thing.l0] at H;by_cases c13:x10_1<(t278.length:Int)
     ·rw [if_pos c13] at H
      have c13b0:decide (x10_1<(t278.length:Int))=true:=decide_eq_true c13
      clear c13;obtain ⟨ji14,hji14⟩: ∃j_:Int,(wrap64 (a3+x10_1))=j_:=⟨_,rfl⟩;replace H:(if 0≤(ji14) then (if (ji14)<(l1_0.length:Int) then (if 0≤x10_1 then (if rdOf false t278 x10_1=true then ((spec_l21Lead.f l2 (rd l1_0 (ji14))).bind fun t285=>(if t285=true then (spec_l21Thing.j1 k1 l2 a3 t278 x10_1 (rd l1_0 (ji14)) false l1_0 a1_1 a1_2 a1_3 l1_4) else (spec_l21Thing.j1 k1 l2 a3 t278 x10_1 (rd l1_0 (ji14)) true l1_0 a1_1 a1_2 a1_3 l1_4))) else ((spec_l1Word.f (rd l1_0 (ji14))).bind fun t288=>(spec_l21Thing.j1 k1 l2 a3 t278 x10_1 (rd l1_0 (ji14)) (!t288) l1_0 a1_1 a1_2 a1_3 l1_4))) else (none)) else (none)) else (none))=some r:=by first|(rw [hji14] at H;exact H)|(simp only [hji14] at H ⊢;exact H)
      have hji14w:(IntKind.i64.wrap (a3+x10_1))=ji14:=(i64_w _).trans hji14
      by_cases c15:0≤(ji14)
      ·rw [if_pos c15] at H
       have c15b0:decide (0≤(ji14))=true:=decide_eq_true c15
       clear c15;by_cases c16:(ji14)<(l1_0.length:Int)
       ·rw [if_pos c16] at H
        have c16b0:decide ((ji14)<(l1_0.length:Int))=true:=decide_eq_true c16
        clear c16;have HC17:=aK H;clear H;obtain ⟨Ao18,co18,eo18⟩:=Kd.R_slice HO_9.out;subst eo18;obtain ⟨hcz19_0,hcz19_1,hcz19_2,hcz19_3,hcz19_4,hfz19_0,hfz19_1,hfz19_2,hfz19_3,hfz19_4⟩:=cbf5 BK277;have p283:0≤((ji14):Int):=of_decide_eq_true zz3
        have q283:(ji14)<(l1_0.length:Int):=of_decide_eq_true zz3
        obtain ⟨ad283,e283,hx283_0⟩:=Kd.at_int HR1_0.out (ji14) p283 q283;obtain rfl:ad281=ad283:=(by injection e283);replace hx283_0:=(HB.out.cell (World.block_lt_of_cell? w _ hx283_0)).trans hx283_0;replace p283:=eq_true p283;replace q283:=eq_true q283
        go_upto_region 6 with (fail)
        go_cut [57] (fun v57 wc=> ∃(kq:Nat) (x57_16:Bool),v57= .bool x57_16∧Aside0 (spec_l21Thing.j1 kq l2 a3 t278 x10_1 (rd l1_0 (ji14)) x57_16 l1_0 a1_1 a1_2 a1_3 l1_4=some r)∧Aside0 (kq≤k1)∧Aside0 (Kd.R Kd.bool 4 wc w.heap.size (fun _=>True) (.slice Ao18 t278.length co18) t278)∧Aside0 (wc.heap[gb277]? =some (.cells #[(.slice (some ad281) l1_0.length c1_0),.int .i64 a1_1,.int .i64 a1_2,.int .i64 a1_3,(.slice A1_4 l1_4.length c1_4)] 27 (0,0)))∧Aside0 (Below w.heap.size w wc))
        case first=>
         have H:=HC17.out;clear HC17;by_cases c20:0≤x10_1
         ·rw [if_pos c20] at H
          have c20b0:decide (0≤x10_1)=true:=decide_eq_true c20
          clear c20
          (first|rw [c20b0]|(simp only [i64_w,i32_w];rw [c20b0])|skip)
          obtain ⟨bq21,hbq21⟩: ∃b_:Bool,b_=(rdOf false t278 x10_1):=⟨_,rfl⟩;replace H:(if bq21=true then ((spec_l21Lead.f l2 (rd l1_0 (ji14))).bind fun t285=>(if t285=true then (spec_l21Thing.j1 k1 l2 a3 t278 x10_1 (rd l1_0 (ji14)) false l1_0 a1_1 a1_2 a1_3 l1_4) else (spec_l21Thing.j1 k1 l2 a3 t278 x10_1 (rd l1_0 (ji14)) true l1_0 a1_1 a1_2 a1_3 l1_4))) else ((spec_l1Word.f (rd l1_0 (ji14))).bind fun t288=>(spec_l21Thing.j1 k1 l2 a3 t278 x10_1 (rd l1_0 (ji14)) (!t288) l1_0 a1_1 a1_2 a1_3 l1_4)))=some r:=by rw [←hbq21] at H;exact H
          have Nbq21:=aK hbq21;clear hbq21;by_cases c22:bq21=true
          ·subst c22
           rw [if_pos rfl] at H;replace H:=Option.bind_eq_some_iff.mp H;obtain ⟨t285,A230,H⟩:=H;(try dsimp only at H);have A23:=aK A230;clear A230;by_cases c24:t285=true
           ·subst c24
            rw [if_pos rfl] at H;have H':=aK H;clear H;have p284:0≤(x10_1:Int):=of_decide_eq_true zz3
            have q284:x10_1<(t278.length:Int):=of_decide_eq_true zz3
            obtain ⟨ad284,e284,hx284_0⟩:=Kd.at_bool (Kd.R_reads' HO_9.out).2.2 x10_1 p284 q284
            (try rw [←Nbq21.out] at hx284_0)
            cases e284
            replace p284:=eq_true p284;replace q284:=eq_true q284
            go_wp2_with (first|(go_at_call 41;(with_reducible refine (spec_l21Lead.calls _ _ l2 (rd l1_0 (ji14)) true _ ?side1 ?side2 A23.out).mono ?_);(case side1=>exact (by repeat (first|exact (Kd.C_below HR2.out HB.out)|(with_reducible refine Kd.C_alloc ?_ _)|(with_reducible refine Kd.C_drewN ?_ _)|(with_reducible refine Kd.C_drew ?_))));(case side2=>exact HC2.out);rintro e w' ⟨rfl,⟨nd,rfl⟩⟩;have p286:0≤(x10_1:Int):=of_decide_eq_true zz3;have q286:x10_1<(t278.length:Int):=of_decide_eq_true zz3;obtain ⟨ad286,e286,hx286_0⟩:=Kd.at_bool (Kd.R_reads' HO_9.out).2.2 x10_1 p286 q286;(try rw [←Nbq21.out] at hx286_0);obtain rfl:ad284=ad286:=(by injection e286);replace p286:=eq_true p286;replace q286:=eq_true q286))
            go_meet
            case rel=>exact ⟨_,(false),zz7,H',⟨by have:=HK1.out;first|omega|exact Nat.le_refl _⟩,⟨by (with_reducible repeat (first|apply Kd.R_alloc|apply Kd.R_drewN|apply Kd.R_drew));exact HO_9.out⟩,⟨by (with_reducible repeat (first|refine blk_drewN ?_ _|refine blk_drew ?_|refine blk_alloc ?_ _));exact BK277.out⟩,⟨by repeat (first|(with_reducible first|exact HB.out|apply below_alloc|apply pw_below_drewN|apply below_drew1|refine below_set ?_ GE277.out)|exact HB.out)⟩⟩
           ·replace c24 := Bool.eq_false_iff.mpr c24
            subst c24;rw [if_neg (show¬(false=true) by decide)] at H;have H':=aK H;clear H;have p284:0≤(x10_1:Int):=of_decide_eq_true zz3
            have q284:x10_1<(t278.length:Int):=of_decide_eq_true zz3
            obtain ⟨ad284,e284,hx284_0⟩:=Kd.at_bool (Kd.R_reads' HO_9.out).2.2 x10_1 p284 q284
            (try rw [←Nbq21.out] at hx284_0)
            cases e284
            replace p284:=eq_true p284;replace q284:=eq_true q284
            go_wp2_with (first|(go_at_call 41;(with_reducible refine (spec_l21Lead.calls _ _ l2 (rd l1_0 (ji14)) false _ ?side1 ?side2 A23.out).mono ?_);(case side1=>exact (by repeat (first|exact (Kd.C_below HR2.out HB.out)|(with_reducible refine Kd.C_alloc ?_ _)|(with_reducible refine Kd.C_drewN ?_ _)|(with_reducible refine Kd.C_drew ?_))));(case side2=>exact HC2.out);rintro e w' ⟨rfl,⟨nd,rfl⟩⟩))
            go_meet
            case rel=>exact ⟨_,(true),zz7,H',⟨by have:=HK1.out;first|omega|exact Nat.le_refl _⟩,⟨by (with_reducible repeat (first|apply Kd.R_alloc|apply Kd.R_drewN|apply Kd.R_drew));exact HO_9.out⟩,⟨by (with_reducible repeat (first|refine blk_drewN ?_ _|refine blk_drew ?_|refine blk_alloc ?_ _));exact BK277.out⟩,⟨by repeat (first|(with_reducible first|exact HB.out|apply below_alloc|apply pw_below_drewN|apply below_drew1|refine below_set ?_ GE277.out)|exact HB.out)⟩⟩
          ·replace c22 := Bool.eq_false_iff.mpr c22
           subst c22;rw [if_neg (show¬(false=true) by decide)] at H;replace H:=Option.bind_eq_some_iff.mp H;obtain ⟨t288,A250,H⟩:=H;(try dsimp only at H);have A25:=aK A250;clear A250;have H':=aK H;clear H;have p284:0≤(x10_1:Int):=of_decide_eq_true zz3
           have q284:x10_1<(t278.length:Int):=of_decide_eq_true zz3
           obtain ⟨ad284,e284,hx284_0⟩:=Kd.at_bool (Kd.R_reads' HO_9.out).2.2 x10_1 p284 q284
           (try rw [←Nbq21.out] at hx284_0)
           cases e284
           replace p284:=eq_true p284;replace q284:=eq_true q284;have p287:0≤(x10_1:Int):=of_decide_eq_true zz3
           have q287:x10_1<(t278.length:Int):=of_decide_eq_true zz3
           obtain ⟨ad287,e287,hx287_0⟩:=Kd.at_bool (Kd.R_reads' HO_9.out).2.2 x10_1 p287 q287
           (try rw [←Nbq21.out] at hx287_0)
           obtain rfl:ad284=ad287:=(by injection e287);replace p287:=eq_true p287;replace q287:=eq_true q287
           go_wp2_with (first|(go_at_call 43;(with_reducible refine (spec_l1Word.calls (rd l1_0 (ji14)) t288 _ A25.out).mono ?_);rintro e w' ⟨rfl,⟨nd,rfl⟩⟩))
           go_meet
           case rel=>exact ⟨_,(!t288),zz7,H',⟨by have:=HK1.out;first|omega|exact Nat.le_refl _⟩,⟨by (with_reducible repeat (first|apply Kd.R_alloc|apply Kd.R_drewN|apply Kd.R_drew));exact HO_9.out⟩,⟨by (with_reducible repeat (first|refine blk_drewN ?_ _|refine blk_drew ?_|refine blk_alloc ?_ _));exact BK277.out⟩,⟨by repeat (first|(with_reducible first|exact HB.out|apply below_alloc|apply pw_below_drewN|apply below_drew1|refine below_set ?_ GE277.out)|exact HB.out)⟩⟩
         ·rw [if_neg c20] at H
          exact absurd H (by simp)
        case rest =>
         clear HC17;(try clear c1);(try clear c2);(try clear p2);(try clear q2);(try clear hx2);(try clear c3);(try clear c4);(try clear c6);(try clear c6b0);(try clear p6);(try clear c7);(try clear c7b0);(try clear c13);(try clear c13b0);(try clear c15);(try clear c15b0);(try clear c16);(try clear c16b0);(try clear c20);(try clear c20b0);(try clear q21);(try clear c22);(try clear c24);(try clear hcz10_0);(try clear hcz10_1);(try clear hcz10_2);(try clear hcz10_3);(try clear hcz10_4);(try clear hcz12_0);(try clear hcz12_1);(try clear hcz12_2);(try clear hcz12_3);(try clear hcz12_4);(try clear hcz19_0);(try clear hcz19_1);(try clear hcz19_2);(try clear hcz19_3);(try clear hcz19_4);(try clear hfz10_0);(try clear hfz10_1);(try clear hfz10_2);(try clear hfz10_3);(try clear hfz10_4);(try clear hfz12_0);(try clear hfz12_1);(try clear hfz12_2);(try clear hfz12_3);(try clear hfz12_4);(try clear hfz19_0);(try clear hfz19_1);(try clear hfz19_2);(try clear hfz19_3);(try clear hfz19_4);(try clear hx281_0);(try clear hx283_0);(try clear hx284_0);(try clear hx286_0);(try clear hx287_0);(try clear p2);(try clear p281);(try clear p283);(try clear p284);(try clear p286);(try clear p287);(try clear q2);(try clear q281);(try clear q283);(try clear q284);(try clear q286);(try clear q287);obtain ⟨kq,x57_16,rfl,HA,HJ16,HO_9,BK277,HB⟩:=hcut
         cases kq with
         |zero=>exact absurd HA.out (by simp [spec_l21Thing.j1])
         | succ kj16 =>
          have H:=HA.out;clear HA;simp only [spec_l21Thing.j1] at H;by_cases c26:x57_16=true
          ·subst c26
           rw [if_pos rfl] at H;obtain rfl:=Option.some.inj H;go_wp2;go_ret;exact ⟨(by first|rfl|(simp [errW_none,errW_some]<;>rfl)|(simp only [←hji14];first|rfl|(simp [errW_none,errW_some]<;>rfl))|(simp [*,errW_none,errW_some]<;>rfl)),zz37⟩
          ·replace c26 := Bool.eq_false_iff.mpr c26
           subst c26;rw [if_neg (show¬(false=true) by decide)] at H;by_cases c27:0≤x10_1
           ·rw [if_pos c27] at H
            have c27b0:decide (0≤x10_1)=true:=decide_eq_true c27
            clear c27;by_cases c28:x10_1<(t278.length:Int)
            ·rw [if_pos c28] at H
             have c28b0:decide (x10_1<(t278.length:Int))=true:=decide_eq_true c28
             clear c28;obtain ⟨bq29,hbq29⟩: ∃b_:Bool,b_=(rdOf false t278 x10_1):=⟨_,rfl⟩;replace H:(if bq29=true then (if a3≥a1_1 then ((spec_l6In.f (rd l1_0 (ji14)) 1 a1_1).bind fun t290=>(if t290=true then (if 0≤(wrap64 (Int.tdiv (wrap64 ((wrap64 (a3+x10_1)) - a1_1)) 4)) then (if (wrap64 (Int.tdiv (wrap64 ((wrap64 (a3+x10_1)) - a1_1)) 4))<(l1_4.length:Int) then (if (rdOf false l1_4 (wrap64 (Int.tdiv (wrap64 ((wrap64 (a3+x10_1)) - a1_1)) 4))=true) then (spec_l21Thing.l0 kj16 l2 a3 t278 (wrap64 (x10_1+1)) l1_0 a1_1 a1_2 a1_3 l1_4) else (some false)) else (none)) else (none)) else (spec_l21Thing.l0 kj16 l2 a3 t278 (wrap64 (x10_1+1)) l1_0 a1_1 a1_2 a1_3 l1_4))) else (spec_l21Thing.l0 kj16 l2 a3 t278 (wrap64 (x10_1+1)) l1_0 a1_1 a1_2 a1_3 l1_4)) else (spec_l21Thing.l0 kj16 l2 a3 t278 (wrap64 (x10_1+1)) l1_0 a1_1 a1_2 a1_3 l1_4))=some r:=by rw [←hbq29] at H;exact H
             have Nbq29:=aK hbq29;clear hbq29;by_cases c30:bq29=true
             ·subst c30
              rw [if_pos rfl] at H;by_cases c31:a3≥a1_1
              ·rw [if_pos c31] at H
               have c31b0:decide (a1_1≤a3)=true:=decide_eq_true c31
               clear c31;replace H:=Option.bind_eq_some_iff.mp H;obtain ⟨t290,A320,H⟩:=H;(try dsimp only at H);have A32:=aK A320;clear A320;by_cases c33:t290=true
               ·subst c33
                rw [if_pos rfl] at H;obtain ⟨ji34,hji34⟩: ∃j_:Int,(wrap64 (Int.tdiv (wrap64 ((wrap64 (a3+x10_1)) - a1_1)) 4))=j_:=⟨_,rfl⟩;replace H:(if 0≤(ji34) then (if (ji34)<(l1_4.length:Int) then (if (rdOf false l1_4 (ji34)=true) then (spec_l21Thing.l0 kj16 l2 a3 t278 (wrap64 (x10_1+1)) l1_0 a1_1 a1_2 a1_3 l1_4) else (some false)) else (none)) else (none))=some r:=by first|(rw [hji34] at H;exact H)|(simp only [hji34] at H ⊢;exact H)
                (try rw [hji34] at A32)
                have hji34w:(IntKind.i64.wrap (Int.tdiv (wrap64 ((wrap64 (a3+x10_1)) - a1_1)) 4))=ji34:=(i64_w _).trans hji34
                (try rw [hji14] at hji34w)
                by_cases c35:0≤(ji34)
                ·rw [if_pos c35] at H
                 have c35b0:decide (0≤(ji34))=true:=decide_eq_true c35
                 clear c35;by_cases c36:(ji34)<(l1_4.length:Int)
                 ·rw [if_pos c36] at H
                  have c36b0:decide ((ji34)<(l1_4.length:Int))=true:=decide_eq_true c36
                  clear c36;obtain ⟨bq37,hbq37⟩: ∃b_:Bool,b_=(rdOf false l1_4 (ji34)):=⟨_,rfl⟩;replace H:(if (bq37=true) then (spec_l21Thing.l0 kj16 l2 a3 t278 (wrap64 (x10_1+1)) l1_0 a1_1 a1_2 a1_3 l1_4) else (some false))=some r:=by rw [←hbq37] at H;exact H
                  have Nbq37:=aK hbq37;clear hbq37;by_cases c38:(bq37=true)
                  ·subst c38
                   rw [if_pos rfl] at H;have H':=aK H;clear H;have p289:0≤(x10_1:Int):=of_decide_eq_true zz3
                   have q289:x10_1<(t278.length:Int):=of_decide_eq_true zz3
                   obtain ⟨ad289,e289,hx289_0⟩:=Kd.at_bool (Kd.R_reads' HO_9.out).2.2 x10_1 p289 q289
                   (try rw [←Nbq29.out] at hx289_0)
                   (try rw [←Nbq37.out] at hx289_0)
                   cases e289
                   replace p289:=eq_true p289;replace q289:=eq_true q289;obtain ⟨hcz39_0,hcz39_1,hcz39_2,hcz39_3,hcz39_4,hfz39_0,hfz39_1,hfz39_2,hfz39_3,hfz39_4⟩:=cbf5 BK277
                   go_wp2_with (first|(go_at_call 79;(with_reducible refine (spec_l6In.calls (rd l1_0 (ji14)) 1 a1_1 true _ A32.out).mono ?_);rintro e w' ⟨rfl,⟨nd,rfl⟩⟩;have p291:0≤((ji34):Int):=of_decide_eq_true zz3;have q291:(ji34)<(l1_4.length:Int):=of_decide_eq_true zz3;obtain ⟨ad291,e291,hx291_0⟩:=Kd.at_bool HR1_4.out (ji34) p291 q291;(try rw [←Nbq29.out] at hx291_0);(try rw [←Nbq37.out] at hx291_0);cases e291;replace hx291_0:=(HB.out.cell (World.block_lt_of_cell? w _ hx291_0)).trans hx291_0;replace p291:=eq_true p291;replace q291:=eq_true q291))
                   go_roundg kj16
                   case measure=>have:=HK1.out;have:=HJ16.out;omega
                   case rel=>exact ⟨(wrap64 (x10_1+1)),zz7,H',⟨by have:=HK1.out;have:=HJ16.out;omega⟩,⟨by (with_reducible repeat (first|apply Kd.R_alloc|apply Kd.R_drewN|apply Kd.R_drew));exact HO_9.out⟩,⟨by (with_reducible repeat (first|refine blk_drewN ?_ _|refine blk_drew ?_|refine blk_alloc ?_ _));exact BK277.out⟩,⟨by repeat (first|(with_reducible first|exact HB.out|apply below_alloc|apply pw_below_drewN|apply below_drew1|refine below_set ?_ GE277.out)|exact HB.out)⟩⟩
                  ·replace c38 := Bool.eq_false_iff.mpr c38
                   subst c38;rw [if_neg (show¬(false=true) by decide)] at H;obtain rfl:=Option.some.inj H;have p289:0≤(x10_1:Int):=of_decide_eq_true zz3
                   have q289:x10_1<(t278.length:Int):=of_decide_eq_true zz3
                   obtain ⟨ad289,e289,hx289_0⟩:=Kd.at_bool (Kd.R_reads' HO_9.out).2.2 x10_1 p289 q289
                   (try rw [←Nbq29.out] at hx289_0)
                   (try rw [←Nbq37.out] at hx289_0)
                   cases e289
                   replace p289:=eq_true p289;replace q289:=eq_true q289;obtain ⟨hcz40_0,hcz40_1,hcz40_2,hcz40_3,hcz40_4,hfz40_0,hfz40_1,hfz40_2,hfz40_3,hfz40_4⟩:=cbf5 BK277
                   go_wp2_with (first|(go_at_call 79;(with_reducible refine (spec_l6In.calls (rd l1_0 (ji14)) 1 a1_1 true _ A32.out).mono ?_);rintro e w' ⟨rfl,⟨nd,rfl⟩⟩;have p291:0≤((ji34):Int):=of_decide_eq_true zz3;have q291:(ji34)<(l1_4.length:Int):=of_decide_eq_true zz3;obtain ⟨ad291,e291,hx291_0⟩:=Kd.at_bool HR1_4.out (ji34) p291 q291;(try rw [←Nbq29.out] at hx291_0);(try rw [←Nbq37.out] at hx291_0);cases e291;replace hx291_0:=(HB.out.cell (World.block_lt_of_cell? w _ hx291_0)).trans hx291_0;replace p291:=eq_true p291;replace q291:=eq_true q291))
                   go_ret;exact ⟨(by first|rfl|(simp [errW_none,errW_some]<;>rfl)|(simp only [←hji14,←hji34];first|rfl|(simp [errW_none,errW_some]<;>rfl))|(simp [*,errW_none,errW_some]<;>rfl)),zz37⟩
                 ·rw [if_neg c36] at H
                  exact absurd H (by simp)
                ·rw [if_neg c35] at H
                 exact absurd H (by simp)
               ·replace c33 := Bool.eq_false_iff.mpr c33
                subst c33;rw [if_neg (show¬(false=true) by decide)] at H;have H':=aK H;clear H;have p289:0≤(x10_1:Int):=of_decide_eq_true zz3
                have q289:x10_1<(t278.length:Int):=of_decide_eq_true zz3
                obtain ⟨ad289,e289,hx289_0⟩:=Kd.at_bool (Kd.R_reads' HO_9.out).2.2 x10_1 p289 q289
                (try rw [←Nbq29.out] at hx289_0)
                cases e289
                replace p289:=eq_true p289;replace q289:=eq_true q289;obtain ⟨hcz41_0,hcz41_1,hcz41_2,hcz41_3,hcz41_4,hfz41_0,hfz41_1,hfz41_2,hfz41_3,hfz41_4⟩:=cbf5 BK277
                go_wp2_with (first|(go_at_call 79;(with_reducible refine (spec_l6In.calls (rd l1_0 (ji14)) 1 a1_1 false _ A32.out).mono ?_);rintro e w' ⟨rfl,⟨nd,rfl⟩⟩))
                go_roundg kj16
                case measure=>have:=HK1.out;have:=HJ16.out;omega
                case rel=>exact ⟨(wrap64 (x10_1+1)),zz7,H',⟨by have:=HK1.out;have:=HJ16.out;omega⟩,⟨by (with_reducible repeat (first|apply Kd.R_alloc|apply Kd.R_drewN|apply Kd.R_drew));exact HO_9.out⟩,⟨by (with_reducible repeat (first|refine blk_drewN ?_ _|refine blk_drew ?_|refine blk_alloc ?_ _));exact BK277.out⟩,⟨by repeat (first|(with_reducible first|exact HB.out|apply below_alloc|apply pw_below_drewN|apply below_drew1|refine below_set ?_ GE277.out)|exact HB.out)⟩⟩
              ·rw [if_neg c31] at H
               have c31b0:decide (a1_1≤a3)=false:=decide_eq_false c31
               clear c31;have H':=aK H;clear H;have p289:0≤(x10_1:Int):=of_decide_eq_true zz3
               have q289:x10_1<(t278.length:Int):=of_decide_eq_true zz3
               obtain ⟨ad289,e289,hx289_0⟩:=Kd.at_bool (Kd.R_reads' HO_9.out).2.2 x10_1 p289 q289
               (try rw [←Nbq29.out] at hx289_0)
               cases e289
               replace p289:=eq_true p289;replace q289:=eq_true q289;obtain ⟨hcz42_0,hcz42_1,hcz42_2,hcz42_3,hcz42_4,hfz42_0,hfz42_1,hfz42_2,hfz42_3,hfz42_4⟩:=cbf5 BK277;go_wp2
               go_roundg kj16
               case measure=>have:=HK1.out;have:=HJ16.out;omega
               case rel=>exact ⟨(wrap64 (x10_1+1)),zz7,H',⟨by have:=HK1.out;have:=HJ16.out;omega⟩,⟨by (with_reducible repeat (first|apply Kd.R_alloc|apply Kd.R_drewN|apply Kd.R_drew));exact HO_9.out⟩,⟨by (with_reducible repeat (first|refine blk_drewN ?_ _|refine blk_drew ?_|refine blk_alloc ?_ _));exact BK277.out⟩,⟨by repeat (first|(with_reducible first|exact HB.out|apply below_alloc|apply pw_below_drewN|apply below_drew1|refine below_set ?_ GE277.out)|exact HB.out)⟩⟩
             ·replace c30 := Bool.eq_false_iff.mpr c30
              subst c30;rw [if_neg (show¬(false=true) by decide)] at H;have H':=aK H;clear H;have p289:0≤(x10_1:Int):=of_decide_eq_true zz3
              have q289:x10_1<(t278.length:Int):=of_decide_eq_true zz3
              obtain ⟨ad289,e289,hx289_0⟩:=Kd.at_bool (Kd.R_reads' HO_9.out).2.2 x10_1 p289 q289
              (try rw [←Nbq29.out] at hx289_0)
              cases e289
              replace p289:=eq_true p289;replace q289:=eq_true q289;go_wp2
              go_roundg kj16
              case measure=>have:=HK1.out;have:=HJ16.out;omega
              case rel=>exact ⟨(wrap64 (x10_1+1)),zz7,H',⟨by have:=HK1.out;have:=HJ16.out;omega⟩,⟨by (with_reducible repeat (first|apply Kd.R_alloc|apply Kd.R_drewN|apply Kd.R_drew));exact HO_9.out⟩,⟨by (with_reducible repeat (first|refine blk_drewN ?_ _|refine blk_drew ?_|refine blk_alloc ?_ _));exact BK277.out⟩,⟨by repeat (first|(with_reducible first|exact HB.out|apply below_alloc|apply pw_below_drewN|apply below_drew1|refine below_set ?_ GE277.out)|exact HB.out)⟩⟩
            ·rw [if_neg c28] at H
             exact absurd H (by simp)
           ·rw [if_neg c27] at H
            exact absurd H (by simp)
       ·rw [if_neg c16] at H
        exact absurd H (by simp)
      ·rw [if_neg c15] at H
       exact absurd H (by simp)
     ·rw [if_neg c13] at H
      have c13b0:decide (x10_1<(t278.length:Int))=false:=decide_eq_false c13
      clear c13;obtain rfl:=Option.some.inj H;obtain ⟨Ao43,co43,eo43⟩:=Kd.R_slice HO_9.out;subst eo43;go_wp2;go_ret;exact ⟨zz8,zz37⟩
  ·rw [if_neg c7] at H
   exact absurd H (by simp)
 ·rw [if_neg c6] at H
  exact absurd H (by simp)
end Go.Proofs.Ytnlieahdakafbaa.K
