import Derived.Test.YtnlieahdakafbaaPd24
import Derived.Test.YtnlieahdakafbaaPd25
namespace Go.Proofs.Ytnlieahdakafbaa.K
open Go.RowKit Go.Proofs.YtnlieahdakafbaaW.PrintWords Go.Proofs.YtnlieahdakafbaaW.PrintLast Go.Proofs.YtnlieahdakafbaaW.PrintMore
attribute [local go_sem] max2_int min2_int max_two min_two max_three min_three max_four min_four
set_option linter.unusedVariables false
set_option linter.unusedSimpArgs false
def spec_l2Fields.f:Nat→List (S112)→Int→Option (List Int)
  |0,_,_=>none
  |k+1,l0,a1=>if a1=0 then (some (([]:List Int))) else (if 0≤a1 then (if a1<(l0.length:Int) then ((spec_l2Fields.f k l0 ((rd_T112 l0 a1).f0)).bind fun t125=>(if t125.length+((rd_T112 l0 a1).f1).length<17592186044416 then (some (t125++((rd_T112 l0 a1).f1))) else (none))) else (none)) else (none))
def spec_l2Fields.T3:Bool×List (List Nat×List Nat):=(true,[([],[]),([],[]),([],[]),([1,2],[1,2]),([3],[3]),([4],[4]),([0,5],[0,5]),([],[]),([],[]),([7,8],[7,8]),([9],[9]),([10],[10]),([6,11,6],[6,11]),([12,12,0,1,2,3,4,5,6,7,8,9,10,11,12],[12])])
def spec_l2Fields.B3:List Nat:=[0,0,0,6,14,30,63,0,0,384,896,1920,4095,8191]
theorem spec_l2Fields.tab3:rtab .any (opsOf Try.f81 3)=spec_l2Fields.T3:=by kernel_rfl
theorem spec_l2Fields.bits3:waitsOk spec_l2Fields.T3.2 spec_l2Fields.B3=true:=by kernel_rfl
set_option maxHeartbeats 8000000 in
set_option maxRecDepth 100000 in
theorem spec_l2Fields.calls (k:Nat): ∀(A0:Option Addr) (c0:Nat) (l0:List (S112)) (a1:Int) (r:List Int) (w:World) (hr0:Kd.C k112 w A0 l0.length l0) (hc0:l0.length≤c0) (h:spec_l2Fields.f k l0 a1=some r),
  Calls Try.prog 81 #[.slice A0 l0.length c0,.int .i64 a1] w fun e w'=> ∃v0_:Value,e= .returned (v0_)∧Kd.R (Kd.int .i64) 3 w' w.heap.size (fun _=>True) v0_ r∧Below w.heap.size w w':=by
 induction k using Nat.strongRecOn with
 |_ k ih=>
 intro A0 c0 l0 a1 r w hr0 hc0 h
 cases k with
 |zero=>exact absurd h (by simp [spec_l2Fields.f])
 |succ k=>
 simp only [spec_l2Fields.f] at h;have HR0:=aK hr0;have HC0:=aK hc0;clear hr0 hc0;have HB:=aK (Below.refl w.heap.size w);have H:(if a1=0 then (some (([]:List Int))) else (if 0≤a1 then (if a1<(l0.length:Int) then ((spec_l2Fields.f k l0 ((rd_T112 l0 a1).f0)).bind fun t125=>(if t125.length+((rd_T112 l0 a1).f1).length<17592186044416 then (some (t125++((rd_T112 l0 a1).f1))) else (none))) else (none)) else (none)))=some r:=h
 clear h;by_cases c3:a1=0
 ·rw [if_pos c3] at H
  have c3b0:(a1==0)=true:=beq_iff_eq.mpr c3
  have c3b1:(a1 !=0)=false:=bne_eq_false_iff_eq.mpr c3
  clear c3;obtain ⟨y121,hy121⟩: ∃y_:List Int,y_=(([]:List Int)):=⟨_,rfl⟩;replace H:(some y121)=some r:=by first|(rw [hy121];with_reducible exact H)|(have H2_:=(Option.bind_some _ _).symm.trans H;rw [hy121];with_reducible exact H2_)|(have H2_:=(Option.bind_some _ _).symm.trans H;with_reducible exact H2_)|with_reducible exact H|(rw [hy121];exact H)|exact H
  have Ny121:=aK hy121;clear hy121;obtain rfl:=Option.some.inj H;go_enter Try.func81,Try.ntmps81
  go_wp2_with (first|((with_reducible refine gate_dst (N:=7) rfl ?_);refine Kd.R_lit (Kd.int .i64) _ 3 ?hg (N:=7) ?hd (xs:=([]:List Int)) (inner:=[]) (ok:=fun _=>True) (okp:=fun _=>True) ?hr ?hp (fun _ hk=>hk) trivial (Below.refl _ _) (Nat.le_refl _) (by simp) ?_;(case hd=>rfl);(case hg=>rfl);(case hr=>first|(go_simp;done)|(go_simp;rfl));(case hp=>exact (Reps.none _ _));intro v122 w4 ho5 hb hg_ hnew_;clear hg_ hnew_;(first|rw [←Ny121.out] at ho5|(simp only [Int.reduceToNat] at ho5;rw [←Ny121.out] at ho5));have HO123:=aK (Kd.R_lower ho5 (below_size zz1));replace HB:=aK (below_step zz1 hb);clear hb ho5))
  go_ret;exact ⟨_,by first|rfl|(simp [errW_none,errW_some]<;>rfl)|(simp [*,errW_none,errW_some]<;>rfl),by (with_reducible repeat (first|apply Kd.R_alloc|apply Kd.R_drewN|apply Kd.R_drew));exact HO123.out,by repeat (first|(with_reducible first|exact HB.out|apply below_alloc|apply pw_below_drewN|apply below_drew1)|exact HB.out)⟩
 ·rw [if_neg c3] at H
  have c3b0:(a1==0)=false:=beq_eq_false_iff_ne.mpr c3
  have c3b1:(a1 !=0)=true:=bne_iff_ne.mpr c3
  by_cases c6:0≤a1
  ·rw [if_pos c6] at H
   have c6b0:decide (0≤a1)=true:=decide_eq_true c6
   clear c6;by_cases c7:a1<(l0.length:Int)
   ·rw [if_pos c7] at H
    have c7b0:decide (a1<(l0.length:Int))=true:=decide_eq_true c7
    clear c7;replace H:=Option.bind_eq_some_iff.mp H;obtain ⟨t125,A80,H⟩:=H;(try dsimp only at H);have A8:=aK A80;clear A80;by_cases c9:t125.length+((rd_T112 l0 a1).f1).length<17592186044416
    ·rw [if_pos c9] at H
     have LMc9:=aK c9;clear c9;obtain ⟨y129,hy129⟩: ∃y_:List Int,y_=(t125++((rd_T112 l0 a1).f1)):=⟨_,rfl⟩;replace H:(some y129)=some r:=by first|(rw [hy129];with_reducible exact H)|(have H2_:=(Option.bind_some _ _).symm.trans H;rw [hy129];with_reducible exact H2_)|(have H2_:=(Option.bind_some _ _).symm.trans H;with_reducible exact H2_)|with_reducible exact H|(rw [hy129];exact H)|exact H
     have Ny129:=aK hy129;clear hy129;obtain rfl:=Option.some.inj H;go_enter Try.func81,Try.ntmps81;try go_wp2
     have n0_:=aK (below_drew1 HB.out);clear HB;have HB:=n0_;clear n0_;have p124:0≤(a1:Int):=of_decide_eq_true zz3
     have q124:a1<(l0.length:Int):=of_decide_eq_true zz3
     obtain ⟨ad124,A124_1,c124_1,e124,hx124_0,hx124_1,hl124_1,hi124_1⟩:=at_T112 HR0.out a1 p124 q124;have hw124_1:=hx124_1;have hw124_0:=hx124_0
     cases e124
     replace hx124_0:=(HB.out.cell (World.block_lt_of_cell? w _ hx124_0)).trans hx124_0;replace hx124_1:=(HB.out.cell (World.block_lt_of_cell? w _ hx124_1)).trans hx124_1;have HR124_1:=aK hi124_1;have HC124_1:=aK hl124_1;clear hi124_1 hl124_1;replace p124:=eq_true p124;replace q124:=eq_true q124;have p128:0≤(a1:Int):=of_decide_eq_true zz3
     have q128:a1<(l0.length:Int):=of_decide_eq_true zz3
     obtain ⟨ad128,A128_1,c128_1,e128,hx128_0,hx128_1,hl128_1,hi128_1⟩:=at_T112 HR0.out a1 p128 q128;have hw128_1:=hx128_1;have hw128_0:=hx128_0;obtain rfl:ad124=ad128:=(by injection e128);replace hx128_0:=(HB.out.cell (World.block_lt_of_cell? w _ hx128_0)).trans hx128_0;replace hx128_1:=(HB.out.cell (World.block_lt_of_cell? w _ hx128_1)).trans hx128_1;have HR128_1:=aK hi128_1;have HC128_1:=aK hl128_1;clear hi128_1 hl128_1;replace p128:=eq_true p128;replace q128:=eq_true q128;have ea_:=Option.some.inj (hx124_1.symm.trans hx128_1);injection ea_ with ea_ en_ ec_;subst ea_;subst ec_;clear en_;refine sT 14 (S:=fun w'=>w'.cell? (ad124.add ((a1).toNat*2))=some (.int .i64 ((rd_T112 l0 a1).f0))∧w'.cell? ⟨(ad124.add ((a1).toNat*2)).block,(ad124.add ((a1).toNat*2)).off+1,none⟩=some (.slice A124_1 ((rd_T112 l0 a1).f1).length c124_1)∧w'.cell? (ad124.add ((a1).toNat*2))=some (.int .i64 ((rd_T112 l0 a1).f0))∧w'.cell? ⟨(ad124.add ((a1).toNat*2)).block,(ad124.add ((a1).toNat*2)).off+1,none⟩=some (.slice A124_1 ((rd_T112 l0 a1).f1).length c124_1)) (ds:=[]) ⟨((HB.out.cell (World.block_lt_of_cell? w _ hw124_0)).trans hw124_0),((HB.out.cell (World.block_lt_of_cell? w _ hw124_1)).trans hw124_1),((HB.out.cell (World.block_lt_of_cell? w _ hw128_0)).trans hw128_0),((HB.out.cell (World.block_lt_of_cell? w _ hw128_1)).trans hw128_1)⟩ (fun hHeld=>?_);refine with_tabW spec_l2Fields.tab3 spec_l2Fields.bits3 (fun HT_ HW_=>?_);generalize w.drew=w10 at HB HR124_1 HR128_1 hx124_0 hx124_1 hx128_0 hx128_1 hHeld ⊢;refine pT 0 8 (lA 14 1) HT_ ?_;refine pT 1 9 (lA 14 3) HT_ ?_;refine pT 2 10 (lA 14 7) HT_ ?_;refine pT 3 11 (lA 14 15) HT_ ?_;refine pT 4 12 (lA 14 31) HT_ ?_;refine pT 7 15 (lA 14 159) HT_ ?_;refine pT 8 16 (lA 14 415) HT_ ?_;refine pT 9 17 (lA 14 927) HT_ ?_;refine pT 10 18 (lA 14 1951) HT_ ?_;refine tS 5 13 (lA 14 1983) rfl rfl (take_ofW HT_.out HW_.out (by kernel_rfl)) hHeld zz32 ?_;refine tS 11 19 (lA 14 4031) rfl rfl (take_ofW HT_.out HW_.out (by kernel_rfl)) hHeld zz32 ?_;refine one_ (i:=6) (N:=some 14) (lA 14 4095) rfl rfl (one_of HT_.out (by kernel_rfl)) (by decide) (fun K hK=>?_);refine goes_ Try.func81 (by kernel_rfl) rfl #[.slice (some ad124) l0.length c0,.int .i64 ((rd_T112 l0 a1).f0)] (by rfl) rfl rfl zz2 ?_;(with_reducible refine (ih k (by omega) _ _ l0 ((rd_T112 l0 a1).f0) t125 _ ?side1 ?side2 A8.out).mono ?_)
     (case side1=>exact zz4)
     (case side2=>exact HC0.out)
     rintro e w11 ⟨v126,rfl,ho0,hb⟩;refine ⟨_,rfl,?_⟩;have n0_:=aK (Kd.R_lower ho0 (below_size zz1));have n1_:=aK (below_step zz1 hb);clear HB;have HO127:=n0_;have HB:=n1_;clear n0_ n1_;(try clear hb);(try clear hb2);(try clear hk);(try clear hi);(try clear ho0);refine hK.out _ _ ⟨((HB.out.cell (World.block_lt_of_cell? w _ hw124_0)).trans hw124_0),((HB.out.cell (World.block_lt_of_cell? w _ hw124_1)).trans hw124_1),((HB.out.cell (World.block_lt_of_cell? w _ hw128_0)).trans hw128_0),((HB.out.cell (World.block_lt_of_cell? w _ hw128_1)).trans hw128_1)⟩ (fun hHeld=>?_);clear hK K;refine nS 14 ?_;refine one_ (i:=12) (N:=some 20) (lA 14 8191) rfl rfl (one_of HT_.out (by kernel_rfl)) (by decide) (fun K hK=>?_);refine Kd.R_append_rows_step (Kd.int .i64) (w0:=w) w.heap.size (by rfl) (.tmp 14) (.tmp 19) 24 3 (.int .i64 0) 8 rfl Try.underlying24 info3 rfl (by decide) (by omega) v126 t125 ((rd_T112 l0 a1).f1) _ _ _ (fun _=>True) (fun _=>False) rfl rfl ?aO ?aR (fun _ _ h=>h) (fun _ h=>h.elim) ?aF ?aB ?aS ?aL ?_
     (case aR=>repeat (first|exact (Kd.C_below HR128_1.out HB.out)|(with_reducible refine Kd.C_alloc ?_ _)|(with_reducible refine Kd.C_drewN ?_ _)|(with_reducible refine Kd.C_drew ?_)))
     (case aB=>exact zz1)
     (case aF=>exact (fun _ _=>trivial))
     (case aO=>exact (by (with_reducible repeat (first|apply Kd.R_alloc|apply Kd.R_drewN|apply Kd.R_drew));exact HO127.out))
     (case aS=>exact (below_size zz1))
     (case aL=>have:=LMc9.out;omega)
     intro v130 w12 ho hb hg hat;rw [←Ny129.out] at ho;have n0_:=aK (hb);have n1_:=aK (ho);clear HB;clear HO127;have HB:=n0_;have HO131:=n1_;clear n0_ n1_;clear ho hb hg hat;refine hK.out _ _ ⟨((HB.out.cell (World.block_lt_of_cell? w _ hw124_0)).trans hw124_0),((HB.out.cell (World.block_lt_of_cell? w _ hw124_1)).trans hw124_1),((HB.out.cell (World.block_lt_of_cell? w _ hw128_0)).trans hw128_0),((HB.out.cell (World.block_lt_of_cell? w _ hw128_1)).trans hw128_1)⟩ (fun hHeld=>?_);clear hK K;refine nS 20 ?_;refine pT 13 4 (lA 14 16383) HT_ ?_;refine done_ (done_of HT_.out (by kernel_rfl)) ?_;try go_wp2
     go_ret;exact ⟨_,by first|rfl|(simp [errW_none,errW_some]<;>rfl)|(simp [*,errW_none,errW_some]<;>rfl),by (with_reducible repeat (first|apply Kd.R_alloc|apply Kd.R_drewN|apply Kd.R_drew));exact HO131.out,by repeat (first|(with_reducible first|exact HB.out|apply below_alloc|apply pw_below_drewN|apply below_drew1)|exact HB.out)⟩
    ·rw [if_neg c9] at H
     exact absurd H (by simp)
   ·rw [if_neg c7] at H
    exact absurd H (by simp)
  ·rw [if_neg c6] at H
   exact absurd H (by simp)
mutual
def spec_l21Size.j0:Nat→List Int→Int→Int→Int→Bool→Option (Int)
 |0,_,_,_,_,_=>none
 |k+1,x1,x2,x3,x9,x30=>if x30=true then (if (wrap64 (x2+1))≥x3 then (spec_l21Size.j1 k x1 x2 x3 true) else (if 0≤(wrap64 (x2+1)) then (if (wrap64 (x2+1))<(x1.length:Int) then ((spec_l6In.f (rd x1 (wrap64 (x2+1))) 0 6).bind fun t186=>(spec_l21Size.j1 k x1 x2 x3 (!t186))) else (none)) else (none))) else (if (wrap64 (x2+x9))>x3 then (some 0) else (some x9))
def spec_l21Size.j1:Nat→List Int→Int→Int→Bool→Option (Int)
 |0,_,_,_,_=>none
 |k+1,x1,x2,x3,x55=>if x55=true then (some 0) else (if 0≤(wrap64 (x2+1)) then (if (wrap64 (x2+1))<(x1.length:Int) then (if (wrap64 (x2+(wrap64 (2+(rd x1 (wrap64 (x2+1)))))))>x3 then (some 0) else (some (wrap64 (2+(rd x1 (wrap64 (x2+1))))))) else (none)) else (none))
end
def spec_l21Size.f (k:Nat) (l0:List (S112)) (l1:List Int) (a2:Int) (a3:Int):Option (Int):=if a2≥a3 then (some 0) else (if 0≤a2 then (if a2<(l1.length:Int) then ((spec_l6In.f (rd l1 a2) 0 (wrap64 ((l0.length:Int) - 1))).bind fun t178=>(if t178=true then ((spec_l2Fields.f k l0 (rd l1 a2)).bind fun t180=>(if (wrap64 (a2+(wrap64 (1+(t180.length:Int)))))>a3 then (some 0) else (some (wrap64 (1+(t180.length:Int)))))) else (if (rd l1 a2)=(-1) then (spec_l21Size.j0 k l1 a2 a3 0 true) else (spec_l21Size.j0 k l1 a2 a3 0 ((rd l1 a2)==(-2)))))) else (none)) else (none))
set_option maxHeartbeats 8000000 in
set_option maxRecDepth 100000 in
theorem spec_l21Size.calls (k : Nat) (A0 : Option Addr) (c0 : Nat) (l0 : List (S112)) (A1 : Option Addr) (c1 : Nat) (l1 : List Int) (a2 : Int) (a3 : Int) (r : Int) (w : World) (hr0 : Kd.C k112 w A0 l0.length l0) (hc0 : l0.length ≤ c0) (hr1 : Kd.C (Kd.int .i64) w A1 l1.length l1) (hc1 : l1.length ≤ c1) (h : spec_l21Size.f k l0 l1 a2 a3 = some r) :
  Calls Try.prog 80 #[.slice A0 l0.length c0,.slice A1 l1.length c1,.int .i64 a2,.int .i64 a3] w fun e w'=>e= .returned (.int .i64 r)∧Below w.heap.size w w':=by
 have HR0:=aK hr0;have HC0:=aK hc0;clear hr0 hc0;have HR1:=aK hr1;have HC1:=aK hc1;clear hr1 hc1;have HB:=aK (Below.refl w.heap.size w);have H:(if a2≥a3 then (some 0) else (if 0≤a2 then (if a2<(l1.length:Int) then ((spec_l6In.f (rd l1 a2) 0 (wrap64 ((l0.length:Int) - 1))).bind fun t178=>(if t178=true then ((spec_l2Fields.f k l0 (rd l1 a2)).bind fun t180=>(if (wrap64 (a2+(wrap64 (1+(t180.length:Int)))))>a3 then (some 0) else (some (wrap64 (1+(t180.length:Int)))))) else (if (rd l1 a2)=(-1) then (spec_l21Size.j0 k l1 a2 a3 0 true) else (spec_l21Size.j0 k l1 a2 a3 0 ((rd l1 a2)==(-2)))))) else (none)) else (none)))=some r:=h
 clear h;by_cases c5:a2≥a3
 ·rw [if_pos c5] at H
  have c5b0:decide (a3≤a2)=true:=decide_eq_true c5
  clear c5;obtain rfl:=Option.some.inj H;go_enter Try.func80,Try.ntmps80;go_wp2;go_ret;exact ⟨zz8,zz1⟩
 ·rw [if_neg c5] at H
  have c5b0:decide (a3≤a2)=false:=decide_eq_false c5
  clear c5;by_cases c6:0≤a2
  ·rw [if_pos c6] at H
   have c6b0:decide (0≤a2)=true:=decide_eq_true c6
   clear c6;by_cases c7:a2<(l1.length:Int)
   ·rw [if_pos c7] at H
    have c7b0:decide (a2<(l1.length:Int))=true:=decide_eq_true c7
    clear c7;replace H:=Option.bind_eq_some_iff.mp H;obtain ⟨t178,A80,H⟩:=H;(try dsimp only at H);have A8:=aK A80;clear A80;by_cases c9:t178=true
    ·subst c9
     rw [if_pos rfl] at H;replace H:=Option.bind_eq_some_iff.mp H;obtain ⟨t180,A100,H⟩:=H;(try dsimp only at H);have A10:=aK A100;clear A100;by_cases c11:(wrap64 (a2+(wrap64 (1+(t180.length:Int)))))>a3
     ·rw [if_pos c11] at H
      have c11b0:decide (a3<(wrap64 (a2+(wrap64 (1+(t180.length:Int))))))=true:=decide_eq_true c11
      clear c11;obtain rfl:=Option.some.inj H;have p177:0≤(a2:Int):=of_decide_eq_true zz3
      have q177:a2<(l1.length:Int):=of_decide_eq_true zz3
      obtain ⟨ad177,e177,hx177_0⟩:=Kd.at_int HR1.out a2 p177 q177
      cases e177
      replace p177:=eq_true p177;replace q177:=eq_true q177;go_enter Try.func80,Try.ntmps80
      go_wp2_with (first|((with_reducible refine gate_callee (f:=79) rfl ?_);refine goesL_ (some 21) rfl rfl Try.func79 (by kernel_rfl) rfl #[.int .i64 (rd l1 a2),.int .i64 0,.int .i64 (wrap64 ((l0.length:Int) - 1))] rfl zz2 ?_;(with_reducible refine (spec_l6In.calls (rd l1 a2) 0 (wrap64 ((l0.length:Int) - 1)) true _ A8.out).mono ?_);rintro e w' ⟨rfl,⟨nd,rfl⟩⟩;refine ⟨_,rfl,?_⟩;have p179:0≤(a2:Int):=of_decide_eq_true zz3;have q179:a2<(l1.length:Int):=of_decide_eq_true zz3;obtain ⟨ad179,e179,hx179_0⟩:=Kd.at_int HR1.out a2 p179 q179;obtain rfl:ad177=ad179:=(by injection e179);replace p179:=eq_true p179;replace q179:=eq_true q179)|((with_reducible refine gate_callee (f:=81) rfl ?_);refine goesL_ (some 27) rfl rfl Try.func81 (by kernel_rfl) rfl #[.slice A0 l0.length c0,.int .i64 (rd l1 a2)] rfl zz2 ?_;(with_reducible refine (spec_l2Fields.calls k _ _ l0 (rd l1 a2) t180 _ ?side1 ?side2 A10.out).mono ?_);(case side1=>exact zz46);(case side2=>exact HC0.out);rintro e w12 ⟨v181,rfl,ho0,hb⟩;refine ⟨_,rfl,?_⟩;have HO182:=aK (Kd.R_lower ho0 (below_size zz1));replace HB:=aK (below_step zz1 hb);(try clear hb);(try clear hb2);(try clear hk);(try clear hi);(try clear ho0);obtain ⟨Ao13,co13,eo13⟩:=Kd.R_slice HO182.out;subst eo13))
      go_ret;exact ⟨zz8,zz1⟩
     ·rw [if_neg c11] at H
      have c11b0:decide (a3<(wrap64 (a2+(wrap64 (1+(t180.length:Int))))))=false:=decide_eq_false c11
      clear c11;obtain rfl:=Option.some.inj H;have p177:0≤(a2:Int):=of_decide_eq_true zz3
      have q177:a2<(l1.length:Int):=of_decide_eq_true zz3
      obtain ⟨ad177,e177,hx177_0⟩:=Kd.at_int HR1.out a2 p177 q177
      cases e177
      replace p177:=eq_true p177;replace q177:=eq_true q177;go_enter Try.func80,Try.ntmps80
      go_wp2_with (first|((with_reducible refine gate_callee (f:=79) rfl ?_);refine goesL_ (some 21) rfl rfl Try.func79 (by kernel_rfl) rfl #[.int .i64 (rd l1 a2),.int .i64 0,.int .i64 (wrap64 ((l0.length:Int) - 1))] rfl zz2 ?_;(with_reducible refine (spec_l6In.calls (rd l1 a2) 0 (wrap64 ((l0.length:Int) - 1)) true _ A8.out).mono ?_);rintro e w' ⟨rfl,⟨nd,rfl⟩⟩;refine ⟨_,rfl,?_⟩;have p179:0≤(a2:Int):=of_decide_eq_true zz3;have q179:a2<(l1.length:Int):=of_decide_eq_true zz3;obtain ⟨ad179,e179,hx179_0⟩:=Kd.at_int HR1.out a2 p179 q179;obtain rfl:ad177=ad179:=(by injection e179);replace p179:=eq_true p179;replace q179:=eq_true q179)|((with_reducible refine gate_callee (f:=81) rfl ?_);refine goesL_ (some 27) rfl rfl Try.func81 (by kernel_rfl) rfl #[.slice A0 l0.length c0,.int .i64 (rd l1 a2)] rfl zz2 ?_;(with_reducible refine (spec_l2Fields.calls k _ _ l0 (rd l1 a2) t180 _ ?side1 ?side2 A10.out).mono ?_);(case side1=>exact zz46);(case side2=>exact HC0.out);rintro e w14 ⟨v181,rfl,ho0,hb⟩;refine ⟨_,rfl,?_⟩;have HO182:=aK (Kd.R_lower ho0 (below_size zz1));replace HB:=aK (below_step zz1 hb);(try clear hb);(try clear hb2);(try clear hk);(try clear hi);(try clear ho0);obtain ⟨Ao15,co15,eo15⟩:=Kd.R_slice HO182.out;subst eo15))
      go_ret;exact ⟨zz8,zz1⟩
    ·replace c9 := Bool.eq_false_iff.mpr c9
     subst c9;rw [if_neg (show¬(false=true) by decide)] at H;have HC16:=aK H;clear H;have p177:0≤(a2:Int):=of_decide_eq_true zz3
     have q177:a2<(l1.length:Int):=of_decide_eq_true zz3
     obtain ⟨ad177,e177,hx177_0⟩:=Kd.at_int HR1.out a2 p177 q177
     cases e177
     replace p177:=eq_true p177;replace q177:=eq_true q177;go_enter Try.func80,Try.ntmps80
     go_upto_region 6 with (first|((with_reducible refine gate_callee (f:=79) rfl ?_);refine goesL_ (some 21) rfl rfl Try.func79 (by kernel_rfl) rfl #[.int .i64 (rd l1 a2),.int .i64 0,.int .i64 (wrap64 ((l0.length:Int) - 1))] rfl zz2 ?_;(with_reducible refine (spec_l6In.calls (rd l1 a2) 0 (wrap64 ((l0.length:Int) - 1)) false _ A8.out).mono ?_);rintro e w' ⟨rfl,⟨nd,rfl⟩⟩;refine ⟨_,rfl,?_⟩))
     (try simp only [Act.put,List.setIfInBounds_toArray,List.set_cons_zero,List.set_cons_succ])
     go_cut [30] (fun v30 wc=> ∃(kq:Nat) (x30_15:Bool),v30= .bool x30_15∧Aside0 (spec_l21Size.j0 kq l1 a2 a3 0 x30_15=some r)∧Aside0 (kq≤k)∧Aside0 (Below w.heap.size w wc))
     case first=>
      have H:=HC16.out;clear HC16;by_cases c17:(rd l1 a2)=(-1)
      ·rw [if_pos c17] at H
       have c17b0:((rd l1 a2)==(-1))=true:=beq_iff_eq.mpr c17
       have c17b1:((rd l1 a2) !=(-1))=false:=bne_eq_false_iff_eq.mpr c17
       clear c17
       (first|rw [c17b0]|(simp only [i64_w,i32_w];rw [c17b0])|skip)
       have H':=aK H;clear H;have p183:0≤(a2:Int):=of_decide_eq_true zz3
       have q183:a2<(l1.length:Int):=of_decide_eq_true zz3
       obtain ⟨ad183,e183,hx183_0⟩:=Kd.at_int HR1.out a2 p183 q183;obtain rfl:ad177=ad183:=(by injection e183);replace hx183_0:=(HB.out.cell (World.block_lt_of_cell? w _ hx183_0)).trans hx183_0;replace p183:=eq_true p183;replace q183:=eq_true q183;go_wp2;go_meet
       case rel=>exact ⟨_,(true),zz7,H',⟨by first|omega|exact Nat.le_refl _⟩,⟨by repeat (first|(with_reducible first|exact HB.out|apply below_alloc|apply pw_below_drewN|apply below_drew1)|exact HB.out)⟩⟩
      ·rw [if_neg c17] at H
       have c17b0:((rd l1 a2)==(-1))=false:=beq_eq_false_iff_ne.mpr c17
       have c17b1:((rd l1 a2) !=(-1))=true:=bne_iff_ne.mpr c17
       (first|rw [c17b0]|(simp only [i64_w,i32_w];rw [c17b0])|skip)
       have H':=aK H;clear H;have p183:0≤(a2:Int):=of_decide_eq_true zz3
       have q183:a2<(l1.length:Int):=of_decide_eq_true zz3
       obtain ⟨ad183,e183,hx183_0⟩:=Kd.at_int HR1.out a2 p183 q183;obtain rfl:ad177=ad183:=(by injection e183);replace hx183_0:=(HB.out.cell (World.block_lt_of_cell? w _ hx183_0)).trans hx183_0;replace p183:=eq_true p183;replace q183:=eq_true q183;have p184:0≤(a2:Int):=of_decide_eq_true zz3
       have q184:a2<(l1.length:Int):=of_decide_eq_true zz3
       obtain ⟨ad184,e184,hx184_0⟩:=Kd.at_int HR1.out a2 p184 q184;obtain rfl:ad177=ad184:=(by injection e184);replace hx184_0:=(HB.out.cell (World.block_lt_of_cell? w _ hx184_0)).trans hx184_0;replace p184:=eq_true p184;replace q184:=eq_true q184;go_wp2;go_meet
       case rel=>exact ⟨_,(((rd l1 a2)==(-2))),zz7,H',⟨by first|omega|exact Nat.le_refl _⟩,⟨by repeat (first|(with_reducible first|exact HB.out|apply below_alloc|apply pw_below_drewN|apply below_drew1)|exact HB.out)⟩⟩
     case rest =>
      clear HC16;(try clear c1);(try clear p1);(try clear q1);(try clear hx1);(try clear p2);(try clear c5);(try clear c5b0);(try clear c6);(try clear c6b0);(try clear p6);(try clear c7);(try clear c7b0);(try clear c8);(try clear c9);(try clear c11);(try clear c11b0);(try clear c17);(try clear c17b0);(try clear c17b1);(try clear p17);(try clear q17);(try clear hx17);(try clear hx177_0);(try clear hx179_0);(try clear hx183_0);(try clear hx184_0);(try clear p177);(try clear p179);(try clear p183);(try clear p184);(try clear q177);(try clear q179);(try clear q183);(try clear q184);obtain ⟨kq,x30_15,rfl,HA,HJ15,HB⟩:=hcut
      cases kq with
      |zero=>exact absurd HA.out (by simp [spec_l21Size.j0])
      | succ kj15 =>
       have H:=HA.out;clear HA;simp only [spec_l21Size.j0] at H;by_cases c18:x30_15=true
       ·subst c18
        rw [if_pos rfl] at H;have HC19:=aK H;clear H
        go_upto_region 7 with (fail)
        go_cut [55] (fun v55 wc=> ∃(kq:Nat) (x55_18:Bool),v55= .bool x55_18∧Aside0 (spec_l21Size.j1 kq l1 a2 a3 x55_18=some r)∧Aside0 (kq≤kj15)∧Aside0 (Below w.heap.size w wc))
        case first=>
         have H:=HC19.out;clear HC19;by_cases c20:(wrap64 (a2+1))≥a3
         ·rw [if_pos c20] at H
          have c20b0:decide (a3≤(wrap64 (a2+1)))=true:=decide_eq_true c20
          clear c20
          (first|rw [c20b0]|(simp only [i64_w,i32_w];rw [c20b0])|skip)
          have H':=aK H;clear H;go_wp2;go_meet
          case rel=>exact ⟨_,(true),zz7,H',⟨by have:=HJ15.out;first|omega|exact Nat.le_refl _⟩,⟨by repeat (first|(with_reducible first|exact HB.out|apply below_alloc|apply pw_below_drewN|apply below_drew1)|exact HB.out)⟩⟩
         ·rw [if_neg c20] at H
          have c20b0:decide (a3≤(wrap64 (a2+1)))=false:=decide_eq_false c20
          clear c20
          (first|rw [c20b0]|(simp only [i64_w,i32_w];rw [c20b0])|skip)
          obtain ⟨ji21,hji21⟩: ∃j_:Int,(wrap64 (a2+1))=j_:=⟨_,rfl⟩;replace H:(if 0≤(ji21) then (if (ji21)<(l1.length:Int) then ((spec_l6In.f (rd l1 (ji21)) 0 6).bind fun t186=>(spec_l21Size.j1 kj15 l1 a2 a3 (!t186))) else (none)) else (none))=some r:=by first|(rw [hji21] at H;exact H)|(simp only [hji21] at H ⊢;exact H)
          (try rw [hji21] at c20b0)
          have hji21w:(IntKind.i64.wrap (a2+1))=ji21:=(i64_w _).trans hji21
          by_cases c22:0≤(ji21)
          ·rw [if_pos c22] at H
           have c22b0:decide (0≤(ji21))=true:=decide_eq_true c22
           clear c22;by_cases c23:(ji21)<(l1.length:Int)
           ·rw [if_pos c23] at H
            have c23b0:decide ((ji21)<(l1.length:Int))=true:=decide_eq_true c23
            clear c23;replace H:=Option.bind_eq_some_iff.mp H;obtain ⟨t186,A240,H⟩:=H;(try dsimp only at H);have A24:=aK A240;clear A240;have H':=aK H;clear H;have p185:0≤((ji21):Int):=of_decide_eq_true zz3
            have q185:(ji21)<(l1.length:Int):=of_decide_eq_true zz3
            obtain ⟨ad185,e185,hx185_0⟩:=Kd.at_int HR1.out (ji21) p185 q185;obtain rfl:ad177=ad185:=(by injection e185);replace hx185_0:=(HB.out.cell (World.block_lt_of_cell? w _ hx185_0)).trans hx185_0;replace p185:=eq_true p185;replace q185:=eq_true q185
            go_wp2_with (first|(go_at_call 79;(with_reducible refine (spec_l6In.calls (rd l1 (ji21)) 0 6 t186 _ A24.out).mono ?_);rintro e w' ⟨rfl,⟨nd,rfl⟩⟩))
            go_meet
            case rel=>exact ⟨_,(!t186),zz7,H',⟨by have:=HJ15.out;first|omega|exact Nat.le_refl _⟩,⟨by repeat (first|(with_reducible first|exact HB.out|apply below_alloc|apply pw_below_drewN|apply below_drew1)|exact HB.out)⟩⟩
           ·rw [if_neg c23] at H
            exact absurd H (by simp)
          ·rw [if_neg c22] at H
           exact absurd H (by simp)
        case rest =>
         clear HC19;(try clear c1);(try clear p1);(try clear q1);(try clear hx1);(try clear c2);(try clear p2);(try clear c5);(try clear c5b0);(try clear c6);(try clear c6b0);(try clear p6);(try clear c7);(try clear c7b0);(try clear c8);(try clear c9);(try clear c11);(try clear c11b0);(try clear c17);(try clear c17b0);(try clear c17b1);(try clear p17);(try clear q17);(try clear hx17);(try clear c18);(try clear p18);(try clear q18);(try clear hx18);(try clear c20);(try clear c20b0);(try clear c22);(try clear c22b0);(try clear c23);(try clear c23b0);(try clear hx177_0);(try clear hx179_0);(try clear hx183_0);(try clear hx184_0);(try clear hx185_0);(try clear p1);(try clear p17);(try clear p177);(try clear p179);(try clear p183);(try clear p184);(try clear p185);(try clear p2);(try clear p6);(try clear q1);(try clear q17);(try clear q177);(try clear q179);(try clear q183);(try clear q184);(try clear q185);obtain ⟨kq,x55_18,rfl,HA,HJ18,HB⟩:=hcut
         cases kq with
         |zero=>exact absurd HA.out (by simp [spec_l21Size.j1])
         | succ kj18 =>
          have H:=HA.out;clear HA;simp only [spec_l21Size.j1] at H;by_cases c25:x55_18=true
          ·subst c25
           rw [if_pos rfl] at H;obtain rfl:=Option.some.inj H;go_wp2;go_ret;exact ⟨zz8,zz1⟩
          ·replace c25 := Bool.eq_false_iff.mpr c25
           subst c25;rw [if_neg (show¬(false=true) by decide)] at H;obtain ⟨ji26,hji26⟩: ∃j_:Int,(wrap64 (a2+1))=j_:=⟨_,rfl⟩;replace H:(if 0≤(ji26) then (if (ji26)<(l1.length:Int) then (if (wrap64 (a2+(wrap64 (2+(rd l1 (ji26))))))>a3 then (some 0) else (some (wrap64 (2+(rd l1 (ji26)))))) else (none)) else (none))=some r:=by first|(rw [hji26] at H;exact H)|(simp only [hji26] at H ⊢;exact H)
           have hji26w:(IntKind.i64.wrap (a2+1))=ji26:=(i64_w _).trans hji26
           by_cases c27:0≤(ji26)
           ·rw [if_pos c27] at H
            have c27b0:decide (0≤(ji26))=true:=decide_eq_true c27
            clear c27;by_cases c28:(ji26)<(l1.length:Int)
            ·rw [if_pos c28] at H
             have c28b0:decide ((ji26)<(l1.length:Int))=true:=decide_eq_true c28
             clear c28;by_cases c29:(wrap64 (a2+(wrap64 (2+(rd l1 (ji26))))))>a3
             ·rw [if_pos c29] at H
              have c29b0:decide (a3<(wrap64 (a2+(wrap64 (2+(rd l1 (ji26)))))))=true:=decide_eq_true c29
              clear c29;obtain rfl:=Option.some.inj H;have p187:0≤((ji26):Int):=of_decide_eq_true zz3
              have q187:(ji26)<(l1.length:Int):=of_decide_eq_true zz3
              obtain ⟨ad187,e187,hx187_0⟩:=Kd.at_int HR1.out (ji26) p187 q187;obtain rfl:ad177=ad187:=(by injection e187);replace hx187_0:=(HB.out.cell (World.block_lt_of_cell? w _ hx187_0)).trans hx187_0;replace p187:=eq_true p187;replace q187:=eq_true q187;go_wp2;go_ret;exact ⟨(by first|rfl|(simp [errW_none,errW_some]<;>rfl)|(simp only [←hji26];first|rfl|(simp [errW_none,errW_some]<;>rfl))|(simp [*,errW_none,errW_some]<;>rfl)),zz1⟩
             ·rw [if_neg c29] at H
              have c29b0:decide (a3<(wrap64 (a2+(wrap64 (2+(rd l1 (ji26)))))))=false:=decide_eq_false c29
              clear c29;obtain rfl:=Option.some.inj H;have p187:0≤((ji26):Int):=of_decide_eq_true zz3
              have q187:(ji26)<(l1.length:Int):=of_decide_eq_true zz3
              obtain ⟨ad187,e187,hx187_0⟩:=Kd.at_int HR1.out (ji26) p187 q187;obtain rfl:ad177=ad187:=(by injection e187);replace hx187_0:=(HB.out.cell (World.block_lt_of_cell? w _ hx187_0)).trans hx187_0;replace p187:=eq_true p187;replace q187:=eq_true q187;go_wp2;go_ret;exact ⟨(by first|rfl|(simp [errW_none,errW_some]<;>rfl)|(simp only [←hji26];first|rfl|(simp [errW_none,errW_some]<;>rfl))|(simp [*,errW_none,errW_some]<;>rfl)),zz1⟩
            ·rw [if_neg c28] at H
             exact absurd H (by simp)
           ·rw [if_neg c27] at H
            exact absurd H (by simp)
       ·replace c18 := Bool.eq_false_iff.mpr c18
        subst c18;rw [if_neg (show¬(false=true) by decide)] at H;by_cases c30:(wrap64 (a2+0))>a3
        ·rw [if_pos c30] at H
         have c30b0:decide (a3<(wrap64 (a2+0)))=true:=decide_eq_true c30
         simp only [Int.add_zero] at c30b0;clear c30;obtain rfl:=Option.some.inj H;go_wp2;go_ret;exact ⟨zz8,zz1⟩
        ·rw [if_neg c30] at H
         have c30b0:decide (a3<(wrap64 (a2+0)))=false:=decide_eq_false c30
         simp only [Int.add_zero] at c30b0;clear c30;obtain rfl:=Option.some.inj H;go_wp2;go_ret;exact ⟨zz8,zz1⟩
   ·rw [if_neg c7] at H
    exact absurd H (by simp)
  ·rw [if_neg c6] at H
   exact absurd H (by simp)
end Go.Proofs.Ytnlieahdakafbaa.K
namespace Go.Proofs.Ytnlieahdakafbaa.K
open Go.RowKit Go.Proofs.YtnlieahdakafbaaW.PrintWords Go.Proofs.YtnlieahdakafbaaW.PrintLast Go.Proofs.YtnlieahdakafbaaW.PrintMore
attribute [local go_sem] max2_int min2_int max_two min_two max_three min_three max_four min_four
set_option linter.unusedVariables false
set_option linter.unusedSimpArgs false
def spec_l21Refs.l0:Nat→List (S112)→List Bool→Int→Int→Option (List Bool)
  |0,_,_,_,_=>none
  |k+1,x0,x7,x8,x9=>if x9<(x7.length:Int) then (if x8=(-2) then (if 0≤x9 then (spec_l21Refs.l0 k x0 (x7.set (x9:Int).toNat true) x8 (wrap64 (x9+1))) else (none)) else (if x8≥0 then ((spec_l2Fields.f k x0 x8).bind fun t195=>(if 0≤(wrap64 (x9 - 1)) then (if (wrap64 (x9 - 1))<(t195.length:Int) then (if 0≤x9 then (spec_l21Refs.l0 k x0 (x7.set (x9:Int).toNat ((rd t195 (wrap64 (x9 - 1))) !=1)) x8 (wrap64 (x9+1))) else (none)) else (none)) else (none))) else (if 0≤x9 then (spec_l21Refs.l0 k x0 (x7.set (x9:Int).toNat false) x8 (wrap64 (x9+1))) else (none)))) else (some x7)
def spec_l21Refs.f (k:Nat) (l0:List (S112)) (l1:List Int) (a2:Int):Option (List Bool):=(spec_l21Size.f k l0 l1 a2 (l1.length:Int)).bind fun t188=>(if 0≤t188 then (if (t188:Int).toNat≤281474976710656 then (if 0≤a2 then (if a2<(l1.length:Int) then ((spec_l21Head.f (rd l1 a2)).bind fun t193=>(spec_l21Refs.l0 k l0 (List.replicate (t188:Int).toNat false) (rd l1 a2) t193)) else (none)) else (none)) else (none)) else (none))
set_option maxHeartbeats 8000000 in
set_option maxRecDepth 100000 in
theorem spec_l21Refs.calls (k : Nat) (A0 : Option Addr) (c0 : Nat) (l0 : List (S112)) (A1 : Option Addr) (c1 : Nat) (l1 : List Int) (a2 : Int) (r : List Bool) (w : World) (hr0 : Kd.C k112 w A0 l0.length l0) (hc0 : l0.length ≤ c0) (hr1 : Kd.C (Kd.int .i64) w A1 l1.length l1) (hc1 : l1.length ≤ c1) (h : spec_l21Refs.f k l0 l1 a2 = some r) :
  Calls Try.prog 39 #[.slice A0 l0.length c0,.slice A1 l1.length c1,.int .i64 a2] w fun e w'=> ∃v0_:Value,e= .returned (v0_)∧Kd.R Kd.bool 4 w' w.heap.size (fun _=>True) v0_ r∧Below w.heap.size w w':=by
 have HR0:=aK hr0;have HC0:=aK hc0;clear hr0 hc0;have HR1:=aK hr1;have HC1:=aK hc1;clear hr1 hc1;have HB:=aK (Below.refl w.heap.size w);have H:((spec_l21Size.f k l0 l1 a2 (l1.length:Int)).bind fun t188=>(if 0≤t188 then (if (t188:Int).toNat≤281474976710656 then (if 0≤a2 then (if a2<(l1.length:Int) then ((spec_l21Head.f (rd l1 a2)).bind fun t193=>(spec_l21Refs.l0 k l0 (List.replicate (t188:Int).toNat false) (rd l1 a2) t193)) else (none)) else (none)) else (none)) else (none)))=some r:=h
 clear h;replace H:=Option.bind_eq_some_iff.mp H;obtain ⟨t188,A40,H⟩:=H;(try dsimp only at H);have A4:=aK A40;clear A40;by_cases c5:0≤t188
 ·rw [if_pos c5] at H
  have c5b0:=eq_true c5;have c5b1:decide (0≤t188)=true:=decide_eq_true c5
  clear c5;by_cases c6:(t188:Int).toNat≤281474976710656
  ·rw [if_pos c6] at H
   have c6b0:=eq_true c6;have c6b1:decide ((t188:Int).toNat≤281474976710656)=true:=decide_eq_true c6
   clear c6;obtain ⟨y189,hy189⟩: ∃y_:List Bool,y_=(List.replicate (t188:Int).toNat false):=⟨_,rfl⟩;replace H:(if 0≤a2 then (if a2<(l1.length:Int) then ((spec_l21Head.f (rd l1 a2)).bind fun t193=>(spec_l21Refs.l0 k l0 y189 (rd l1 a2) t193)) else (none)) else (none))=some r:=by first|(rw [hy189];with_reducible exact H)|(have H2_:=(Option.bind_some _ _).symm.trans H;rw [hy189];with_reducible exact H2_)|(have H2_:=(Option.bind_some _ _).symm.trans H;with_reducible exact H2_)|with_reducible exact H|(rw [hy189];exact H)|exact H
   have Ny189:=aK hy189;clear hy189;by_cases c7:0≤a2
   ·rw [if_pos c7] at H
    have c7b0:decide (0≤a2)=true:=decide_eq_true c7
    clear c7;by_cases c8:a2<(l1.length:Int)
    ·rw [if_pos c8] at H
     have c8b0:decide (a2<(l1.length:Int))=true:=decide_eq_true c8
     clear c8;replace H:=Option.bind_eq_some_iff.mp H;obtain ⟨t193,A90,H⟩:=H;(try dsimp only at H);have A9:=aK A90;clear A90;have H':=aK H;clear H;go_enter Try.func39,Try.ntmps39
     go_wp2_with (first|((with_reducible refine gate_callee (f:=80) rfl ?_);refine goesL_ (some 15) rfl rfl Try.func80 (by kernel_rfl) rfl #[.slice A0 l0.length c0,.slice A1 l1.length c1,.int .i64 a2,.int .i64 (l1.length:Int)] rfl zz2 ?_;(with_reducible refine (spec_l21Size.calls k _ _ l0 _ _ l1 a2 (l1.length:Int) t188 _ ?side1 ?side2 ?side3 ?side4 A4.out).mono ?_);(case side1=>exact zz46);(case side2=>exact HC0.out);(case side3=>exact (by repeat (first|exact HR1.out|(with_reducible refine Kd.C_alloc ?_ _)|(with_reducible refine Kd.C_drewN ?_ _)|(with_reducible refine Kd.C_drew ?_))));(case side4=>exact HC1.out);rintro e w10 ⟨rfl,hb⟩;refine ⟨_,rfl,?_⟩;replace HB:=aK (below_step zz1 hb);(try clear hb);(try clear hb2);(try clear hk);(try clear hi))|((with_reducible refine gate_dst (N:=16) rfl ?_);refine Kd.R_make Kd.bool _ 4 rfl (N:=16) rfl 25 _ _ rfl t188 rfl rfl Try.underlying25 (.bool false) 1 info4 rfl (by decide) (by omega) false (ok:=fun _=>True) (okp:=fun _=>True) rfl (fun _ hk=>hk) trivial (of_decide_eq_true zz3) (Nat.le_trans (Nat.mul_le_mul_right _ (of_decide_eq_true zz3:t188.toNat≤281474976710656)) (by omega)) (Below.refl _ _) (Nat.le_refl _) ?_;intro v190 w11 ho12 hb hg_ hnew_;clear hg_ hnew_;(first|rw [←Ny189.out] at ho12|(simp only [Int.reduceToNat] at ho12;rw [←Ny189.out] at ho12));have HO191:=aK (Kd.R_lower ho12 (below_size zz1));replace HB:=aK (below_step zz1 hb);clear hb ho12;have p192:0≤(a2:Int):=of_decide_eq_true zz3;have q192:a2<(l1.length:Int):=of_decide_eq_true zz3;obtain ⟨ad192,e192,hx192_0⟩:=Kd.at_int HR1.out a2 p192 q192;cases e192;replace hx192_0:=(HB.out.cell (World.block_lt_of_cell? w _ hx192_0)).trans hx192_0;replace p192:=eq_true p192;replace q192:=eq_true q192)|((with_reducible refine gate_callee (f:=78) rfl ?_);refine goesL_ (some 22) rfl rfl Try.func78 (by kernel_rfl) rfl #[.int .i64 (rd l1 a2)] rfl zz2 ?_;(with_reducible refine (spec_l21Head.calls (rd l1 a2) t193 _ A9.out).mono ?_);rintro e w' ⟨rfl,⟨nd,rfl⟩⟩;refine ⟨_,rfl,?_⟩))
     go_loopg [9] k (fun kq v9 w'=> ∃(x7_1:List Bool) (x9_1:Int),v9= .int .i64 x9_1∧Aside0 (spec_l21Refs.l0 kq l0 x7_1 (rd l1 a2) x9_1=some r)∧Aside0 (kq≤k)∧Aside0 (Kd.R Kd.bool 4 w' w.heap.size (fun _=>True) v190 x7_1)∧Aside0 (Below w.heap.size w w'))
     case atStart=>exact ⟨(y189),(t193),zz7,H',⟨Nat.le_refl _⟩,⟨by (with_reducible repeat (first|apply Kd.R_alloc|apply Kd.R_drewN|apply Kd.R_drew));exact HO191.out⟩,⟨by repeat (first|(with_reducible first|exact HB.out|apply below_alloc|apply pw_below_drewN|apply below_drew1)|exact HB.out)⟩⟩
     case round =>
      clear H';(try clear c1);(try clear p1);(try clear q1);(try clear hx1);(try clear p2);(try clear c3);(try clear c5);(try clear c5b0);(try clear c5b1);(try clear c6);(try clear c6b0);(try clear c6b1);(try clear c7);(try clear c7b0);(try clear c8);(try clear c8b0);(try clear hx192_0);(try clear p192);(try clear q192);obtain ⟨x7_1,x9_1,rfl,HA,HK1,HO_7,HB⟩:=hrel
      cases gk with
      |zero=>exact absurd HA.out (by simp [spec_l21Refs.l0])
      | succ k1 =>
       have H:=HA.out;clear HA;simp only [spec_l21Refs.l0] at H;by_cases c13:x9_1<(x7_1.length:Int)
       ·rw [if_pos c13] at H
        have c13b0:decide (x9_1<(x7_1.length:Int))=true:=decide_eq_true c13
        clear c13;by_cases c14:(rd l1 a2)=(-2)
        ·rw [if_pos c14] at H
         have c14b0:((rd l1 a2)==(-2))=true:=beq_iff_eq.mpr c14
         have c14b1:((rd l1 a2) !=(-2))=false:=bne_eq_false_iff_eq.mpr c14
         clear c14;by_cases c15:0≤x9_1
         ·rw [if_pos c15] at H
          have c15b0:decide (0≤x9_1)=true:=decide_eq_true c15
          clear c15;obtain ⟨y194,hy194⟩: ∃y_:List Bool,y_=(x7_1.set (x9_1:Int).toNat true):=⟨_,rfl⟩;replace H:(spec_l21Refs.l0 k1 l0 y194 (rd l1 a2) (wrap64 (x9_1+1)))=some r:=by first|(rw [hy194];with_reducible exact H)|(have H2_:=(Option.bind_some _ _).symm.trans H;rw [hy194];with_reducible exact H2_)|(have H2_:=(Option.bind_some _ _).symm.trans H;with_reducible exact H2_)|with_reducible exact H|(rw [hy194];exact H)|exact H
          have Ny194:=aK hy194;clear hy194;have H':=aK H;clear H;obtain ⟨Ao17,co17,eo17⟩:=Kd.R_slice HO_7.out;subst eo17;have p16:0≤(x9_1:Int):=of_decide_eq_true zz3
          have q16:(x9_1:Int)<((x7_1.length:Int):Int):=of_decide_eq_true zz3
          obtain ⟨go16,co16,eo16,gb16,gl16,cl16,HG16⟩:=Kd.R_form HO_7.out (by omega)
          (first|cases eo16|(injection eo16 with ea_ en_ ec_;(first|subst ea_|(injection ea_ with ea_;subst ea_));subst ec_;clear en_))
          have GB16:=aK gb16;have GG16:=aK HG16;clear gb16 gl16 HG16;obtain ⟨hx16_0,hf16_0⟩:=Kd.R_celln false HO_7.out (x9_1:Int) p16 q16;replace p16:=eq_true p16;replace q16:=eq_true q16;have HP18:=Kd.R_putg HO_7.out (x9_1:Int) true
          go_wp2_with (first|((with_reducible refine gate_store (t:=4) (p:=47) rfl ?_);refine store_event (t:=4) (p:=47) (v:=?vo_w19) (w1:=(wr.setCell ⟨go16,(x9_1:Int).toNat,none⟩ (.bool true))) ?hg ?ho ?hn ?hr ?_;(case ho=>rfl);(case hg=>rfl);(case hn=>rfl);(case hr=>first|(go_simp;done)|(go_simp;rfl)|((try (first|(obtain ⟨_,_,rfl⟩:=Kd.R_slice HO_7.out)|(obtain ⟨_,_,rfl⟩:=Kd.S_slice HO_7.out)));first|(go_simp;done)|(go_simp;rfl)));intro w19 hw;have hg:wr.grownBy w19 (some go16):=(by rw [hw];exact HP18.2);have hp_:Kd.R Kd.bool 4 w19 w.heap.size (fun _=>True) (.slice (some ⟨go16,0,none⟩) x7_1.length co17) y194:=(by rw [hw,Ny194.out];exact HP18.1);clear HP18;replace HO_7:=aK (hp_);replace HB:=aK ((by rw [hw];exact below_set (HB.out) GB16.out:Below w.heap.size w w19));clear hg hw hp_))
          go_roundg k1
          case measure=>have:=HK1.out;omega
          case rel=>exact ⟨(y194),(wrap64 (x9_1+1)),zz7,H',⟨by have:=HK1.out;omega⟩,⟨by (with_reducible repeat (first|apply Kd.R_alloc|apply Kd.R_drewN|apply Kd.R_drew));exact HO_7.out⟩,⟨by repeat (first|(with_reducible first|exact HB.out|apply below_alloc|apply pw_below_drewN|apply below_drew1)|exact HB.out)⟩⟩
         ·rw [if_neg c15] at H
          exact absurd H (by simp)
        ·rw [if_neg c14] at H
         have c14b0:((rd l1 a2)==(-2))=false:=beq_eq_false_iff_ne.mpr c14
         have c14b1:((rd l1 a2) !=(-2))=true:=bne_iff_ne.mpr c14
         by_cases c20:(rd l1 a2)≥0
         ·rw [if_pos c20] at H
          have c20b0:decide (0≤(rd l1 a2))=true:=decide_eq_true c20
          clear c20;replace H:=Option.bind_eq_some_iff.mp H;obtain ⟨t195,A210,H⟩:=H;(try dsimp only at H);have A21:=aK A210;clear A210;obtain ⟨ji22,hji22⟩: ∃j_:Int,(wrap64 (x9_1 - 1))=j_:=⟨_,rfl⟩;replace H:(if 0≤(ji22) then (if (ji22)<(t195.length:Int) then (if 0≤x9_1 then (spec_l21Refs.l0 k1 l0 (x7_1.set (x9_1:Int).toNat ((rd t195 (ji22)) !=1)) (rd l1 a2) (wrap64 (x9_1+1))) else (none)) else (none)) else (none))=some r:=by first|(rw [hji22] at H;exact H)|(simp only [hji22] at H ⊢;exact H)
          (try rw [hji22] at A21)
          have hji22w:(IntKind.i64.wrap (x9_1 - 1))=ji22:=(i64_w _).trans hji22
          by_cases c23:0≤(ji22)
          ·rw [if_pos c23] at H
           have c23b0:decide (0≤(ji22))=true:=decide_eq_true c23
           clear c23;by_cases c24:(ji22)<(t195.length:Int)
           ·rw [if_pos c24] at H
            have c24b0:decide ((ji22)<(t195.length:Int))=true:=decide_eq_true c24
            clear c24;by_cases c25:0≤x9_1
            ·rw [if_pos c25] at H
             have c25b0:decide (0≤x9_1)=true:=decide_eq_true c25
             clear c25;obtain ⟨y199,hy199⟩: ∃y_:List Bool,y_=(x7_1.set (x9_1:Int).toNat ((rd t195 (ji22)) !=1)):=⟨_,rfl⟩;replace H:(spec_l21Refs.l0 k1 l0 y199 (rd l1 a2) (wrap64 (x9_1+1)))=some r:=by first|(rw [hy199];with_reducible exact H)|(have H2_:=(Option.bind_some _ _).symm.trans H;rw [hy199];with_reducible exact H2_)|(have H2_:=(Option.bind_some _ _).symm.trans H;with_reducible exact H2_)|with_reducible exact H|(rw [hy199];exact H)|exact H
             have Ny199:=aK hy199;clear hy199;have H':=aK H;clear H;obtain ⟨Ao27,co27,eo27⟩:=Kd.R_slice HO_7.out;subst eo27
             go_wp2_with (first|(go_at_call 81;(with_reducible refine (spec_l2Fields.calls k1 _ _ l0 (rd l1 a2) t195 _ ?side1 ?side2 A21.out).mono ?_);(case side1=>exact zz4);(case side2=>exact HC0.out);rintro e w28 ⟨v196,rfl,ho0,hb⟩;have HO197:=aK (Kd.R_lower ho0 (below_size zz1));replace HO_7:=aK (Kd.R_below (by (with_reducible repeat (first|apply Kd.R_alloc|apply Kd.R_drewN|apply Kd.R_drew));exact HO_7.out) hb);replace HB:=aK (below_step zz1 hb);(try clear hb);(try clear hb2);(try clear hk);(try clear hi);(try clear ho0);obtain ⟨Ao29,co29,eo29⟩:=Kd.R_slice HO197.out;subst eo29;have p198:0≤((ji22):Int):=of_decide_eq_true zz3;have q198:(ji22)<(t195.length:Int):=of_decide_eq_true zz3;obtain ⟨ad198,e198,hx198_0⟩:=Kd.at_int (Kd.R_reads' HO197.out).2.2 (ji22) p198 q198;cases e198;replace p198:=eq_true p198;replace q198:=eq_true q198;have p26:0≤(x9_1:Int):=of_decide_eq_true zz3;have q26:(x9_1:Int)<((x7_1.length:Int):Int):=of_decide_eq_true zz3;obtain ⟨go26,co26,eo26,gb26,gl26,cl26,HG26⟩:=Kd.R_form HO_7.out (by omega);(first|cases eo26|(injection eo26 with ea_ en_ ec_;(first|subst ea_|(injection ea_ with ea_;subst ea_));subst ec_;clear en_));have GB26:=aK gb26;have GG26:=aK HG26;clear gb26 gl26 HG26;obtain ⟨hx26_0,hf26_0⟩:=Kd.R_celln false HO_7.out (x9_1:Int) p26 q26;replace p26:=eq_true p26;replace q26:=eq_true q26;obtain ⟨hy30_,hz30_⟩:=Kd.R_celln false HO_7.out (x9_1:Int) (of_decide_eq_true zz3) (of_decide_eq_true zz3);have HP30:=Kd.R_putg HO_7.out (x9_1:Int) ((rd t195 (ji22)) !=1))|((with_reducible refine gate_store (t:=4) (p:=47) rfl ?_);refine store_event (t:=4) (p:=47) (v:=?vo_w31) (w1:=(w28.setCell ⟨go26,(x9_1:Int).toNat,none⟩ (.bool ((rd t195 (ji22)) !=1)))) ?hg ?ho ?hn ?hr ?_;(case ho=>rfl);(case hg=>rfl);(case hn=>rfl);(case hr=>first|(go_simp;done)|(go_simp;rfl)|((try (first|(obtain ⟨_,_,rfl⟩:=Kd.R_slice HO197.out)|(obtain ⟨_,_,rfl⟩:=Kd.S_slice HO197.out)));(try (first|(obtain ⟨_,_,rfl⟩:=Kd.R_slice HO_7.out)|(obtain ⟨_,_,rfl⟩:=Kd.S_slice HO_7.out)));first|(go_simp;done)|(go_simp;rfl)));intro w31 hw;have hg:w28.grownBy w31 (some go26):=(by rw [hw];exact HP30.2);have hp_:Kd.R Kd.bool 4 w31 w.heap.size (fun _=>True) (.slice (some ⟨go26,0,none⟩) x7_1.length co27) y199:=(by rw [hw,Ny199.out];exact HP30.1);clear HP30;replace HO197:=aK (Kd.R_over' (v:=(.slice (some ⟨go26,0,none⟩) x7_1.length co27)) (by (with_reducible repeat (first|apply Kd.R_alloc|apply Kd.R_drewN|apply Kd.R_drew));exact HO197.out) (Kd.R_typed HO_7.out) (by decide) hg);replace HO_7:=aK (hp_);replace HB:=aK ((by rw [hw];exact below_set (HB.out) GB26.out:Below w.heap.size w w31));clear hg hw hp_))
             go_roundg k1
             case measure=>have:=HK1.out;omega
             case rel=>exact ⟨(y199),(wrap64 (x9_1+1)),zz7,H',⟨by have:=HK1.out;omega⟩,⟨by (with_reducible repeat (first|apply Kd.R_alloc|apply Kd.R_drewN|apply Kd.R_drew));exact HO_7.out⟩,⟨by repeat (first|(with_reducible first|exact HB.out|apply below_alloc|apply pw_below_drewN|apply below_drew1)|exact HB.out)⟩⟩
            ·rw [if_neg c25] at H
             exact absurd H (by simp)
           ·rw [if_neg c24] at H
            exact absurd H (by simp)
          ·rw [if_neg c23] at H
           exact absurd H (by simp)
         ·rw [if_neg c20] at H
          have c20b0:decide (0≤(rd l1 a2))=false:=decide_eq_false c20
          clear c20;by_cases c32:0≤x9_1
          ·rw [if_pos c32] at H
           have c32b0:decide (0≤x9_1)=true:=decide_eq_true c32
           clear c32;obtain ⟨y200,hy200⟩: ∃y_:List Bool,y_=(x7_1.set (x9_1:Int).toNat false):=⟨_,rfl⟩;replace H:(spec_l21Refs.l0 k1 l0 y200 (rd l1 a2) (wrap64 (x9_1+1)))=some r:=by first|(rw [hy200];with_reducible exact H)|(have H2_:=(Option.bind_some _ _).symm.trans H;rw [hy200];with_reducible exact H2_)|(have H2_:=(Option.bind_some _ _).symm.trans H;with_reducible exact H2_)|with_reducible exact H|(rw [hy200];exact H)|exact H
           have Ny200:=aK hy200;clear hy200;have H':=aK H;clear H;obtain ⟨Ao34,co34,eo34⟩:=Kd.R_slice HO_7.out;subst eo34;have p33:0≤(x9_1:Int):=of_decide_eq_true zz3
           have q33:(x9_1:Int)<((x7_1.length:Int):Int):=of_decide_eq_true zz3
           obtain ⟨go33,co33,eo33,gb33,gl33,cl33,HG33⟩:=Kd.R_form HO_7.out (by omega)
           (first|cases eo33|(injection eo33 with ea_ en_ ec_;(first|subst ea_|(injection ea_ with ea_;subst ea_));subst ec_;clear en_))
           have GB33:=aK gb33;have GG33:=aK HG33;clear gb33 gl33 HG33;obtain ⟨hx33_0,hf33_0⟩:=Kd.R_celln false HO_7.out (x9_1:Int) p33 q33;replace p33:=eq_true p33;replace q33:=eq_true q33;have HP35:=Kd.R_putg HO_7.out (x9_1:Int) false
           go_wp2_with (first|((with_reducible refine gate_store (t:=4) (p:=47) rfl ?_);refine store_event (t:=4) (p:=47) (v:=?vo_w36) (w1:=(wr.setCell ⟨go33,(x9_1:Int).toNat,none⟩ (.bool false))) ?hg ?ho ?hn ?hr ?_;(case ho=>rfl);(case hg=>rfl);(case hn=>rfl);(case hr=>first|(go_simp;done)|(go_simp;rfl)|((try (first|(obtain ⟨_,_,rfl⟩:=Kd.R_slice HO_7.out)|(obtain ⟨_,_,rfl⟩:=Kd.S_slice HO_7.out)));first|(go_simp;done)|(go_simp;rfl)));intro w36 hw;have hg:wr.grownBy w36 (some go33):=(by rw [hw];exact HP35.2);have hp_:Kd.R Kd.bool 4 w36 w.heap.size (fun _=>True) (.slice (some ⟨go33,0,none⟩) x7_1.length co34) y200:=(by rw [hw,Ny200.out];exact HP35.1);clear HP35;replace HO_7:=aK (hp_);replace HB:=aK ((by rw [hw];exact below_set (HB.out) GB33.out:Below w.heap.size w w36));clear hg hw hp_))
           go_roundg k1
           case measure=>have:=HK1.out;omega
           case rel=>exact ⟨(y200),(wrap64 (x9_1+1)),zz7,H',⟨by have:=HK1.out;omega⟩,⟨by (with_reducible repeat (first|apply Kd.R_alloc|apply Kd.R_drewN|apply Kd.R_drew));exact HO_7.out⟩,⟨by repeat (first|(with_reducible first|exact HB.out|apply below_alloc|apply pw_below_drewN|apply below_drew1)|exact HB.out)⟩⟩
          ·rw [if_neg c32] at H
           exact absurd H (by simp)
       ·rw [if_neg c13] at H
        have c13b0:decide (x9_1<(x7_1.length:Int))=false:=decide_eq_false c13
        clear c13;obtain rfl:=Option.some.inj H;obtain ⟨Ao37,co37,eo37⟩:=Kd.R_slice HO_7.out;subst eo37;go_wp2;go_ret;exact ⟨_,by first|rfl|(simp [errW_none,errW_some]<;>rfl)|(simp [*,errW_none,errW_some]<;>rfl),by (with_reducible repeat (first|apply Kd.R_alloc|apply Kd.R_drewN|apply Kd.R_drew));exact HO_7.out,by repeat (first|(with_reducible first|exact HB.out|apply below_alloc|apply pw_below_drewN|apply below_drew1)|exact HB.out)⟩
    ·rw [if_neg c8] at H
     exact absurd H (by simp)
   ·rw [if_neg c7] at H
    exact absurd H (by simp)
  ·rw [if_neg c6] at H
   exact absurd H (by simp)
 ·rw [if_neg c5] at H
  exact absurd H (by simp)
end Go.Proofs.Ytnlieahdakafbaa.K
namespace Go.Proofs.Ytnlieahdakafbaa.K
open Go.RowKit Go.Proofs.YtnlieahdakafbaaW.PrintWords Go.Proofs.YtnlieahdakafbaaW.PrintLast Go.Proofs.YtnlieahdakafbaaW.PrintMore
attribute [local go_sem] max2_int min2_int max_two min_two max_three min_three max_four min_four
set_option linter.unusedVariables false
set_option linter.unusedSimpArgs false
def spec_l21Put.f (l0_0:List Int) (a0_1:Int) (a0_2:Int) (a0_3:Int) (l0_4:List Bool) (a1:Int) (a2:Int) (a3:Bool):Option (List Int×Int×Int×Int×List Bool):=if 0≤a1 then (if a1<(l0_0.length:Int) then ((some (l0_0.set (a1:Int).toNat a2:List Int)).bind fun y203=>(if a3=true then (if a1≥a0_1 then ((spec_l6In.f a2 1 a0_1).bind fun t204=>(if t204=true then (if 0≤(wrap64 (Int.tdiv (wrap64 (a1 - a0_1)) 4)) then (if (wrap64 (Int.tdiv (wrap64 (a1 - a0_1)) 4))<(l0_4.length:Int) then (some (y203,a0_1,a0_2,a0_3,(l0_4.set ((wrap64 (Int.tdiv (wrap64 (a1 - a0_1)) 4)):Int).toNat true))) else (none)) else (none)) else (some (y203,a0_1,a0_2,a0_3,l0_4)))) else (some (y203,a0_1,a0_2,a0_3,l0_4))) else (some (y203,a0_1,a0_2,a0_3,l0_4)))) else (none)) else (none)
set_option maxHeartbeats 8000000 in
set_option maxRecDepth 100000 in
theorem spec_l21Put.calls (P0_0_:Nat→Prop) (u9000_:Value) (l0_0:List Int) (a0_1:Int) (a0_2:Int) (a0_3:Int) (P0_4_:Nat→Prop) (u9001_:Value) (l0_4:List Bool) (a1:Int) (a2:Int) (a3:Bool) (r1:List Int) (r2:Int) (r3:Int) (r4:Int) (r5:List Bool) (w0 w:World) (hB:Below w0.heap.size w0 w) (ho0_0:Kd.R (Kd.int .i64) 3 w w0.heap.size P0_0_ u9000_ l0_0) (ho0_4:Kd.R Kd.bool 4 w w0.heap.size P0_4_ u9001_ l0_4) (h:spec_l21Put.f l0_0 a0_1 a0_2 a0_3 l0_4 a1 a2 a3=some (r1,r2,r3,r4,r5)):
  Calls Try.prog 44 #[.agg #[u9000_,.int .i64 a0_1,.int .i64 a0_2,.int .i64 a0_3,u9001_],.int .i64 a1,.int .i64 a2,.bool a3] w fun e w'=> ∃v0_ v4_:Value,e= .returned (.agg #[v0_,.int .i64 r2,.int .i64 r3,.int .i64 r4,v4_])∧Kd.R (Kd.int .i64) 3 w' w0.heap.size (fun k_=>((P0_0_ k_∨P0_4_ k_)∨w.heap.size≤k_)) v0_ r1∧Kd.R Kd.bool 4 w' w0.heap.size (fun k_=>((P0_0_ k_∨P0_4_ k_)∨w.heap.size≤k_)) v4_ r5∧Below w0.heap.size w0 w'∧Kept w w' (fun k_=>P0_0_ k_∨P0_4_ k_):=by
 unfold spec_l21Put.f at h
 split at h
 case isFalse=>simp at h
 case isTrue h0=>
 split at h
 case isFalse=>simp at h
 case isTrue h1=>
 rw [Option.bind_some] at h;obtain ⟨gw,cw,hv,hbg,hlg,_⟩:=Kd.R_form ho0_0 (by omega);subst hv;obtain ⟨AC,cc,hv⟩:=Kd.R_slice ho0_4;subst hv;have hPg:P0_0_ gw:=ho0_0.1 gw (by simp [Value.ownBlock])
 have al:=below_alloc (below_alloc (Below.refl w.heap.size w) (.cells #[.slice (some ⟨gw,0,none⟩) l0_0.length cw,.int .i64 a0_1,.int .i64 a0_2,.int .i64 a0_3,.slice AC l0_4.length cc] 27 (0,0))) (.cells #[.slice none 0 0,.int .i64 0,.int .i64 0,.int .i64 0,.slice none 0 0] 27 (0,0));have BX:=aK (blk_alloc (blk_new w (.cells #[.slice (some ⟨gw,0,none⟩) l0_0.length cw,.int .i64 a0_1,.int .i64 a0_2,.int .i64 a0_3,.slice AC l0_4.length cc] 27 (0,0))) (.cells #[.slice none 0 0,.int .i64 0,.int .i64 0,.int .i64 0,.slice none 0 0] 27 (0,0)));have BZ:=aK (alloc_two w (.cells #[.slice (some ⟨gw,0,none⟩) l0_0.length cw,.int .i64 a0_1,.int .i64 a0_2,.int .i64 a0_3,.slice AC l0_4.length cc] 27 (0,0)) (.cells #[.slice none 0 0,.int .i64 0,.int .i64 0,.int .i64 0,.slice none 0 0] 27 (0,0)));have R0:=aK (Kd.R_below ho0_0 al);have R4:=aK (Kd.R_below ho0_4 al);have HK:=aK (Kept.of_below al (fun k_=>P0_0_ k_∨P0_4_ k_));have HB:=aK (below_then hB hB.size al);have HH:=aK h;have HL:=aK (show w0.heap.size≤gw∧gw<w.heap.size∧P0_0_ gw∧w0.heap.size≤w.heap.size from ⟨hbg,hlg,hPg,hB.size⟩);have H01:=aK (show 0≤a1∧a1<(l0_0.length:Int) from ⟨h0,h1⟩);clear h al hB;go_enter Try.func44,Try.ntmps44
 go_upto_region 1 with fail
 (try simp only [Act.put,List.setIfInBounds_toArray,List.set_cons_zero,List.set_cons_succ])
 generalize ((w.alloc (.cells #[.slice (some ⟨gw,0,none⟩) l0_0.length cw,.int .i64 a0_1,.int .i64 a0_2,.int .i64 a0_3,.slice AC l0_4.length cc] 27 (0,0))).alloc (.cells #[.slice none 0 0,.int .i64 0,.int .i64 0,.int .i64 0,.slice none 0 0] 27 (0,0)))=W1 at BX BZ R0 R4 HK HB ⊢;have x0:=(blk_cell BX.out 0).trans rfl;have x1:=(blk_cell BX.out 1).trans rfl;have x2:=(blk_cell BX.out 2).trans rfl;have x3:=(blk_cell BX.out 3).trans rfl;have x4:=(blk_cell BX.out 4).trans rfl;have p1:=eq_true h0;have p2:=eq_true h1;obtain ⟨xq,fq⟩:=Kd.R_cell (enc:=Value.int .i64) (h1:=fun _=>rfl) 0 R0.out a1 h0 h1;obtain ⟨R0n,hgr⟩:=Kd.R_putg (enc:=Value.int .i64) (h1:=fun _=>rfl) R0.out a1 a2;have R4n:=Kd.R_over R4.out R0.out (by decide) (by simpa [Value.ownBlock] using hgr);have BXn:=blk_far BX.out (show w.heap.size≠gw by omega) (p:=⟨gw,a1.toNat,none⟩) (.int .i64 a2);have BZn:=blk_far BZ.out (show w.heap.size+1≠gw by omega) (p:=⟨gw,a1.toNat,none⟩) (.int .i64 a2);have HKn:=HK.out.setCell (p:=⟨gw,a1.toNat,none⟩) (.inl (.inl hPg)) (.int .i64 a2);have HBn:=HB.out.setCell (p:=⟨gw,a1.toNat,none⟩) hbg (.int .i64 a2);have PX:=aK BXn;have PZ:=aK BZn;have Q0:=aK R0n;have Q4:=aK R4n;have QK:=aK HKn;have QB:=aK HBn;clear R0n hgr R4n BXn BZn HKn HBn h0 h1 hbg hlg hPg ho0_0 ho0_4 BX BZ R0 R4 HK HB
 go_upto_region 2 with fail
 (try simp only [Act.put,List.setIfInBounds_toArray,List.set_cons_zero,List.set_cons_succ])
 clear x0 x1 x2 x3 x4 xq fq p1 p2;generalize W1.setCell ⟨gw,a1.toNat,none⟩ (.int .i64 a2)=W2 at PX PZ Q0 Q4 QK QB ⊢;have hh:=HH.out;clear HH;by_cases c1:a3=true
 ·subst c1
  rw [if_pos rfl] at hh;by_cases c2:a1≥a0_1
  ·rw [if_pos c2] at hh
   have d2:decide (a1≥a0_1)=true:=decide_eq_true c2
   have d2':decide (a0_1≤a1)=true:=d2
   obtain ⟨t,ht,hh⟩:=Option.bind_eq_some_iff.mp hh;have HT:=aK ht;clear ht
   cases t with
   |false=>
    rw [if_neg (by simp)] at hh;simp only [Option.some.injEq,Prod.mk.injEq] at hh;obtain ⟨rfl,rfl,rfl,rfl,rfl⟩:=hh;have x0:=(blk_cell PX.out 0).trans rfl;have x1:=(blk_cell PX.out 1).trans rfl;have x2:=(blk_cell PX.out 2).trans rfl;have x3:=(blk_cell PX.out 3).trans rfl;have x4:=(blk_cell PX.out 4).trans rfl
    go_wp2_with fail
    (go_at_call 79;refine (spec_l6In.calls a2 1 a0_1 false _ HT.out).mono ?_;rintro e w3 ⟨rfl,hd_⟩;have hb:=hd_.below;replace PX:=aK (blk_below PX.out hb);replace PZ:=aK (blk_below PZ.out hb);replace Q0:=aK (Kd.R_below Q0.out hb);replace Q4:=aK (Kd.R_below Q4.out hb);replace QK:=aK (QK.out.below hb);replace QB:=aK (below_then QB.out QB.out.size hb);clear hb hd_ x0 x1 x2 x3 x4)
    have x0:=(blk_cell PX.out 0).trans rfl;have x1:=(blk_cell PX.out 1).trans rfl;have x2:=(blk_cell PX.out 2).trans rfl;have x3:=(blk_cell PX.out 3).trans rfl;have x4:=(blk_cell PX.out 4).trans rfl;have z0:=(blk_cell PZ.out 0).trans rfl;have z1:=(blk_cell PZ.out 1).trans rfl;have z2:=(blk_cell PZ.out 2).trans rfl;have z3:=(blk_cell PZ.out 3).trans rfl;have z4:=(blk_cell PZ.out 4).trans rfl;have y0:=blk_frozen PZ.out 0;have y1:=blk_frozen PZ.out 1;have y2:=blk_frozen PZ.out 2;have y3:=blk_frozen PZ.out 3;have y4:=blk_frozen PZ.out 4;go_wp2;refine bodyPost_ret (results_cell_row rfl _ _ (w.heap.size+1) 27 #[.slice (some ⟨gw,0,none⟩) l0_0.length cw,.int .i64 a0_1,.int .i64 a0_2,.int .i64 a0_3,.slice AC l0_4.length cc] (0,0) _ rfl (blk_box5 PZ.out) Try.underlying27 rfl (by kernel_rfl)) rfl ?_;exact ⟨_,_,rfl,Kd.R_mono (R_box5t Q0.out PZ.out (by decide)) (fun k_ hk_=> .inl (.inl hk_)),Kd.R_mono (R_box5t Q4.out PZ.out (by decide)) (fun k_ hk_=> .inl (.inr hk_)),below_box5b QB.out zz38,kept_box5 QK.out (by omega)⟩
   |true=>
    rw [if_pos rfl] at hh
    split at hh
    case isFalse=>simp at hh
    case isTrue h3=>
    split at hh
    case isFalse=>simp at hh
    case isTrue h4=>
    obtain ⟨c,hc⟩: ∃c,c=wrap64 (Int.tdiv (wrap64 (a1 - a0_1)) 4):=⟨_,rfl⟩;rw [←hc] at hh h3 h4;simp only [Option.some.injEq,Prod.mk.injEq] at hh;obtain ⟨rfl,rfl,rfl,rfl,rfl⟩:=hh;have q1:IntKind.i64.wrap (Int.tdiv (wrap64 (a1 - a0_1)) 4)=c:=(i64_w _).trans hc.symm
    have p3:=eq_true h3;have p4:=eq_true h4;obtain ⟨gc,c4,hv,hbg,hlg,_⟩:=Kd.R_form Q4.out (by omega);injection hv with e1 e2 e3;subst e1 e3;have hPc:P0_4_ gc:=Q4.out.1 gc (by simp [Value.ownBlock])
    have x0:=(blk_cell PX.out 0).trans rfl;have x1:=(blk_cell PX.out 1).trans rfl;have x2:=(blk_cell PX.out 2).trans rfl;have x3:=(blk_cell PX.out 3).trans rfl;have x4:=(blk_cell PX.out 4).trans rfl
    go_wp2_with fail
    (go_at_call 79;refine (spec_l6In.calls a2 1 a0_1 true _ HT.out).mono ?_;rintro e w3 ⟨rfl,hd_⟩;have hb:=hd_.below;replace PX:=aK (blk_below PX.out hb);replace PZ:=aK (blk_below PZ.out hb);replace Q0:=aK (Kd.R_below Q0.out hb);replace Q4:=aK (Kd.R_below Q4.out hb);replace QK:=aK (QK.out.below hb);replace QB:=aK (below_then QB.out QB.out.size hb);clear hb hd_ x0 x1 x2 x3 x4)
    obtain ⟨g_,cap_,hv_,_,hlc,_⟩:=Kd.R_form Q4.out (by omega);have x0:=(blk_cell PX.out 0).trans rfl;have x1:=(blk_cell PX.out 1).trans rfl;have x2:=(blk_cell PX.out 2).trans rfl;have x3:=(blk_cell PX.out 3).trans rfl;have x4:=(blk_cell PX.out 4).trans rfl;obtain ⟨xq,fq⟩:=Kd.R_cell (enc:=Value.bool) (h1:=fun _=>rfl) false Q4.out c h3 h4;obtain ⟨R4n,hgr⟩:=Kd.R_putg (enc:=Value.bool) (h1:=fun _=>rfl) Q4.out c true;have R0n:=Kd.R_over Q0.out Q4.out (by decide) (by simpa [Value.ownBlock] using hgr);have hg1:=types_ne PX.out Q4.out (by decide);have hg2:=types_ne PZ.out Q4.out (by decide);have UX:=aK (blk_far PX.out hg1 (p:=⟨gc,c.toNat,none⟩) (.bool true));have UZ:=aK (blk_far PZ.out hg2 (p:=⟨gc,c.toNat,none⟩) (.bool true));have UK:=aK (QK.out.setCell (p:=⟨gc,c.toNat,none⟩) (.inl (.inr hPc)) (.bool true));have UB:=aK (QB.out.setCell (p:=⟨gc,c.toNat,none⟩) hbg (.bool true));have U0:=aK R0n;have U4:=aK R4n;clear R0n R4n hgr hg1 hg2 hbg hlg hlc hPc e2 hc h3 h4 hv_ PX PZ Q0 Q4 QK QB
    go_upto_region 4 with fail
    (try simp only [Act.put,List.setIfInBounds_toArray,List.set_cons_zero,List.set_cons_succ])
    clear x0 x1 x2 x3 x4 xq fq p3 p4;generalize w3.setCell ⟨gc,c.toNat,none⟩ (.bool true)=W4 at UX UZ U0 U4 UK UB ⊢;have x0:=(blk_cell UX.out 0).trans rfl;have x1:=(blk_cell UX.out 1).trans rfl;have x2:=(blk_cell UX.out 2).trans rfl;have x3:=(blk_cell UX.out 3).trans rfl;have x4:=(blk_cell UX.out 4).trans rfl;have z0:=(blk_cell UZ.out 0).trans rfl;have z1:=(blk_cell UZ.out 1).trans rfl;have z2:=(blk_cell UZ.out 2).trans rfl;have z3:=(blk_cell UZ.out 3).trans rfl;have z4:=(blk_cell UZ.out 4).trans rfl;have y0:=blk_frozen UZ.out 0;have y1:=blk_frozen UZ.out 1;have y2:=blk_frozen UZ.out 2;have y3:=blk_frozen UZ.out 3;have y4:=blk_frozen UZ.out 4;go_wp2;refine bodyPost_ret (results_cell_row rfl _ _ (w.heap.size+1) 27 #[.slice (some ⟨gw,0,none⟩) l0_0.length cw,.int .i64 a0_1,.int .i64 a0_2,.int .i64 a0_3,.slice (some ⟨gc,0,none⟩) l0_4.length cc] (0,0) _ rfl (blk_box5 UZ.out) Try.underlying27 rfl (by kernel_rfl)) rfl ?_;exact ⟨_,_,rfl,Kd.R_mono (R_box5t U0.out UZ.out (by decide)) (fun k_ hk_=> .inl (.inl hk_)),Kd.R_mono (R_box5t U4.out UZ.out (by decide)) (fun k_ hk_=> .inl (.inr hk_)),below_box5b UB.out zz38,kept_box5 UK.out (by omega)⟩
  ·rw [if_neg c2] at hh
   have d2:decide (a1≥a0_1)=false:=decide_eq_false c2
   have d2':decide (a0_1≤a1)=false:=d2
   simp only [Option.some.injEq,Prod.mk.injEq] at hh;obtain ⟨rfl,rfl,rfl,rfl,rfl⟩:=hh;have x0:=(blk_cell PX.out 0).trans rfl;have x1:=(blk_cell PX.out 1).trans rfl;have x2:=(blk_cell PX.out 2).trans rfl;have x3:=(blk_cell PX.out 3).trans rfl;have x4:=(blk_cell PX.out 4).trans rfl;have z0:=(blk_cell PZ.out 0).trans rfl;have z1:=(blk_cell PZ.out 1).trans rfl;have z2:=(blk_cell PZ.out 2).trans rfl;have z3:=(blk_cell PZ.out 3).trans rfl;have z4:=(blk_cell PZ.out 4).trans rfl;have y0:=blk_frozen PZ.out 0;have y1:=blk_frozen PZ.out 1;have y2:=blk_frozen PZ.out 2;have y3:=blk_frozen PZ.out 3;have y4:=blk_frozen PZ.out 4;go_wp2;refine bodyPost_ret (results_cell_row rfl _ _ (w.heap.size+1) 27 #[.slice (some ⟨gw,0,none⟩) l0_0.length cw,.int .i64 a0_1,.int .i64 a0_2,.int .i64 a0_3,.slice AC l0_4.length cc] (0,0) _ rfl (blk_box5 PZ.out) Try.underlying27 rfl (by kernel_rfl)) rfl ?_;exact ⟨_,_,rfl,Kd.R_mono (R_box5t Q0.out PZ.out (by decide)) (fun k_ hk_=> .inl (.inl hk_)),Kd.R_mono (R_box5t Q4.out PZ.out (by decide)) (fun k_ hk_=> .inl (.inr hk_)),below_box5b QB.out zz38,kept_box5 QK.out (by omega)⟩
 ·have c1' : a3 = false := by simpa using c1
  subst c1';rw [if_neg (by simp)] at hh;simp only [Option.some.injEq,Prod.mk.injEq] at hh;obtain ⟨rfl,rfl,rfl,rfl,rfl⟩:=hh;have x0:=(blk_cell PX.out 0).trans rfl;have x1:=(blk_cell PX.out 1).trans rfl;have x2:=(blk_cell PX.out 2).trans rfl;have x3:=(blk_cell PX.out 3).trans rfl;have x4:=(blk_cell PX.out 4).trans rfl;have z0:=(blk_cell PZ.out 0).trans rfl;have z1:=(blk_cell PZ.out 1).trans rfl;have z2:=(blk_cell PZ.out 2).trans rfl;have z3:=(blk_cell PZ.out 3).trans rfl;have z4:=(blk_cell PZ.out 4).trans rfl;have y0:=blk_frozen PZ.out 0;have y1:=blk_frozen PZ.out 1;have y2:=blk_frozen PZ.out 2;have y3:=blk_frozen PZ.out 3;have y4:=blk_frozen PZ.out 4;go_wp2;refine bodyPost_ret (results_cell_row rfl _ _ (w.heap.size+1) 27 #[.slice (some ⟨gw,0,none⟩) l0_0.length cw,.int .i64 a0_1,.int .i64 a0_2,.int .i64 a0_3,.slice AC l0_4.length cc] (0,0) _ rfl (blk_box5 PZ.out) Try.underlying27 rfl (by kernel_rfl)) rfl ?_;exact ⟨_,_,rfl,Kd.R_mono (R_box5t Q0.out PZ.out (by decide)) (fun k_ hk_=> .inl (.inl hk_)),Kd.R_mono (R_box5t Q4.out PZ.out (by decide)) (fun k_ hk_=> .inl (.inr hk_)),below_box5b QB.out zz38,kept_box5 QK.out (by omega)⟩
end Go.Proofs.Ytnlieahdakafbaa.K
namespace Go.Proofs.Ytnlieahdakafbaa.Pure
open Go.RowKit Go.Proofs.Ytnlieahdakafbaa.K Go.Proofs.YtnlieahdakafbaaW.PrintWords Go.Proofs.YtnlieahdakafbaaW.PrintLast Go.Proofs.YtnlieahdakafbaaW.PrintMore
set_option linter.unusedVariables false
set_option linter.unusedSimpArgs false
theorem spec_l6In_eq (a b c:Int):spec_l6In.f a b c=some (decide (b≤a∧a≤c)):=by
 unfold spec_l6In.f;by_cases h:a≥b
 ·rw [if_pos h];simp [show b≤a from h]
 ·rw [if_neg h];simp [show¬b≤a from h]
end Go.Proofs.Ytnlieahdakafbaa.Pure
namespace Go.Proofs.Ytnlieahdakafbaa.Pure
open Go.RowKit Go.Proofs.Ytnlieahdakafbaa.K Go.Proofs.YtnlieahdakafbaaW.PrintWords Go.Proofs.YtnlieahdakafbaaW.PrintLast Go.Proofs.YtnlieahdakafbaaW.PrintMore
set_option linter.unusedVariables false
set_option linter.unusedSimpArgs false
def putM (ws:List Int) (y:Int) (cards:List Bool) (i v:Int) (ref:Bool):List Int×List Bool:=
  (ws.set i.toNat v,if ref=true∧i≥y∧1≤v∧v≤y then cards.set ((i - y)/4).toNat true else cards)
theorem l21Put_eq {ws:List Int} {y t o:Int} {cards:List Bool} {i v:Int} (ref:Bool) (hn:ws.length≤1048576) (hi0:0≤i) (hi:i<ws.length) (hy:0≤y) (hy1:y≤40) (hcd:i≥y→(i - y)/4<(cards.length:Int)):
  spec_l21Put.f ws y t o cards i v ref=some ((putM ws y cards i v ref).1,y,t,o,(putM ws y cards i v ref).2):=by
 unfold spec_l21Put.f putM;rw [if_pos hi0,if_pos hi,Option.bind_some]
 cases ref with
 |false=>simp
 | true =>
  rw [if_pos rfl];by_cases c1:i≥y
  ·rw [if_pos c1, spec_l6In_eq]
   simp only [Option.bind_some,decide_eq_true_eq]
   by_cases c2:1≤v∧v≤y
   ·have := hcd c1
    rw [if_pos c2,wrap64_of (n:=i - y) (by omega) (by omega),Int.tdiv_eq_ediv_of_nonneg (by omega),wrap64_of (n:=(i - y)/4) (by omega) (by omega),if_pos (by omega),if_pos this,if_pos ⟨trivial,c1,c2⟩]
   ·rw [if_neg c2,if_neg (fun h=>c2 h.2.2)]
  ·rw [if_neg c1,if_neg (fun h=>c1 h.2.1)]
end Go.Proofs.Ytnlieahdakafbaa.Pure
namespace Go.Proofs.Ytnlieahdakafbaa.K
open Go.RowKit Go.Proofs.YtnlieahdakafbaaW.PrintWords Go.Proofs.YtnlieahdakafbaaW.PrintLast Go.Proofs.YtnlieahdakafbaaW.PrintMore
attribute [local go_sem] max2_int min2_int max_two min_two max_three min_three max_four min_four
set_option linter.unusedVariables false
set_option linter.unusedSimpArgs false
open Go.Proofs.Ytnlieahdakafbaa.Pure
set_option maxHeartbeats 16000000 in
set_option maxRecDepth 100000 in
theorem put_any (b gw cW gc cC:Nat) (ws:List Int) (y t o:Int) (cards:List Bool) (i v:Int) (ref:Bool) (w:World) (h:OM b gw cW gc cC w ws cards) (hn:ws.length≤1048576) (h0:0≤i) (h1:i<ws.length) (hy:0≤y∧y≤40) (hcd:i≥y→(i - y)/4<(cards.length:Int)):
  Calls Try.prog 44 #[.agg #[.slice (some ⟨gw,0,none⟩) ws.length cW,.int .i64 y,.int .i64 t,.int .i64 o,.slice (some ⟨gc,0,none⟩) cards.length cC],.int .i64 i,.int .i64 v,.bool ref] w fun e w'=>e= .returned (.agg #[.slice (some ⟨gw,0,none⟩) ws.length cW,.int .i64 y,.int .i64 t,.int .i64 o,.slice (some ⟨gc,0,none⟩) cards.length cC])∧OM b gw cW gc cC w' (putM ws y cards i v ref).1 (putM ws y cards i v ref).2∧Ch (fun k=>k=gw∨k=gc) w w':=by
 have HO:=aK h;have H1:=aK (show (0≤i∧i<ws.length)∧ws.length≤1048576∧(0≤y∧y≤40)∧(i≥y→(i - y)/4<(cards.length:Int)) from ⟨⟨h0,h1⟩,hn,hy,hcd⟩);have HGW:=aK (show gw<w.heap.size∧gc<w.heap.size∧gw≠gc from ⟨h.bw.2,h.bc.2,h.ne⟩);have p1:=eq_true h0;have p2:=eq_true h1;clear h hn h0 h1 hy hcd
 cases ref with
 |false=>
  rw [show putM ws y cards i v false=(ws.set i.toNat v,cards) from by unfold putM;rw [if_neg (by simp)]];go_enter Try.func44,Try.ntmps44
  go_wp2_with (first|((with_reducible refine gate_dst (N:=4) rfl ?_);refine box_event ?hg (N:=4) ?hd (cs:= #[.slice (some ⟨gw,0,none⟩) ws.length cW,.int .i64 y,.int .i64 t,.int .i64 o,.slice (some ⟨gc,0,none⟩) cards.length cC]) (t:=27) ?hr ?_;(case hd=>rfl);(case hg=>rfl);(case hr=>first|(go_simp;done)|(go_simp;rfl));intro gp hg w1 hbox hb;have BP:=aK hbox;have HCh:=aK ((Ch.refl (fun k=>k=gw∨k=gc) w).below hb);have HGp:=aK (show w.heap.size≤gp by rw [hg];exact Nat.le_refl _);have HC0:=aK ((Ch.refl (fun _=>False) w).below hb);clear hb hbox hg)|((with_reducible refine gate_dst (N:=8) rfl ?_);refine box_event ?hg (N:=8) ?hd (cs:= #[.slice none 0 0,.int .i64 0,.int .i64 0,.int .i64 0,.slice none 0 0]) (t:=27) ?hr ?_;(case hd=>rfl);(case hg=>rfl);(case hr=>first|(go_simp;done)|(go_simp;rfl));intro gr hg w2 hbox hb;have BR:=aK hbox;have HGr:=aK (show w.heap.size≤gr∧gp<gr by have:=HCh.out.size;have:=blk_lt BP.out;rw [hg];exact ⟨by omega,by omega⟩);replace BP:=aK (blk_below BP.out hb);replace HCh:=aK (HCh.out.below hb);replace HC0:=aK (HC0.out.below hb);have HO2:=aK (HO.out.ch HC0.out (fun h=>h) (fun h=>h));have c0:=(blk_cell BP.out 0).trans rfl;have c1:=(blk_cell BP.out 1).trans rfl;have c2:=(blk_cell BP.out 2).trans rfl;have c3:=(blk_cell BP.out 3).trans rfl;have c4:=(blk_cell BP.out 4).trans rfl;obtain ⟨x0,f0⟩:=HO2.out.wcell i H1.out.1.1 H1.out.1.2;clear hb hbox hg)|((with_reducible refine gate_store (t:=3) (p:=13) rfl ?_);refine store_event (t:=3) (p:=13) (v:=?vo1) (w1:=(w2.setCell ⟨gw,i.toNat,none⟩ (.int .i64 v))) ?hg ?ho ?hn ?hr ?_;(case ho=>rfl);(case hg=>rfl);(case hn=>rfl);(case hr=>first|(go_simp;done)|(go_simp;rfl));intro w3 hw;have HO3:=aK (show OM b gw cW gc cC w3 (ws.set i.toNat v) cards by rw [hw];exact HO2.out.setw i v);have HC3:=aK (show Ch (fun k=>k=gw∨k=gc) w w3 by rw [hw];exact HCh.out.set (.inl (.inl rfl)) _);have BP3:=aK (show w3.heap[gp]? =some (.cells #[.slice (some ⟨gw,0,none⟩) ws.length cW,.int .i64 y,.int .i64 t,.int .i64 o,.slice (some ⟨gc,0,none⟩) cards.length cC] 27 (0,0)) by rw [hw];exact blk_far BP.out (by have:=HGp.out;have:=HGW.out;show gp≠gw;omega) _);have BR3:=aK (show w3.heap[gr]? =some (.cells #[.slice none 0 0,.int .i64 0,.int .i64 0,.int .i64 0,.slice none 0 0] 27 (0,0)) by rw [hw];exact blk_far BR.out (by have:=HGr.out;have:=HGW.out;show gr≠gw;omega) _);clear hw x0 f0 HO2 HCh BP BR HC0;clear c0 c1 c2 c3 c4;have c0:=(blk_cell BP3.out 0).trans rfl;have c1:=(blk_cell BP3.out 1).trans rfl;have c2:=(blk_cell BP3.out 2).trans rfl;have c3:=(blk_cell BP3.out 3).trans rfl;have c4:=(blk_cell BP3.out 4).trans rfl;have z0:=(blk_cell BR3.out 0).trans rfl;have z1:=(blk_cell BR3.out 1).trans rfl;have z2:=(blk_cell BR3.out 2).trans rfl;have z3:=(blk_cell BR3.out 3).trans rfl;have z4:=(blk_cell BR3.out 4).trans rfl;have y_0:=blk_frozen BR3.out 0;have y_1:=blk_frozen BR3.out 1;have y_2:=blk_frozen BR3.out 2;have y_3:=blk_frozen BR3.out 3;have y_4:=blk_frozen BR3.out 4))
  refine bodyPost_ret (results_cell_row rfl _ _ gr 27 #[.slice (some ⟨gw,0,none⟩) ws.length cW,.int .i64 y,.int .i64 t,.int .i64 o,.slice (some ⟨gc,0,none⟩) cards.length cC] (0,0) _ rfl (blk_box5 BR3.out) Try.underlying27 rfl (by kernel_rfl)) rfl ?_;exact ⟨rfl,HO3.out.ch (Ch.box5 (Ch.refl (fun k=>k=gr) _) (.inl rfl) _ _ _ _ _) zz25 zz25,HC3.out.box5 (.inr HGr.out.1) _ _ _ _ _⟩
 | true =>
  by_cases c1:y≤i
  ·have d1 : decide (y ≤ i) = true := decide_eq_true c1
   by_cases c2:1≤v∧v≤y
   ·skip
    have HV:=aK (show decide (1≤v∧v≤y)=true from decide_eq_true c2);rw [show putM ws y cards i v true=(ws.set i.toNat v,cards.set ((i - y)/4).toNat true) from by unfold putM;rw [if_pos ⟨rfl,by omega,c2⟩]];go_enter Try.func44,Try.ntmps44;have h_:=H1.out;have hcd_:=h_.2.2.2 c1;obtain ⟨E,hE⟩: ∃E,E=(i - y)/4:=⟨_,rfl⟩;have q1:IntKind.i64.wrap (i - y)=i - y:=IntWalk.i64_in _ (by omega)
    have q2:Int.tdiv (i - y) 4=E:=by rw [Int.tdiv_eq_ediv_of_nonneg (by omega),hE]
    have q2':(i - y)/4=E:=hE.symm
    have q3:IntKind.i64.wrap E=E:=IntWalk.i64_in _ (by omega)
    rw [q2'];have p3:=eq_true (show 0≤E by omega);have p4:=eq_true (show E<(cards.length:Int) by omega);have HE:=aK (show 0≤E∧E<(cards.length:Int) by omega);clear h_ hcd_ hE c1 c2
    go_wp2_with (first|((with_reducible refine gate_dst (N:=4) rfl ?_);refine box_event ?hg (N:=4) ?hd (cs:= #[.slice (some ⟨gw,0,none⟩) ws.length cW,.int .i64 y,.int .i64 t,.int .i64 o,.slice (some ⟨gc,0,none⟩) cards.length cC]) (t:=27) ?hr ?_;(case hd=>rfl);(case hg=>rfl);(case hr=>first|(go_simp;done)|(go_simp;rfl));intro gp hg w1 hbox hb;have BP:=aK hbox;have HCh:=aK ((Ch.refl (fun k=>k=gw∨k=gc) w).below hb);have HGp:=aK (show w.heap.size≤gp by rw [hg];exact Nat.le_refl _);have HC0:=aK ((Ch.refl (fun _=>False) w).below hb);clear hb hbox hg)|((with_reducible refine gate_dst (N:=8) rfl ?_);refine box_event ?hg (N:=8) ?hd (cs:= #[.slice none 0 0,.int .i64 0,.int .i64 0,.int .i64 0,.slice none 0 0]) (t:=27) ?hr ?_;(case hd=>rfl);(case hg=>rfl);(case hr=>first|(go_simp;done)|(go_simp;rfl));intro gr hg w2 hbox hb;have BR:=aK hbox;have HGr:=aK (show w.heap.size≤gr∧gp<gr by have:=HCh.out.size;have:=blk_lt BP.out;rw [hg];exact ⟨by omega,by omega⟩);replace BP:=aK (blk_below BP.out hb);replace HCh:=aK (HCh.out.below hb);replace HC0:=aK (HC0.out.below hb);have HO2:=aK (HO.out.ch HC0.out (fun h=>h) (fun h=>h));have c0:=(blk_cell BP.out 0).trans rfl;have c1:=(blk_cell BP.out 1).trans rfl;have c2:=(blk_cell BP.out 2).trans rfl;have c3:=(blk_cell BP.out 3).trans rfl;have c4:=(blk_cell BP.out 4).trans rfl;obtain ⟨x0,f0⟩:=HO2.out.wcell i H1.out.1.1 H1.out.1.2;clear hb hbox hg)|((with_reducible refine gate_store (t:=3) (p:=13) rfl ?_);refine store_event (t:=3) (p:=13) (v:=?vo1) (w1:=(w2.setCell ⟨gw,i.toNat,none⟩ (.int .i64 v))) ?hg ?ho ?hn ?hr ?_;(case ho=>rfl);(case hg=>rfl);(case hn=>rfl);(case hr=>first|(go_simp;done)|(go_simp;rfl));intro w3 hw;have HO3:=aK (show OM b gw cW gc cC w3 (ws.set i.toNat v) cards by rw [hw];exact HO2.out.setw i v);have HC3:=aK (show Ch (fun k=>k=gw∨k=gc) w w3 by rw [hw];exact HCh.out.set (.inl (.inl rfl)) _);have BP3:=aK (show w3.heap[gp]? =some (.cells #[.slice (some ⟨gw,0,none⟩) ws.length cW,.int .i64 y,.int .i64 t,.int .i64 o,.slice (some ⟨gc,0,none⟩) cards.length cC] 27 (0,0)) by rw [hw];exact blk_far BP.out (by have:=HGp.out;have:=HGW.out;show gp≠gw;omega) _);have BR3:=aK (show w3.heap[gr]? =some (.cells #[.slice none 0 0,.int .i64 0,.int .i64 0,.int .i64 0,.slice none 0 0] 27 (0,0)) by rw [hw];exact blk_far BR.out (by have:=HGr.out;have:=HGW.out;show gr≠gw;omega) _);clear hw x0 f0 HO2 HCh BP BR HC0;clear c0 c1 c2 c3 c4;have c0:=(blk_cell BP3.out 0).trans rfl;have c1:=(blk_cell BP3.out 1).trans rfl;have c2:=(blk_cell BP3.out 2).trans rfl;have c3:=(blk_cell BP3.out 3).trans rfl;have c4:=(blk_cell BP3.out 4).trans rfl;obtain ⟨x1,f1⟩:=HO3.out.ccell E HE.out.1 HE.out.2)|(go_at_call 79;refine (spec_l6In.calls v 1 y true _ (by rw [spec_l6In_eq,HV.out])).mono ?_;rintro e w' ⟨rfl,⟨nd,rfl⟩⟩)|((with_reducible refine gate_store (t:=4) (p:=34) rfl ?_);refine store_event (t:=4) (p:=34) (v:=?vo2) (w1:=((w3.drewN nd).setCell ⟨gc,E.toNat,none⟩ (.bool true))) ?hg ?ho ?hn ?hr ?_;(case ho=>rfl);(case hg=>rfl);(case hn=>rfl);(case hr=>first|(go_simp;done)|(go_simp;rfl));intro w4 hw;have HO4:=aK (show OM b gw cW gc cC w4 (ws.set i.toNat v) (cards.set E.toNat true) by rw [hw];exact (HO3.out.ch ((Ch.refl (fun _=>False) _).drewN nd) (fun h=>h) (fun h=>h)).setc E true);have HC4:=aK (show Ch (fun k=>k=gw∨k=gc) w w4 by rw [hw];exact (HC3.out.drewN nd).set (.inl (.inr rfl)) _);have BP4:=aK (show w4.heap[gp]? =some (.cells #[.slice (some ⟨gw,0,none⟩) ws.length cW,.int .i64 y,.int .i64 t,.int .i64 o,.slice (some ⟨gc,0,none⟩) cards.length cC] 27 (0,0)) by rw [hw];exact blk_far (blk_drewN BP3.out nd) (by have:=HGp.out;have:=HGW.out;show gp≠gc;omega) _);have BR4:=aK (show w4.heap[gr]? =some (.cells #[.slice none 0 0,.int .i64 0,.int .i64 0,.int .i64 0,.slice none 0 0] 27 (0,0)) by rw [hw];exact blk_far (blk_drewN BR3.out nd) (by have:=HGr.out;have:=HGW.out;show gr≠gc;omega) _);clear hw x1 f1 HO3 HC3 BP3 BR3;clear c0 c1 c2 c3 c4;have c0:=(blk_cell BP4.out 0).trans rfl;have c1:=(blk_cell BP4.out 1).trans rfl;have c2:=(blk_cell BP4.out 2).trans rfl;have c3:=(blk_cell BP4.out 3).trans rfl;have c4:=(blk_cell BP4.out 4).trans rfl;have z0:=(blk_cell BR4.out 0).trans rfl;have z1:=(blk_cell BR4.out 1).trans rfl;have z2:=(blk_cell BR4.out 2).trans rfl;have z3:=(blk_cell BR4.out 3).trans rfl;have z4:=(blk_cell BR4.out 4).trans rfl;have y_0:=blk_frozen BR4.out 0;have y_1:=blk_frozen BR4.out 1;have y_2:=blk_frozen BR4.out 2;have y_3:=blk_frozen BR4.out 3;have y_4:=blk_frozen BR4.out 4))
    refine bodyPost_ret (results_cell_row rfl _ _ gr 27 #[.slice (some ⟨gw,0,none⟩) ws.length cW,.int .i64 y,.int .i64 t,.int .i64 o,.slice (some ⟨gc,0,none⟩) cards.length cC] (0,0) _ rfl (blk_box5 BR4.out) Try.underlying27 rfl (by kernel_rfl)) rfl ?_;exact ⟨rfl,HO4.out.ch (Ch.box5 (Ch.refl (fun k=>k=gr) _) (.inl rfl) _ _ _ _ _) zz25 zz25,HC4.out.box5 (.inr HGr.out.1) _ _ _ _ _⟩
   ·skip
    have HV:=aK (show decide (1≤v∧v≤y)=false from decide_eq_false c2);rw [show putM ws y cards i v true=(ws.set i.toNat v,cards) from by unfold putM;rw [if_neg (fun h=>c2 h.2.2)]];go_enter Try.func44,Try.ntmps44;clear c1 c2
    go_wp2_with (first|((with_reducible refine gate_dst (N:=4) rfl ?_);refine box_event ?hg (N:=4) ?hd (cs:= #[.slice (some ⟨gw,0,none⟩) ws.length cW,.int .i64 y,.int .i64 t,.int .i64 o,.slice (some ⟨gc,0,none⟩) cards.length cC]) (t:=27) ?hr ?_;(case hd=>rfl);(case hg=>rfl);(case hr=>first|(go_simp;done)|(go_simp;rfl));intro gp hg w1 hbox hb;have BP:=aK hbox;have HCh:=aK ((Ch.refl (fun k=>k=gw∨k=gc) w).below hb);have HGp:=aK (show w.heap.size≤gp by rw [hg];exact Nat.le_refl _);have HC0:=aK ((Ch.refl (fun _=>False) w).below hb);clear hb hbox hg)|((with_reducible refine gate_dst (N:=8) rfl ?_);refine box_event ?hg (N:=8) ?hd (cs:= #[.slice none 0 0,.int .i64 0,.int .i64 0,.int .i64 0,.slice none 0 0]) (t:=27) ?hr ?_;(case hd=>rfl);(case hg=>rfl);(case hr=>first|(go_simp;done)|(go_simp;rfl));intro gr hg w2 hbox hb;have BR:=aK hbox;have HGr:=aK (show w.heap.size≤gr∧gp<gr by have:=HCh.out.size;have:=blk_lt BP.out;rw [hg];exact ⟨by omega,by omega⟩);replace BP:=aK (blk_below BP.out hb);replace HCh:=aK (HCh.out.below hb);replace HC0:=aK (HC0.out.below hb);have HO2:=aK (HO.out.ch HC0.out (fun h=>h) (fun h=>h));have c0:=(blk_cell BP.out 0).trans rfl;have c1:=(blk_cell BP.out 1).trans rfl;have c2:=(blk_cell BP.out 2).trans rfl;have c3:=(blk_cell BP.out 3).trans rfl;have c4:=(blk_cell BP.out 4).trans rfl;obtain ⟨x0,f0⟩:=HO2.out.wcell i H1.out.1.1 H1.out.1.2;clear hb hbox hg)|((with_reducible refine gate_store (t:=3) (p:=13) rfl ?_);refine store_event (t:=3) (p:=13) (v:=?vo1) (w1:=(w2.setCell ⟨gw,i.toNat,none⟩ (.int .i64 v))) ?hg ?ho ?hn ?hr ?_;(case ho=>rfl);(case hg=>rfl);(case hn=>rfl);(case hr=>first|(go_simp;done)|(go_simp;rfl));intro w3 hw;have HO3:=aK (show OM b gw cW gc cC w3 (ws.set i.toNat v) cards by rw [hw];exact HO2.out.setw i v);have HC3:=aK (show Ch (fun k=>k=gw∨k=gc) w w3 by rw [hw];exact HCh.out.set (.inl (.inl rfl)) _);have BP3:=aK (show w3.heap[gp]? =some (.cells #[.slice (some ⟨gw,0,none⟩) ws.length cW,.int .i64 y,.int .i64 t,.int .i64 o,.slice (some ⟨gc,0,none⟩) cards.length cC] 27 (0,0)) by rw [hw];exact blk_far BP.out (by have:=HGp.out;have:=HGW.out;show gp≠gw;omega) _);have BR3:=aK (show w3.heap[gr]? =some (.cells #[.slice none 0 0,.int .i64 0,.int .i64 0,.int .i64 0,.slice none 0 0] 27 (0,0)) by rw [hw];exact blk_far BR.out (by have:=HGr.out;have:=HGW.out;show gr≠gw;omega) _);clear hw x0 f0 HO2 HCh BP BR HC0;clear c0 c1 c2 c3 c4;have c0:=(blk_cell BP3.out 0).trans rfl;have c1:=(blk_cell BP3.out 1).trans rfl;have c2:=(blk_cell BP3.out 2).trans rfl;have c3:=(blk_cell BP3.out 3).trans rfl;have c4:=(blk_cell BP3.out 4).trans rfl;have z0:=(blk_cell BR3.out 0).trans rfl;have z1:=(blk_cell BR3.out 1).trans rfl;have z2:=(blk_cell BR3.out 2).trans rfl;have z3:=(blk_cell BR3.out 3).trans rfl;have z4:=(blk_cell BR3.out 4).trans rfl;have y_0:=blk_frozen BR3.out 0;have y_1:=blk_frozen BR3.out 1;have y_2:=blk_frozen BR3.out 2;have y_3:=blk_frozen BR3.out 3;have y_4:=blk_frozen BR3.out 4)|(go_at_call 79;refine (spec_l6In.calls v 1 y false _ (by rw [spec_l6In_eq,HV.out])).mono ?_;rintro e w' ⟨rfl,⟨nd,rfl⟩⟩;have HO4:=aK (HO3.out.ch ((Ch.refl (fun _=>False) _).drewN nd) (fun h=>h) (fun h=>h));have HC4:=aK (HC3.out.drewN nd);have BR4:=aK (blk_drewN BR3.out nd)))
    refine bodyPost_ret (results_cell_row rfl _ _ gr 27 #[.slice (some ⟨gw,0,none⟩) ws.length cW,.int .i64 y,.int .i64 t,.int .i64 o,.slice (some ⟨gc,0,none⟩) cards.length cC] (0,0) _ rfl (blk_box5 BR4.out) Try.underlying27 rfl (by kernel_rfl)) rfl ?_;exact ⟨rfl,HO4.out.ch (Ch.box5 (Ch.refl (fun k=>k=gr) _) (.inl rfl) _ _ _ _ _) zz25 zz25,HC4.out.box5 (.inr HGr.out.1) _ _ _ _ _⟩
  ·skip
   have d1:decide (y≤i)=false:=decide_eq_false c1
   rw [show putM ws y cards i v true=(ws.set i.toNat v,cards) from by unfold putM;rw [if_neg (by omega)]];go_enter Try.func44,Try.ntmps44;clear c1
   go_wp2_with (first|((with_reducible refine gate_dst (N:=4) rfl ?_);refine box_event ?hg (N:=4) ?hd (cs:= #[.slice (some ⟨gw,0,none⟩) ws.length cW,.int .i64 y,.int .i64 t,.int .i64 o,.slice (some ⟨gc,0,none⟩) cards.length cC]) (t:=27) ?hr ?_;(case hd=>rfl);(case hg=>rfl);(case hr=>first|(go_simp;done)|(go_simp;rfl));intro gp hg w1 hbox hb;have BP:=aK hbox;have HCh:=aK ((Ch.refl (fun k=>k=gw∨k=gc) w).below hb);have HGp:=aK (show w.heap.size≤gp by rw [hg];exact Nat.le_refl _);have HC0:=aK ((Ch.refl (fun _=>False) w).below hb);clear hb hbox hg)|((with_reducible refine gate_dst (N:=8) rfl ?_);refine box_event ?hg (N:=8) ?hd (cs:= #[.slice none 0 0,.int .i64 0,.int .i64 0,.int .i64 0,.slice none 0 0]) (t:=27) ?hr ?_;(case hd=>rfl);(case hg=>rfl);(case hr=>first|(go_simp;done)|(go_simp;rfl));intro gr hg w2 hbox hb;have BR:=aK hbox;have HGr:=aK (show w.heap.size≤gr∧gp<gr by have:=HCh.out.size;have:=blk_lt BP.out;rw [hg];exact ⟨by omega,by omega⟩);replace BP:=aK (blk_below BP.out hb);replace HCh:=aK (HCh.out.below hb);replace HC0:=aK (HC0.out.below hb);have HO2:=aK (HO.out.ch HC0.out (fun h=>h) (fun h=>h));have c0:=(blk_cell BP.out 0).trans rfl;have c1:=(blk_cell BP.out 1).trans rfl;have c2:=(blk_cell BP.out 2).trans rfl;have c3:=(blk_cell BP.out 3).trans rfl;have c4:=(blk_cell BP.out 4).trans rfl;obtain ⟨x0,f0⟩:=HO2.out.wcell i H1.out.1.1 H1.out.1.2;clear hb hbox hg)|((with_reducible refine gate_store (t:=3) (p:=13) rfl ?_);refine store_event (t:=3) (p:=13) (v:=?vo1) (w1:=(w2.setCell ⟨gw,i.toNat,none⟩ (.int .i64 v))) ?hg ?ho ?hn ?hr ?_;(case ho=>rfl);(case hg=>rfl);(case hn=>rfl);(case hr=>first|(go_simp;done)|(go_simp;rfl));intro w3 hw;have HO3:=aK (show OM b gw cW gc cC w3 (ws.set i.toNat v) cards by rw [hw];exact HO2.out.setw i v);have HC3:=aK (show Ch (fun k=>k=gw∨k=gc) w w3 by rw [hw];exact HCh.out.set (.inl (.inl rfl)) _);have BP3:=aK (show w3.heap[gp]? =some (.cells #[.slice (some ⟨gw,0,none⟩) ws.length cW,.int .i64 y,.int .i64 t,.int .i64 o,.slice (some ⟨gc,0,none⟩) cards.length cC] 27 (0,0)) by rw [hw];exact blk_far BP.out (by have:=HGp.out;have:=HGW.out;show gp≠gw;omega) _);have BR3:=aK (show w3.heap[gr]? =some (.cells #[.slice none 0 0,.int .i64 0,.int .i64 0,.int .i64 0,.slice none 0 0] 27 (0,0)) by rw [hw];exact blk_far BR.out (by have:=HGr.out;have:=HGW.out;show gr≠gw;omega) _);clear hw x0 f0 HO2 HCh BP BR HC0;clear c0 c1 c2 c3 c4;have c0:=(blk_cell BP3.out 0).trans rfl;have c1:=(blk_cell BP3.out 1).trans rfl;have c2:=(blk_cell BP3.out 2).trans rfl;have c3:=(blk_cell BP3.out 3).trans rfl;have c4:=(blk_cell BP3.out 4).trans rfl;have z0:=(blk_cell BR3.out 0).trans rfl;have z1:=(blk_cell BR3.out 1).trans rfl;have z2:=(blk_cell BR3.out 2).trans rfl;have z3:=(blk_cell BR3.out 3).trans rfl;have z4:=(blk_cell BR3.out 4).trans rfl;have y_0:=blk_frozen BR3.out 0;have y_1:=blk_frozen BR3.out 1;have y_2:=blk_frozen BR3.out 2;have y_3:=blk_frozen BR3.out 3;have y_4:=blk_frozen BR3.out 4))
   refine bodyPost_ret (results_cell_row rfl _ _ gr 27 #[.slice (some ⟨gw,0,none⟩) ws.length cW,.int .i64 y,.int .i64 t,.int .i64 o,.slice (some ⟨gc,0,none⟩) cards.length cC] (0,0) _ rfl (blk_box5 BR3.out) Try.underlying27 rfl (by kernel_rfl)) rfl ?_;exact ⟨rfl,HO3.out.ch (Ch.box5 (Ch.refl (fun k=>k=gr) _) (.inl rfl) _ _ _ _ _) zz25 zz25,HC3.out.box5 (.inr HGr.out.1) _ _ _ _ _⟩
end Go.Proofs.Ytnlieahdakafbaa.K
namespace Go.Proofs.Ytnlieahdakafbaa.K
open Go.RowKit Go.Proofs.YtnlieahdakafbaaW.PrintWords Go.Proofs.YtnlieahdakafbaaW.PrintLast Go.Proofs.YtnlieahdakafbaaW.PrintMore
attribute [local go_sem] max2_int min2_int max_two min_two max_three min_three max_four min_four
set_option linter.unusedVariables false
set_option linter.unusedSimpArgs false
def impl_classFields.f:Nat→List (S112)→Int→Option (List Int)
  |0,_,_=>none
  |k+1,l0,a1=>if a1=0 then (some ([]:List Int)) else (if 0≤a1 then (if a1<(l0.length:Int) then ((impl_classFields.f k l0 ((rd_T112 l0 a1).f0)).bind fun t326=>(if t326.length+((rd_T112 l0 a1).f1).length<17592186044416 then (some (t326++((rd_T112 l0 a1).f1))) else (none))) else (none)) else (none))
def impl_classFields.T3:Bool×List (List Nat×List Nat):=(true,[([],[]),([],[]),([],[]),([1,2],[1,2]),([3],[3]),([4],[4]),([0,5],[0,5]),([],[]),([],[]),([7,8],[7,8]),([9],[9]),([10],[10]),([6,11,6],[6,11]),([12,12,0,1,2,3,4,5,6,7,8,9,10,11,12],[12])])
def impl_classFields.B3:List Nat:=[0,0,0,6,14,30,63,0,0,384,896,1920,4095,8191]
theorem impl_classFields.tab3:rtab .any (opsOf Try.f105 3)=impl_classFields.T3:=by kernel_rfl
theorem impl_classFields.bits3:waitsOk impl_classFields.T3.2 impl_classFields.B3=true:=by kernel_rfl
set_option maxHeartbeats 8000000 in
set_option maxRecDepth 100000 in
theorem impl_classFields.calls (k:Nat): ∀(A0:Option Addr) (c0:Nat) (l0:List (S112)) (a1:Int) (r:List Int) (w:World) (hr0:Kd.C k112 w A0 l0.length l0) (hc0:l0.length≤c0) (h:impl_classFields.f k l0 a1=some r),
  Calls Try.prog 105 #[.slice A0 l0.length c0,.int .i64 a1] w fun e w'=> ∃v0_:Value,e= .returned (v0_)∧Kd.R (Kd.int .i64) 3 w' w.heap.size (fun _=>True) v0_ r∧Below w.heap.size w w':=by
 induction k using Nat.strongRecOn with
 |_ k ih=>
 intro A0 c0 l0 a1 r w hr0 hc0 h
 cases k with
 |zero=>exact absurd h (by simp [impl_classFields.f])
 |succ k=>
 simp only [impl_classFields.f] at h;have HR0:=aK hr0;have HC0:=aK hc0;clear hr0 hc0;have HB:=aK (Below.refl w.heap.size w);have H:(if a1=0 then (some ([]:List Int)) else (if 0≤a1 then (if a1<(l0.length:Int) then ((impl_classFields.f k l0 ((rd_T112 l0 a1).f0)).bind fun t326=>(if t326.length+((rd_T112 l0 a1).f1).length<17592186044416 then (some (t326++((rd_T112 l0 a1).f1))) else (none))) else (none)) else (none)))=some r:=h
 clear h;by_cases c3:a1=0
 ·rw [if_pos c3] at H
  have c3b0:(a1==0)=true:=beq_iff_eq.mpr c3
  have c3b1:(a1 !=0)=false:=bne_eq_false_iff_eq.mpr c3
  clear c3;obtain rfl:=Option.some.inj H;go_enter Try.func105,Try.ntmps105;go_wp2;go_ret;exact ⟨_,by first|rfl|(simp [errW_none,errW_some]<;>rfl)|(simp [*,errW_none,errW_some]<;>rfl),by first|exact Kd.R_nil _ _ _ _ _|exact Kd.N_nil _ _ _ _ _|exact Kd.V_nil _ _ _ _ _|exact Kd.Q_nil _ _ _ _ _|exact Kd.S_nil _ _ _ _ _,by repeat (first|(with_reducible first|exact HB.out|apply below_alloc|apply pw_below_drewN|apply below_drew1)|exact HB.out)⟩
 ·rw [if_neg c3] at H
  have c3b0:(a1==0)=false:=beq_eq_false_iff_ne.mpr c3
  have c3b1:(a1 !=0)=true:=bne_iff_ne.mpr c3
  by_cases c4:0≤a1
  ·rw [if_pos c4] at H
   have c4b0:decide (0≤a1)=true:=decide_eq_true c4
   clear c4;by_cases c5:a1<(l0.length:Int)
   ·rw [if_pos c5] at H
    have c5b0:decide (a1<(l0.length:Int))=true:=decide_eq_true c5
    clear c5;replace H:=Option.bind_eq_some_iff.mp H;obtain ⟨t326,A60,H⟩:=H;(try dsimp only at H);have A6:=aK A60;clear A60;by_cases c7:t326.length+((rd_T112 l0 a1).f1).length<17592186044416
    ·rw [if_pos c7] at H
     have LMc7:=aK c7;clear c7;obtain ⟨y330,hy330⟩: ∃y_:List Int,y_=(t326++((rd_T112 l0 a1).f1)):=⟨_,rfl⟩;replace H:(some y330)=some r:=by first|(rw [hy330];with_reducible exact H)|(have H2_:=(Option.bind_some _ _).symm.trans H;rw [hy330];with_reducible exact H2_)|(have H2_:=(Option.bind_some _ _).symm.trans H;with_reducible exact H2_)|with_reducible exact H|(rw [hy330];exact H)|exact H
     have Ny330:=aK hy330;clear hy330;obtain rfl:=Option.some.inj H;go_enter Try.func105,Try.ntmps105;try go_wp2
     have n0_:=aK (below_drew1 HB.out);clear HB;have HB:=n0_;clear n0_;have p325:0≤(a1:Int):=of_decide_eq_true zz3
     have q325:a1<(l0.length:Int):=of_decide_eq_true zz3
     obtain ⟨ad325,A325_1,c325_1,e325,hx325_0,hx325_1,hl325_1,hi325_1⟩:=at_T112 HR0.out a1 p325 q325;have hw325_1:=hx325_1;have hw325_0:=hx325_0
     cases e325
     replace hx325_0:=(HB.out.cell (World.block_lt_of_cell? w _ hx325_0)).trans hx325_0;replace hx325_1:=(HB.out.cell (World.block_lt_of_cell? w _ hx325_1)).trans hx325_1;have HR325_1:=aK hi325_1;have HC325_1:=aK hl325_1;clear hi325_1 hl325_1;replace p325:=eq_true p325;replace q325:=eq_true q325;have p329:0≤(a1:Int):=of_decide_eq_true zz3
     have q329:a1<(l0.length:Int):=of_decide_eq_true zz3
     obtain ⟨ad329,A329_1,c329_1,e329,hx329_0,hx329_1,hl329_1,hi329_1⟩:=at_T112 HR0.out a1 p329 q329;have hw329_1:=hx329_1;have hw329_0:=hx329_0;obtain rfl:ad325=ad329:=(by injection e329);replace hx329_0:=(HB.out.cell (World.block_lt_of_cell? w _ hx329_0)).trans hx329_0;replace hx329_1:=(HB.out.cell (World.block_lt_of_cell? w _ hx329_1)).trans hx329_1;have HR329_1:=aK hi329_1;have HC329_1:=aK hl329_1;clear hi329_1 hl329_1;replace p329:=eq_true p329;replace q329:=eq_true q329;have ea_:=Option.some.inj (hx325_1.symm.trans hx329_1);injection ea_ with ea_ en_ ec_;subst ea_;subst ec_;clear en_;refine sT 14 (S:=fun w'=>w'.cell? (ad325.add ((a1).toNat*2))=some (.int .i64 ((rd_T112 l0 a1).f0))∧w'.cell? ⟨(ad325.add ((a1).toNat*2)).block,(ad325.add ((a1).toNat*2)).off+1,none⟩=some (.slice A325_1 ((rd_T112 l0 a1).f1).length c325_1)∧w'.cell? (ad325.add ((a1).toNat*2))=some (.int .i64 ((rd_T112 l0 a1).f0))∧w'.cell? ⟨(ad325.add ((a1).toNat*2)).block,(ad325.add ((a1).toNat*2)).off+1,none⟩=some (.slice A325_1 ((rd_T112 l0 a1).f1).length c325_1)) (ds:=[]) ⟨((HB.out.cell (World.block_lt_of_cell? w _ hw325_0)).trans hw325_0),((HB.out.cell (World.block_lt_of_cell? w _ hw325_1)).trans hw325_1),((HB.out.cell (World.block_lt_of_cell? w _ hw329_0)).trans hw329_0),((HB.out.cell (World.block_lt_of_cell? w _ hw329_1)).trans hw329_1)⟩ (fun hHeld=>?_);refine with_tabW impl_classFields.tab3 impl_classFields.bits3 (fun HT_ HW_=>?_);generalize w.drew=w8 at HB HR325_1 HR329_1 hx325_0 hx325_1 hx329_0 hx329_1 hHeld ⊢;refine pT 0 7 (lA 14 1) HT_ ?_;refine pT 1 8 (lA 14 3) HT_ ?_;refine pT 2 9 (lA 14 7) HT_ ?_;refine pT 3 10 (lA 14 15) HT_ ?_;refine pT 4 11 (lA 14 31) HT_ ?_;refine pT 7 14 (lA 14 159) HT_ ?_;refine pT 8 15 (lA 14 415) HT_ ?_;refine pT 9 16 (lA 14 927) HT_ ?_;refine pT 10 17 (lA 14 1951) HT_ ?_;refine tS 5 12 (lA 14 1983) rfl rfl (take_ofW HT_.out HW_.out (by kernel_rfl)) hHeld zz32 ?_;refine tS 11 18 (lA 14 4031) rfl rfl (take_ofW HT_.out HW_.out (by kernel_rfl)) hHeld zz32 ?_;refine one_ (i:=6) (N:=some 13) (lA 14 4095) rfl rfl (one_of HT_.out (by kernel_rfl)) (by decide) (fun K hK=>?_);refine goes_ Try.func105 (by kernel_rfl) rfl #[.slice (some ad325) l0.length c0,.int .i64 ((rd_T112 l0 a1).f0)] (by rfl) rfl rfl zz2 ?_;(with_reducible refine (ih k (by omega) _ _ l0 ((rd_T112 l0 a1).f0) t326 _ ?side1 ?side2 A6.out).mono ?_)
     (case side1=>exact zz4)
     (case side2=>exact HC0.out)
     rintro e w9 ⟨v327,rfl,ho0,hb⟩;refine ⟨_,rfl,?_⟩;have n0_:=aK (Kd.R_lower ho0 (below_size zz1));have n1_:=aK (below_step zz1 hb);clear HB;have HO328:=n0_;have HB:=n1_;clear n0_ n1_;(try clear hb);(try clear hb2);(try clear hk);(try clear hi);(try clear ho0);refine hK.out _ _ ⟨((HB.out.cell (World.block_lt_of_cell? w _ hw325_0)).trans hw325_0),((HB.out.cell (World.block_lt_of_cell? w _ hw325_1)).trans hw325_1),((HB.out.cell (World.block_lt_of_cell? w _ hw329_0)).trans hw329_0),((HB.out.cell (World.block_lt_of_cell? w _ hw329_1)).trans hw329_1)⟩ (fun hHeld=>?_);clear hK K;refine nS 13 ?_;refine one_ (i:=12) (N:=some 19) (lA 14 8191) rfl rfl (one_of HT_.out (by kernel_rfl)) (by decide) (fun K hK=>?_);refine Kd.R_append_rows_step (Kd.int .i64) (w0:=w) w.heap.size (by rfl) (.tmp 13) (.tmp 18) 24 3 (.int .i64 0) 8 rfl Try.underlying24 info3 rfl (by decide) (by omega) v327 t326 ((rd_T112 l0 a1).f1) _ _ _ (fun _=>True) (fun _=>False) rfl rfl ?aO ?aR (fun _ _ h=>h) (fun _ h=>h.elim) ?aF ?aB ?aS ?aL ?_
     (case aR=>repeat (first|exact (Kd.C_below HR329_1.out HB.out)|(with_reducible refine Kd.C_alloc ?_ _)|(with_reducible refine Kd.C_drewN ?_ _)|(with_reducible refine Kd.C_drew ?_)))
     (case aB=>exact zz1)
     (case aF=>exact (fun _ _=>trivial))
     (case aO=>exact (by (with_reducible repeat (first|apply Kd.R_alloc|apply Kd.R_drewN|apply Kd.R_drew));exact HO328.out))
     (case aS=>exact (below_size zz1))
     (case aL=>have:=LMc7.out;omega)
     intro v331 w10 ho hb hg hat;rw [←Ny330.out] at ho;have n0_:=aK (hb);have n1_:=aK (ho);clear HB;clear HO328;have HB:=n0_;have HO332:=n1_;clear n0_ n1_;clear ho hb hg hat;refine hK.out _ _ ⟨((HB.out.cell (World.block_lt_of_cell? w _ hw325_0)).trans hw325_0),((HB.out.cell (World.block_lt_of_cell? w _ hw325_1)).trans hw325_1),((HB.out.cell (World.block_lt_of_cell? w _ hw329_0)).trans hw329_0),((HB.out.cell (World.block_lt_of_cell? w _ hw329_1)).trans hw329_1)⟩ (fun hHeld=>?_);clear hK K;refine nS 19 ?_;refine pT 13 4 (lA 14 16383) HT_ ?_;refine done_ (done_of HT_.out (by kernel_rfl)) ?_;try go_wp2
     go_ret;exact ⟨_,by first|rfl|(simp [errW_none,errW_some]<;>rfl)|(simp [*,errW_none,errW_some]<;>rfl),by (with_reducible repeat (first|apply Kd.R_alloc|apply Kd.R_drewN|apply Kd.R_drew));exact HO332.out,by repeat (first|(with_reducible first|exact HB.out|apply below_alloc|apply pw_below_drewN|apply below_drew1)|exact HB.out)⟩
    ·rw [if_neg c7] at H
     exact absurd H (by simp)
   ·rw [if_neg c5] at H
    exact absurd H (by simp)
  ·rw [if_neg c4] at H
   exact absurd H (by simp)
end Go.Proofs.Ytnlieahdakafbaa.K
namespace Go.Proofs.Ytnlieahdakafbaa.K
open Go.RowKit Go.Proofs.YtnlieahdakafbaaW.PrintWords Go.Proofs.YtnlieahdakafbaaW.PrintLast Go.Proofs.YtnlieahdakafbaaW.PrintMore
attribute [local go_sem] max2_int min2_int max_two min_two max_three min_three max_four min_four
set_option linter.unusedVariables false
set_option linter.unusedSimpArgs false
def impl_allFields.l0:Nat→List (S112)→List (List Int)→Int→Int→Option ((List (List Int)))
  |0,_,_,_,_=>none
  |k+1,x0,x3,x6,x7=>if x7<x6 then ((impl_classFields.f k x0 x7).bind fun t333=>(if x3.length<5864062014805 then (impl_allFields.l0 k x0 (x3++[t333]) x6 (wrap64 (x7+1))) else (none))) else (some x3)
def impl_allFields.f (k:Nat) (l0:List (S112)):Option ((List (List Int))):=impl_allFields.l0 k l0 ([]:List (List Int)) (l0.length:Int) 0
set_option maxHeartbeats 8000000 in
set_option maxRecDepth 100000 in
theorem impl_allFields.calls (k:Nat) (A0:Option Addr) (c0:Nat) (l0:List (S112)) (r:List (List Int)) (w:World) (hr0:Kd.C k112 w A0 l0.length l0) (hc0:l0.length≤c0) (h:impl_allFields.f k l0=some r):
  Calls Try.prog 68 #[.slice A0 l0.length c0] w fun e w'=> ∃v0_:Value,e= .returned (v0_)∧Kd.S (Kd.slice 3 (Kd.int .i64)) 24 w' w.heap.size (fun _=>True) v0_ r∧Below w.heap.size w w':=by
 have HR0:=aK hr0;have HC0:=aK hc0;clear hr0 hc0;have HB:=aK (Below.refl w.heap.size w);have H:(impl_allFields.l0 k l0 ([]:List (List Int)) (l0.length:Int) 0)=some r:=h
 clear h;have H':=aK H;clear H;go_enter Try.func68,Try.ntmps68;go_wp2
 go_loopg [3,7] k (fun kq v3 v7 w'=> ∃(x3_1:List (List Int)) (x7_1:Int),v7= .int .i64 x7_1∧Aside0 (impl_allFields.l0 kq l0 x3_1 (l0.length:Int) x7_1=some r)∧Aside0 (kq≤k)∧Aside0 (Kd.S (Kd.slice 3 (Kd.int .i64)) 24 w' w.heap.size (fun _=>True) v3 x3_1)∧Aside0 (Below w.heap.size w w'))
 case atStart=>exact ⟨(([]:List (List Int))),(0),zz7,H',⟨Nat.le_refl _⟩,⟨by first|exact Kd.S_nil _ _ _ _ _|exact Kd.N_nil _ _ _ _ _|exact Kd.V_nil _ _ _ _ _|exact Kd.Q_nil _ _ _ _ _|exact Kd.R_nil _ _ _ _ _⟩,⟨by repeat (first|(with_reducible first|exact HB.out|apply below_alloc|apply pw_below_drewN|apply below_drew1)|exact HB.out)⟩⟩
 case round=>
  clear H';obtain ⟨x3_1,x7_1,rfl,HA,HK1,HO_3,HB⟩:=hrel
  cases gk with
  |zero=>exact absurd HA.out (by simp [impl_allFields.l0])
  | succ k1 =>
   have H:=HA.out;clear HA;simp only [impl_allFields.l0] at H;by_cases c2:x7_1<(l0.length:Int)
   ·rw [if_pos c2] at H
    have c2b0:decide (x7_1<(l0.length:Int))=true:=decide_eq_true c2
    clear c2;replace H:=Option.bind_eq_some_iff.mp H;obtain ⟨t333,A30,H⟩:=H;(try dsimp only at H);have A3:=aK A30;clear A30;by_cases c4:x3_1.length<5864062014805
    ·rw [if_pos c4] at H
     have LMc4:=aK c4;clear c4;obtain ⟨y336,hy336⟩: ∃y_:List (List Int),y_=(x3_1++[t333]):=⟨_,rfl⟩;replace H:(impl_allFields.l0 k1 l0 y336 (l0.length:Int) (wrap64 (x7_1+1)))=some r:=by first|(rw [hy336];with_reducible exact H)|(have H2_:=(Option.bind_some _ _).symm.trans H;rw [hy336];with_reducible exact H2_)|(have H2_:=(Option.bind_some _ _).symm.trans H;with_reducible exact H2_)|with_reducible exact H|(rw [hy336];exact H)|exact H
     have Ny336:=aK hy336;clear hy336;have H':=aK H;clear H
     go_wp2_with (first|((with_reducible refine gate_callee (f:=105) rfl ?_);refine goesL_ (some 13) rfl rfl Try.func105 (by kernel_rfl) rfl #[.slice A0 l0.length c0,.int .i64 x7_1] rfl zz2 ?_;(with_reducible refine (impl_classFields.calls k1 _ _ l0 x7_1 t333 _ ?side1 ?side2 A3.out).mono ?_);(case side1=>exact zz4);(case side2=>exact HC0.out);rintro e w5 ⟨v334,rfl,ho0,hb⟩;refine ⟨_,rfl,?_⟩;have HO335:=aK (Kd.R_lower ho0 (below_size zz1));replace HO_3:=aK (Kd.S_elder' (by (with_reducible repeat (first|apply Kd.S_alloc|apply Kd.S_drewN|apply Kd.S_drew));exact HO_3.out) (Kd.R_base ho0) hb);replace HB:=aK (below_step zz1 hb);(try clear hb);(try clear hb2);(try clear hk);(try clear hi);(try clear ho0);obtain ⟨Ao7,co7,eo7⟩:=Kd.R_slice HO335.out;subst eo7)|((with_reducible refine gate_builtin (b:= .append) (xs:= #[.tmp 10,.tmp 14]) rfl ?_);at_builtin;refine Kd.S_append (Kd.slice 3 (Kd.int .i64)) (w0:=w) w.heap.size rfl (.tmp 10) (.tmp 14) 70 24 (.slice none 0 0) 24 rfl Try.underlying70 info24 rfl (by decide) (by omega) u3 x3_1 t333 [.slice Ao7 t333.length co7] (fun _=>True) (fun k_=>some k_=(.slice Ao7 t333.length co7:Value).ownBlock) rfl rfl ?aP (fun k_ hk_=>((Kd.R_mono (ok':=fun k_=>((fun _=>True)) k_∧some k_≠(u3:Value).ownBlock) (Kd.R_apart' (HO335.out) (Kd.S_typed HO_3.out) (by decide)) (fun k_ hk=>⟨trivial,hk.2⟩))).1 k_ hk_.symm) ?aF ?aO ?aB ?aS ?aL ?_;(case aP=>exact Kd.M_row (Kd.R_mono (Kd.R_tight rfl (Kd.R_mono (ok':=fun k_=>((fun _=>True)) k_∧some k_≠(u3:Value).ownBlock) (Kd.R_apart' (HO335.out) (Kd.S_typed HO_3.out) (by decide)) (fun k_ hk=>⟨trivial,hk.2⟩))) (fun _ h_=>h_)));(case aB=>exact zz1);(case aF=>exact (fun _ _=>trivial));(case aO=>exact (by (with_reducible repeat (first|apply Kd.S_alloc|apply Kd.S_drewN|apply Kd.S_drew));exact Kd.S_mono HO_3.out (fun k_ hk=>⟨trivial,fun e_=>hk.2 e_⟩)));(case aS=>exact (below_size zz1));(case aL=>have:=LMc4.out;omega);intro v337 w6 ho hb hg hat;rw [←Ny336.out] at ho;have n0_:=aK (hb);have n1_:=aK (ho);clear HB;clear HO_3;clear HO335;have HB:=n0_;have HO338:=n1_;clear n0_ n1_;clear ho hb hg hat))
     go_roundg k1
     case measure=>have:=HK1.out;omega
     case rel=>exact ⟨(y336),(wrap64 (x7_1+1)),zz7,H',⟨by have:=HK1.out;omega⟩,⟨by (with_reducible repeat (first|apply Kd.S_alloc|apply Kd.S_drewN|apply Kd.S_drew));exact HO338.out⟩,⟨by repeat (first|(with_reducible first|exact HB.out|apply below_alloc|apply pw_below_drewN|apply below_drew1)|exact HB.out)⟩⟩
    ·rw [if_neg c4] at H
     exact absurd H (by simp)
   ·rw [if_neg c2] at H
    have c2b0:decide (x7_1<(l0.length:Int))=false:=decide_eq_false c2
    clear c2;obtain rfl:=Option.some.inj H;go_wp2;go_ret;exact ⟨_,by first|rfl|(simp [errW_none,errW_some]<;>rfl)|(simp [*,errW_none,errW_some]<;>rfl),by (with_reducible repeat (first|apply Kd.S_alloc|apply Kd.S_drewN|apply Kd.S_drew));exact HO_3.out,by repeat (first|(with_reducible first|exact HB.out|apply below_alloc|apply pw_below_drewN|apply below_drew1)|exact HB.out)⟩
end Go.Proofs.Ytnlieahdakafbaa.K
