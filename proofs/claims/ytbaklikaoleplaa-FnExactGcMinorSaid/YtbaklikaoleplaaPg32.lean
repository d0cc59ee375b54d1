import Derived.Test.YtbaklikaoleplaaPg24
import Derived.Test.YtbaklikaoleplaaPg31
namespace Go.Proofs.Ytbaklikaoleplaa.K
open Go.RowKit Go.Proofs.YtbaklikaoleplaaW.PrintWords Go.Proofs.YtbaklikaoleplaaW.PrintLast Go.Proofs.YtbaklikaoleplaaW.PrintMore
attribute [local go_sem] max2_int min2_int max_two min_two max_three min_three max_four min_four
set_option linter.unusedVariables false
set_option linter.unusedSimpArgs false
mutual
def spec_l21Size.j0:Nat→List Int→Int→Int→Int→Bool→Option (Int)
 |0,_,_,_,_,_=>none
 |k+1,x1,x2,x3,x9,x30=>if x30=true then (if (wrap64 (x2+1))≥x3 then (spec_l21Size.j1 k x1 x2 x3 true) else (if 0≤(wrap64 (x2+1)) then (if (wrap64 (x2+1))<(x1.length:Int) then ((spec_l6In.f (rd x1 (wrap64 (x2+1))) 0 6).bind fun t128=>(spec_l21Size.j1 k x1 x2 x3 (!t128))) else (none)) else (none))) else (if (wrap64 (x2+x9))>x3 then (some 0) else (some x9))
def spec_l21Size.j1:Nat→List Int→Int→Int→Bool→Option (Int)
 |0,_,_,_,_=>none
 |k+1,x1,x2,x3,x55=>if x55=true then (some 0) else (if 0≤(wrap64 (x2+1)) then (if (wrap64 (x2+1))<(x1.length:Int) then (if (wrap64 (x2+(wrap64 (2+(rd x1 (wrap64 (x2+1)))))))>x3 then (some 0) else (some (wrap64 (2+(rd x1 (wrap64 (x2+1))))))) else (none)) else (none))
end
def spec_l21Size.f (k:Nat) (l0:List (S53)) (l1:List Int) (a2:Int) (a3:Int):Option (Int):=if a2≥a3 then (some 0) else (if 0≤a2 then (if a2<(l1.length:Int) then ((spec_l6In.f (rd l1 a2) 0 (wrap64 ((l0.length:Int) - 1))).bind fun t120=>(if t120=true then ((spec_l2Fields.f k l0 (rd l1 a2)).bind fun t122=>(if (wrap64 (a2+(wrap64 (1+(t122.length:Int)))))>a3 then (some 0) else (some (wrap64 (1+(t122.length:Int)))))) else (if (rd l1 a2)=(-1) then (spec_l21Size.j0 k l1 a2 a3 0 true) else (spec_l21Size.j0 k l1 a2 a3 0 ((rd l1 a2)==(-2)))))) else (none)) else (none))
set_option maxHeartbeats 8000000 in
set_option maxRecDepth 100000 in
theorem spec_l21Size.calls (k : Nat) (A0 : Option Addr) (c0 : Nat) (l0 : List (S53)) (A1 : Option Addr) (c1 : Nat) (l1 : List Int) (a2 : Int) (a3 : Int) (r : Int) (w : World) (hr0 : Kd.C k53 w A0 l0.length l0) (hc0 : l0.length ≤ c0) (hr1 : Kd.C (Kd.int .i64) w A1 l1.length l1) (hc1 : l1.length ≤ c1) (h : spec_l21Size.f k l0 l1 a2 a3 = some r) :
  Calls Try.prog 48 #[.slice A0 l0.length c0,.slice A1 l1.length c1,.int .i64 a2,.int .i64 a3] w fun e w'=>e= .returned (.int .i64 r)∧Below w.heap.size w w':=by
 have HR0:=aK hr0;have HC0:=aK hc0;clear hr0 hc0;have HR1:=aK hr1;have HC1:=aK hc1;clear hr1 hc1;have HB:=aK (Below.refl w.heap.size w);have H:(if a2≥a3 then (some 0) else (if 0≤a2 then (if a2<(l1.length:Int) then ((spec_l6In.f (rd l1 a2) 0 (wrap64 ((l0.length:Int) - 1))).bind fun t120=>(if t120=true then ((spec_l2Fields.f k l0 (rd l1 a2)).bind fun t122=>(if (wrap64 (a2+(wrap64 (1+(t122.length:Int)))))>a3 then (some 0) else (some (wrap64 (1+(t122.length:Int)))))) else (if (rd l1 a2)=(-1) then (spec_l21Size.j0 k l1 a2 a3 0 true) else (spec_l21Size.j0 k l1 a2 a3 0 ((rd l1 a2)==(-2)))))) else (none)) else (none)))=some r:=h
 clear h;by_cases c5:a2≥a3
 ·rw [if_pos c5] at H
  have c5b0:decide (a3≤a2)=true:=decide_eq_true c5
  clear c5;obtain rfl:=Option.some.inj H;go_enter Try.func48,Try.ntmps48;go_wp2;go_ret;exact ⟨zz6,zz1⟩
 ·rw [if_neg c5] at H
  have c5b0:decide (a3≤a2)=false:=decide_eq_false c5
  clear c5;by_cases c6:0≤a2
  ·rw [if_pos c6] at H
   have c6b0:decide (0≤a2)=true:=decide_eq_true c6
   clear c6;by_cases c7:a2<(l1.length:Int)
   ·rw [if_pos c7] at H
    have c7b0:decide (a2<(l1.length:Int))=true:=decide_eq_true c7
    clear c7;replace H:=Option.bind_eq_some_iff.mp H;obtain ⟨t120,A80,H⟩:=H;(try dsimp only at H);have A8:=aK A80;clear A80;by_cases c9:t120=true
    ·subst c9
     rw [if_pos rfl] at H;replace H:=Option.bind_eq_some_iff.mp H;obtain ⟨t122,A100,H⟩:=H;(try dsimp only at H);have A10:=aK A100;clear A100;by_cases c11:(wrap64 (a2+(wrap64 (1+(t122.length:Int)))))>a3
     ·rw [if_pos c11] at H
      have c11b0:decide (a3<(wrap64 (a2+(wrap64 (1+(t122.length:Int))))))=true:=decide_eq_true c11
      clear c11;obtain rfl:=Option.some.inj H;have p119:0≤(a2:Int):=of_decide_eq_true zz3
      have q119:a2<(l1.length:Int):=of_decide_eq_true zz3
      obtain ⟨ad119,e119,hx119_0⟩:=Kd.at_int HR1.out a2 p119 q119
      cases e119
      replace p119:=eq_true p119;replace q119:=eq_true q119;go_enter Try.func48,Try.ntmps48
      go_wp2_with (first|((with_reducible refine gate_callee (f:=73) rfl ?_);refine goesL_ (some 21) rfl rfl Try.func73 (by kernel_rfl) rfl #[.int .i64 (rd l1 a2),.int .i64 0,.int .i64 (wrap64 ((l0.length:Int) - 1))] rfl zz2 ?_;(with_reducible refine (spec_l6In.calls (rd l1 a2) 0 (wrap64 ((l0.length:Int) - 1)) true _ A8.out).mono ?_);rintro e w' ⟨rfl,⟨nd,rfl⟩⟩;refine ⟨_,rfl,?_⟩;have p121:0≤(a2:Int):=of_decide_eq_true zz3;have q121:a2<(l1.length:Int):=of_decide_eq_true zz3;obtain ⟨ad121,e121,hx121_0⟩:=Kd.at_int HR1.out a2 p121 q121;obtain rfl:ad119=ad121:=(by injection e121);replace p121:=eq_true p121;replace q121:=eq_true q121)|((with_reducible refine gate_callee (f:=75) rfl ?_);refine goesL_ (some 27) rfl rfl Try.func75 (by kernel_rfl) rfl #[.slice A0 l0.length c0,.int .i64 (rd l1 a2)] rfl zz2 ?_;(with_reducible refine (spec_l2Fields.calls k _ _ l0 (rd l1 a2) t122 _ ?side1 ?side2 A10.out).mono ?_);(case side1=>exact (by repeat (first|exact HR0.out|(with_reducible refine Kd.C_alloc ?_ _)|(with_reducible refine Kd.C_drewN ?_ _)|(with_reducible refine Kd.C_drew ?_))));(case side2=>exact HC0.out);rintro e w12 ⟨v123,rfl,ho0,hb⟩;refine ⟨_,rfl,?_⟩;have HO124:=aK (Kd.R_lower ho0 (below_size zz1));replace HB:=aK (below_step zz1 hb);(try clear hb);(try clear hb2);(try clear hk);(try clear hi);(try clear ho0);obtain ⟨Ao13,co13,eo13⟩:=Kd.R_slice HO124.out;subst eo13))
      go_ret;exact ⟨zz6,zz1⟩
     ·rw [if_neg c11] at H
      have c11b0:decide (a3<(wrap64 (a2+(wrap64 (1+(t122.length:Int))))))=false:=decide_eq_false c11
      clear c11;obtain rfl:=Option.some.inj H;have p119:0≤(a2:Int):=of_decide_eq_true zz3
      have q119:a2<(l1.length:Int):=of_decide_eq_true zz3
      obtain ⟨ad119,e119,hx119_0⟩:=Kd.at_int HR1.out a2 p119 q119
      cases e119
      replace p119:=eq_true p119;replace q119:=eq_true q119;go_enter Try.func48,Try.ntmps48
      go_wp2_with (first|((with_reducible refine gate_callee (f:=73) rfl ?_);refine goesL_ (some 21) rfl rfl Try.func73 (by kernel_rfl) rfl #[.int .i64 (rd l1 a2),.int .i64 0,.int .i64 (wrap64 ((l0.length:Int) - 1))] rfl zz2 ?_;(with_reducible refine (spec_l6In.calls (rd l1 a2) 0 (wrap64 ((l0.length:Int) - 1)) true _ A8.out).mono ?_);rintro e w' ⟨rfl,⟨nd,rfl⟩⟩;refine ⟨_,rfl,?_⟩;have p121:0≤(a2:Int):=of_decide_eq_true zz3;have q121:a2<(l1.length:Int):=of_decide_eq_true zz3;obtain ⟨ad121,e121,hx121_0⟩:=Kd.at_int HR1.out a2 p121 q121;obtain rfl:ad119=ad121:=(by injection e121);replace p121:=eq_true p121;replace q121:=eq_true q121)|((with_reducible refine gate_callee (f:=75) rfl ?_);refine goesL_ (some 27) rfl rfl Try.func75 (by kernel_rfl) rfl #[.slice A0 l0.length c0,.int .i64 (rd l1 a2)] rfl zz2 ?_;(with_reducible refine (spec_l2Fields.calls k _ _ l0 (rd l1 a2) t122 _ ?side1 ?side2 A10.out).mono ?_);(case side1=>exact (by repeat (first|exact HR0.out|(with_reducible refine Kd.C_alloc ?_ _)|(with_reducible refine Kd.C_drewN ?_ _)|(with_reducible refine Kd.C_drew ?_))));(case side2=>exact HC0.out);rintro e w14 ⟨v123,rfl,ho0,hb⟩;refine ⟨_,rfl,?_⟩;have HO124:=aK (Kd.R_lower ho0 (below_size zz1));replace HB:=aK (below_step zz1 hb);(try clear hb);(try clear hb2);(try clear hk);(try clear hi);(try clear ho0);obtain ⟨Ao15,co15,eo15⟩:=Kd.R_slice HO124.out;subst eo15))
      go_ret;exact ⟨zz6,zz1⟩
    ·replace c9 := Bool.eq_false_iff.mpr c9
     subst c9;rw [if_neg (show¬(false=true) by decide)] at H;have HC16:=aK H;clear H;have p119:0≤(a2:Int):=of_decide_eq_true zz3
     have q119:a2<(l1.length:Int):=of_decide_eq_true zz3
     obtain ⟨ad119,e119,hx119_0⟩:=Kd.at_int HR1.out a2 p119 q119
     cases e119
     replace p119:=eq_true p119;replace q119:=eq_true q119;go_enter Try.func48,Try.ntmps48
     go_upto_region 6 with (first|((with_reducible refine gate_callee (f:=73) rfl ?_);refine goesL_ (some 21) rfl rfl Try.func73 (by kernel_rfl) rfl #[.int .i64 (rd l1 a2),.int .i64 0,.int .i64 (wrap64 ((l0.length:Int) - 1))] rfl zz2 ?_;(with_reducible refine (spec_l6In.calls (rd l1 a2) 0 (wrap64 ((l0.length:Int) - 1)) false _ A8.out).mono ?_);rintro e w' ⟨rfl,⟨nd,rfl⟩⟩;refine ⟨_,rfl,?_⟩))
     (try simp only [Act.put,List.setIfInBounds_toArray,List.set_cons_zero,List.set_cons_succ])
     go_cut [30] (fun v30 wc=> ∃(kq:Nat) (x30_15:Bool),v30= .bool x30_15∧Aside0 (spec_l21Size.j0 kq l1 a2 a3 0 x30_15=some r)∧Aside0 (kq≤k)∧Aside0 (Below w.heap.size w wc))
     case first=>
      have H:=HC16.out;clear HC16;by_cases c17:(rd l1 a2)=(-1)
      ·rw [if_pos c17] at H
       have c17b0:((rd l1 a2)==(-1))=true:=beq_iff_eq.mpr c17
       have c17b1:((rd l1 a2) !=(-1))=false:=bne_eq_false_iff_eq.mpr c17
       clear c17
       (first|rw [c17b0]|(simp only [i64_w,i32_w];rw [c17b0])|skip)
       have H':=aK H;clear H;have p125:0≤(a2:Int):=of_decide_eq_true zz3
       have q125:a2<(l1.length:Int):=of_decide_eq_true zz3
       obtain ⟨ad125,e125,hx125_0⟩:=Kd.at_int HR1.out a2 p125 q125;obtain rfl:ad119=ad125:=(by injection e125);replace hx125_0:=(HB.out.cell (World.block_lt_of_cell? w _ hx125_0)).trans hx125_0;replace p125:=eq_true p125;replace q125:=eq_true q125;go_wp2;go_meet
       case rel=>exact ⟨_,(true),zz5,H',⟨by first|omega|exact Nat.le_refl _⟩,⟨by repeat (first|(with_reducible first|exact HB.out|apply below_alloc|apply pw_below_drewN|apply below_drew1)|exact HB.out)⟩⟩
      ·rw [if_neg c17] at H
       have c17b0:((rd l1 a2)==(-1))=false:=beq_eq_false_iff_ne.mpr c17
       have c17b1:((rd l1 a2) !=(-1))=true:=bne_iff_ne.mpr c17
       (first|rw [c17b0]|(simp only [i64_w,i32_w];rw [c17b0])|skip)
       have H':=aK H;clear H;have p125:0≤(a2:Int):=of_decide_eq_true zz3
       have q125:a2<(l1.length:Int):=of_decide_eq_true zz3
       obtain ⟨ad125,e125,hx125_0⟩:=Kd.at_int HR1.out a2 p125 q125;obtain rfl:ad119=ad125:=(by injection e125);replace hx125_0:=(HB.out.cell (World.block_lt_of_cell? w _ hx125_0)).trans hx125_0;replace p125:=eq_true p125;replace q125:=eq_true q125;have p126:0≤(a2:Int):=of_decide_eq_true zz3
       have q126:a2<(l1.length:Int):=of_decide_eq_true zz3
       obtain ⟨ad126,e126,hx126_0⟩:=Kd.at_int HR1.out a2 p126 q126;obtain rfl:ad119=ad126:=(by injection e126);replace hx126_0:=(HB.out.cell (World.block_lt_of_cell? w _ hx126_0)).trans hx126_0;replace p126:=eq_true p126;replace q126:=eq_true q126;go_wp2;go_meet
       case rel=>exact ⟨_,(((rd l1 a2)==(-2))),zz5,H',⟨by first|omega|exact Nat.le_refl _⟩,⟨by repeat (first|(with_reducible first|exact HB.out|apply below_alloc|apply pw_below_drewN|apply below_drew1)|exact HB.out)⟩⟩
     case rest =>
      clear HC16;(try clear c1);(try clear p1);(try clear q1);(try clear hx1);(try clear p2);(try clear c4);(try clear c5);(try clear c5b0);(try clear c6);(try clear c6b0);(try clear p6);(try clear c7);(try clear c7b0);(try clear c9);(try clear c11);(try clear c11b0);(try clear p11);(try clear q11);(try clear hx11);(try clear p12);(try clear q12);(try clear hx12);(try clear c17);(try clear c17b0);(try clear c17b1);(try clear hx119_0);(try clear hx121_0);(try clear hx125_0);(try clear hx126_0);(try clear p119);(try clear p121);(try clear p125);(try clear p126);(try clear q119);(try clear q121);(try clear q125);(try clear q126);obtain ⟨kq,x30_15,rfl,HA,HJ15,HB⟩:=hcut
      cases kq with
      |zero=>exact absurd HA.out (by simp [spec_l21Size.j0])
      | succ kj15 =>
       have H:=HA.out;clear HA;simp only [spec_l21Size.j0] at H;by_cases c18:x30_15=true
       ·subst c18
        rw [if_pos rfl] at H;have HC19:=aK H;clear H
        go_upto_region 7 with (fail)
        go_cut [55] (fun v55 wc=> ∃(kq:Nat) (x55_18:Bool),v55= .bool x55_18∧Aside0 (spec_l21Size.j1 kq l1 a2 a3 x55_18=some r)∧Aside0 (kq≤kj15)∧Aside0 (Below w.heap.size w wc))
        case first=>
         have H:=HC19.out;clear HC19;by_cases c20:(wrap64 (a2+1))≥a3
         ·rw [if_pos c20] at H
          have c20b0:decide (a3≤(wrap64 (a2+1)))=true:=decide_eq_true c20
          clear c20
          (first|rw [c20b0]|(simp only [i64_w,i32_w];rw [c20b0])|skip)
          have H':=aK H;clear H;go_wp2;go_meet
          case rel=>exact ⟨_,(true),zz5,H',⟨by have:=HJ15.out;first|omega|exact Nat.le_refl _⟩,⟨by repeat (first|(with_reducible first|exact HB.out|apply below_alloc|apply pw_below_drewN|apply below_drew1)|exact HB.out)⟩⟩
         ·rw [if_neg c20] at H
          have c20b0:decide (a3≤(wrap64 (a2+1)))=false:=decide_eq_false c20
          clear c20
          (first|rw [c20b0]|(simp only [i64_w,i32_w];rw [c20b0])|skip)
          obtain ⟨ji21,hji21⟩: ∃j_:Int,(wrap64 (a2+1))=j_:=⟨_,rfl⟩;replace H:(if 0≤(ji21) then (if (ji21)<(l1.length:Int) then ((spec_l6In.f (rd l1 (ji21)) 0 6).bind fun t128=>(spec_l21Size.j1 kj15 l1 a2 a3 (!t128))) else (none)) else (none))=some r:=by first|(rw [hji21] at H;exact H)|(simp only [hji21] at H ⊢;exact H)
          (try rw [hji21] at c20b0)
          have hji21w:(IntKind.i64.wrap (a2+1))=ji21:=(i64_w _).trans hji21
          by_cases c22:0≤(ji21)
          ·rw [if_pos c22] at H
           have c22b0:decide (0≤(ji21))=true:=decide_eq_true c22
           clear c22;by_cases c23:(ji21)<(l1.length:Int)
           ·rw [if_pos c23] at H
            have c23b0:decide ((ji21)<(l1.length:Int))=true:=decide_eq_true c23
            clear c23;replace H:=Option.bind_eq_some_iff.mp H;obtain ⟨t128,A240,H⟩:=H;(try dsimp only at H);have A24:=aK A240;clear A240;have H':=aK H;clear H;have p127:0≤((ji21):Int):=of_decide_eq_true zz3
            have q127:(ji21)<(l1.length:Int):=of_decide_eq_true zz3
            obtain ⟨ad127,e127,hx127_0⟩:=Kd.at_int HR1.out (ji21) p127 q127;obtain rfl:ad119=ad127:=(by injection e127);replace hx127_0:=(HB.out.cell (World.block_lt_of_cell? w _ hx127_0)).trans hx127_0;replace p127:=eq_true p127;replace q127:=eq_true q127
            go_wp2_with (first|(go_at_call 73;(with_reducible refine (spec_l6In.calls (rd l1 (ji21)) 0 6 t128 _ A24.out).mono ?_);rintro e w' ⟨rfl,⟨nd,rfl⟩⟩))
            go_meet
            case rel=>exact ⟨_,(!t128),zz5,H',⟨by have:=HJ15.out;first|omega|exact Nat.le_refl _⟩,⟨by repeat (first|(with_reducible first|exact HB.out|apply below_alloc|apply pw_below_drewN|apply below_drew1)|exact HB.out)⟩⟩
           ·rw [if_neg c23] at H
            exact absurd H (by simp)
          ·rw [if_neg c22] at H
           exact absurd H (by simp)
        case rest =>
         clear HC19;(try clear c1);(try clear p1);(try clear q1);(try clear hx1);(try clear c2);(try clear p2);(try clear c4);(try clear c5);(try clear c5b0);(try clear c6);(try clear c6b0);(try clear p6);(try clear c7);(try clear c7b0);(try clear c9);(try clear c11);(try clear c11b0);(try clear p11);(try clear q11);(try clear hx11);(try clear p12);(try clear q12);(try clear hx12);(try clear c17);(try clear c17b0);(try clear c17b1);(try clear c18);(try clear c20);(try clear c20b0);(try clear c22);(try clear c22b0);(try clear c23);(try clear c23b0);(try clear hx119_0);(try clear hx121_0);(try clear hx125_0);(try clear hx126_0);(try clear hx127_0);(try clear p1);(try clear p11);(try clear p119);(try clear p12);(try clear p121);(try clear p125);(try clear p126);(try clear p127);(try clear p2);(try clear p6);(try clear q1);(try clear q11);(try clear q119);(try clear q12);(try clear q121);(try clear q125);(try clear q126);(try clear q127);obtain ⟨kq,x55_18,rfl,HA,HJ18,HB⟩:=hcut
         cases kq with
         |zero=>exact absurd HA.out (by simp [spec_l21Size.j1])
         | succ kj18 =>
          have H:=HA.out;clear HA;simp only [spec_l21Size.j1] at H;by_cases c25:x55_18=true
          ·subst c25
           rw [if_pos rfl] at H;obtain rfl:=Option.some.inj H;go_wp2;go_ret;exact ⟨zz6,zz1⟩
          ·replace c25 := Bool.eq_false_iff.mpr c25
           subst c25;rw [if_neg (show¬(false=true) by decide)] at H;obtain ⟨ji26,hji26⟩: ∃j_:Int,(wrap64 (a2+1))=j_:=⟨_,rfl⟩;replace H:(if 0≤(ji26) then (if (ji26)<(l1.length:Int) then (if (wrap64 (a2+(wrap64 (2+(rd l1 (ji26))))))>a3 then (some 0) else (some (wrap64 (2+(rd l1 (ji26)))))) else (none)) else (none))=some r:=by first|(rw [hji26] at H;exact H)|(simp only [hji26] at H ⊢;exact H)
           have hji26w:(IntKind.i64.wrap (a2+1))=ji26:=(i64_w _).trans hji26
           by_cases c27:0≤(ji26)
           ·rw [if_pos c27] at H
            have c27b0:decide (0≤(ji26))=true:=decide_eq_true c27
            clear c27;by_cases c28:(ji26)<(l1.length:Int)
            ·rw [if_pos c28] at H
             have c28b0:decide ((ji26)<(l1.length:Int))=true:=decide_eq_true c28
             clear c28;by_cases c29:(wrap64 (a2+(wrap64 (2+(rd l1 (ji26))))))>a3
             ·rw [if_pos c29] at H
              have c29b0:decide (a3<(wrap64 (a2+(wrap64 (2+(rd l1 (ji26)))))))=true:=decide_eq_true c29
              clear c29;obtain rfl:=Option.some.inj H;have p129:0≤((ji26):Int):=of_decide_eq_true zz3
              have q129:(ji26)<(l1.length:Int):=of_decide_eq_true zz3
              obtain ⟨ad129,e129,hx129_0⟩:=Kd.at_int HR1.out (ji26) p129 q129;obtain rfl:ad119=ad129:=(by injection e129);replace hx129_0:=(HB.out.cell (World.block_lt_of_cell? w _ hx129_0)).trans hx129_0;replace p129:=eq_true p129;replace q129:=eq_true q129;go_wp2;go_ret;exact ⟨(by first|rfl|(simp [errW_none,errW_some]<;>rfl)|(simp only [←hji26];first|rfl|(simp [errW_none,errW_some]<;>rfl))|(simp [*,errW_none,errW_some]<;>rfl)),zz1⟩
             ·rw [if_neg c29] at H
              have c29b0:decide (a3<(wrap64 (a2+(wrap64 (2+(rd l1 (ji26)))))))=false:=decide_eq_false c29
              clear c29;obtain rfl:=Option.some.inj H;have p129:0≤((ji26):Int):=of_decide_eq_true zz3
              have q129:(ji26)<(l1.length:Int):=of_decide_eq_true zz3
              obtain ⟨ad129,e129,hx129_0⟩:=Kd.at_int HR1.out (ji26) p129 q129;obtain rfl:ad119=ad129:=(by injection e129);replace hx129_0:=(HB.out.cell (World.block_lt_of_cell? w _ hx129_0)).trans hx129_0;replace p129:=eq_true p129;replace q129:=eq_true q129;go_wp2;go_ret;exact ⟨(by first|rfl|(simp [errW_none,errW_some]<;>rfl)|(simp only [←hji26];first|rfl|(simp [errW_none,errW_some]<;>rfl))|(simp [*,errW_none,errW_some]<;>rfl)),zz1⟩
            ·rw [if_neg c28] at H
             exact absurd H (by simp)
           ·rw [if_neg c27] at H
            exact absurd H (by simp)
       ·replace c18 := Bool.eq_false_iff.mpr c18
        subst c18;rw [if_neg (show¬(false=true) by decide)] at H;by_cases c30:(wrap64 (a2+0))>a3
        ·rw [if_pos c30] at H
         have c30b0:decide (a3<(wrap64 (a2+0)))=true:=decide_eq_true c30
         simp only [Int.add_zero] at c30b0;clear c30;obtain rfl:=Option.some.inj H;go_wp2;go_ret;exact ⟨zz6,zz1⟩
        ·rw [if_neg c30] at H
         have c30b0:decide (a3<(wrap64 (a2+0)))=false:=decide_eq_false c30
         simp only [Int.add_zero] at c30b0;clear c30;obtain rfl:=Option.some.inj H;go_wp2;go_ret;exact ⟨zz6,zz1⟩
   ·rw [if_neg c7] at H
    exact absurd H (by simp)
  ·rw [if_neg c6] at H
   exact absurd H (by simp)
end Go.Proofs.Ytbaklikaoleplaa.K
namespace Go.Proofs.Ytbaklikaoleplaa.K
open Go.RowKit Go.Proofs.YtbaklikaoleplaaW.PrintWords Go.Proofs.YtbaklikaoleplaaW.PrintLast Go.Proofs.YtbaklikaoleplaaW.PrintMore
attribute [local go_sem] max2_int min2_int max_two min_two max_three min_three max_four min_four
set_option linter.unusedVariables false
set_option linter.unusedSimpArgs false
def spec_l21Part.l0:Nat→List (S53)→List Int→Int→Int→List Int→Option (List Int×Bool)
  |0,_,_,_,_,_=>none
  |k+1,x0,x1,x2,x3,x10=>if x2<x3 then ((spec_l21Size.f k x0 x1 x2 x3).bind fun t133=>(if t133=0 then (some (x10,false)) else (if x10.length<17592186044416 then (spec_l21Part.l0 k x0 x1 (wrap64 (x2+t133)) x3 (x10++[x2])) else (none)))) else (some (x10,true))
def spec_l21Part.f (k:Nat) (l0:List (S53)) (l1:List Int) (a2:Int) (a3:Int):Option (List Int×Bool):=spec_l21Part.l0 k l0 l1 a2 a3 (([]:List Int))
set_option maxHeartbeats 8000000 in
set_option maxRecDepth 100000 in
theorem spec_l21Part.calls (k:Nat) (A0:Option Addr) (c0:Nat) (l0:List (S53)) (A1:Option Addr) (c1:Nat) (l1:List Int) (a2:Int) (a3:Int) (r1:List Int) (r2:Bool) (w:World) (hr0:Kd.C k53 w A0 l0.length l0) (hc0:l0.length≤c0) (hr1:Kd.C (Kd.int .i64) w A1 l1.length l1) (hc1:l1.length≤c1) (h:spec_l21Part.f k l0 l1 a2 a3=some (r1,r2)):
  Calls Try.prog 45 #[.slice A0 l0.length c0,.slice A1 l1.length c1,.int .i64 a2,.int .i64 a3] w fun e w'=> ∃v0_:Value,e= .returned (.tuple #[v0_,.bool r2])∧Kd.R (Kd.int .i64) 3 w' w.heap.size (fun _=>True) v0_ r1∧Below w.heap.size w w':=by
 have HR0:=aK hr0;have HC0:=aK hc0;clear hr0 hc0;have HR1:=aK hr1;have HC1:=aK hc1;clear hr1 hc1;have HB:=aK (Below.refl w.heap.size w);have H:(spec_l21Part.l0 k l0 l1 a2 a3 (([]:List Int)))=some (r1,r2):=h
 clear h;obtain ⟨y130,hy130⟩: ∃y_:List Int,y_=(([]:List Int)):=⟨_,rfl⟩;replace H:(spec_l21Part.l0 k l0 l1 a2 a3 y130)=some (r1,r2):=by first|(rw [hy130];with_reducible exact H)|(have H2_:=(Option.bind_some _ _).symm.trans H;rw [hy130];with_reducible exact H2_)|(have H2_:=(Option.bind_some _ _).symm.trans H;with_reducible exact H2_)|with_reducible exact H|(rw [hy130];exact H)|exact H
 have Ny130:=aK hy130;clear hy130;have H':=aK H;clear H;go_enter Try.func45,Try.ntmps45
 go_wp2_with (first|((with_reducible refine gate_dst (N:=12) rfl ?_);refine Kd.R_lit (Kd.int .i64) _ 3 ?hg (N:=12) ?hd (xs:=([]:List Int)) (inner:=[]) (ok:=fun _=>True) (okp:=fun _=>True) ?hr ?hp (fun _ hk=>hk) trivial (Below.refl _ _) (Nat.le_refl _) (by simp) ?_;(case hd=>rfl);(case hg=>rfl);(case hr=>first|(go_simp;done)|(go_simp;rfl));(case hp=>exact (Reps.none _ _));intro v131 w5 ho6 hb hg_ hnew_;clear hg_ hnew_;(first|rw [←Ny130.out] at ho6|(simp only [Int.reduceToNat] at ho6;rw [←Ny130.out] at ho6));have HO132:=aK (Kd.R_lower ho6 (below_size zz1));replace HB:=aK (below_step zz1 hb);clear hb ho6))
 go_loopg [2,10] k (fun kq v2 v10 w'=> ∃(x2_1:Int) (x10_1:List Int),v2= .int .i64 x2_1∧Aside0 (spec_l21Part.l0 kq l0 l1 x2_1 a3 x10_1=some (r1,r2))∧Aside0 (kq≤k)∧Aside0 (Kd.R (Kd.int .i64) 3 w' w.heap.size (fun _=>True) v10 x10_1)∧Aside0 (Below w.heap.size w w'))
 case atStart=>exact ⟨(a2),(y130),zz5,H',⟨Nat.le_refl _⟩,⟨by (with_reducible repeat (first|apply Kd.R_alloc|apply Kd.R_drewN|apply Kd.R_drew));exact HO132.out⟩,⟨by repeat (first|(with_reducible first|exact HB.out|apply below_alloc|apply pw_below_drewN|apply below_drew1)|exact HB.out)⟩⟩
 case round =>
  clear H';(try clear c1);(try clear p2);(try clear c4);obtain ⟨x2_1,x10_1,rfl,HA,HK1,HO_10,HB⟩:=hrel
  cases gk with
  |zero=>exact absurd HA.out (by simp [spec_l21Part.l0])
  | succ k1 =>
   have H:=HA.out;clear HA;simp only [spec_l21Part.l0] at H;by_cases c7:x2_1<a3
   ·rw [if_pos c7] at H
    have c7b0:decide (x2_1<a3)=true:=decide_eq_true c7
    clear c7;replace H:=Option.bind_eq_some_iff.mp H;obtain ⟨t133,A80,H⟩:=H;(try dsimp only at H);have A8:=aK A80;clear A80;by_cases c9:t133=0
    ·rw [if_pos c9] at H
     have c9b0:(t133==0)=true:=beq_iff_eq.mpr c9
     have c9b1:(t133 !=0)=false:=bne_eq_false_iff_eq.mpr c9
     clear c9;simp only [Option.some.injEq,Prod.mk.injEq] at H;obtain ⟨rfl,rfl⟩:=H
     go_wp2_with (first|((with_reducible refine gate_callee (f:=48) rfl ?_);refine goesL_ (some 20) rfl rfl Try.func48 (by kernel_rfl) rfl #[.slice A0 l0.length c0,.slice A1 l1.length c1,.int .i64 x2_1,.int .i64 a3] rfl zz2 ?_;(with_reducible refine (spec_l21Size.calls k1 _ _ l0 _ _ l1 x2_1 a3 t133 _ ?side1 ?side2 ?side3 ?side4 A8.out).mono ?_);(case side1=>exact zz7);(case side2=>exact HC0.out);(case side3=>exact (by repeat (first|exact (Kd.C_below HR1.out HB.out)|(with_reducible refine Kd.C_alloc ?_ _)|(with_reducible refine Kd.C_drewN ?_ _)|(with_reducible refine Kd.C_drew ?_))));(case side4=>exact HC1.out);rintro e w10 ⟨rfl,hb⟩;refine ⟨_,rfl,?_⟩;replace HO_10:=aK (Kd.R_below (by (with_reducible repeat (first|apply Kd.R_alloc|apply Kd.R_drewN|apply Kd.R_drew));exact HO_10.out) hb);replace HB:=aK (below_step zz1 hb);(try clear hb);(try clear hb2);(try clear hk);(try clear hi)))
     go_ret2
     exact ⟨_,by first|rfl|(simp [errW_none,errW_some]<;>rfl)|(simp [*,errW_none,errW_some]<;>rfl),by (with_reducible repeat (first|apply Kd.R_alloc|apply Kd.R_drewN|apply Kd.R_drew));exact HO_10.out,by repeat (first|(with_reducible first|exact HB.out|apply below_alloc|apply pw_below_drewN|apply below_drew1)|exact HB.out)⟩
    ·rw [if_neg c9] at H
     have c9b0:(t133==0)=false:=beq_eq_false_iff_ne.mpr c9
     have c9b1:(t133 !=0)=true:=bne_iff_ne.mpr c9
     by_cases c11:x10_1.length<17592186044416
     ·rw [if_pos c11] at H
      have LMc11:=aK c11;clear c11;obtain ⟨y134,hy134⟩: ∃y_:List Int,y_=(x10_1++[x2_1]):=⟨_,rfl⟩;replace H:(spec_l21Part.l0 k1 l0 l1 (wrap64 (x2_1+t133)) a3 y134)=some (r1,r2):=by first|(rw [hy134];with_reducible exact H)|(have H2_:=(Option.bind_some _ _).symm.trans H;rw [hy134];with_reducible exact H2_)|(have H2_:=(Option.bind_some _ _).symm.trans H;with_reducible exact H2_)|with_reducible exact H|(rw [hy134];exact H)|exact H
      have Ny134:=aK hy134;clear hy134;have H':=aK H;clear H
      go_wp2_with (first|((with_reducible refine gate_callee (f:=48) rfl ?_);refine goesL_ (some 20) rfl rfl Try.func48 (by kernel_rfl) rfl #[.slice A0 l0.length c0,.slice A1 l1.length c1,.int .i64 x2_1,.int .i64 a3] rfl zz2 ?_;(with_reducible refine (spec_l21Size.calls k1 _ _ l0 _ _ l1 x2_1 a3 t133 _ ?side1 ?side2 ?side3 ?side4 A8.out).mono ?_);(case side1=>exact zz7);(case side2=>exact HC0.out);(case side3=>exact (by repeat (first|exact (Kd.C_below HR1.out HB.out)|(with_reducible refine Kd.C_alloc ?_ _)|(with_reducible refine Kd.C_drewN ?_ _)|(with_reducible refine Kd.C_drew ?_))));(case side4=>exact HC1.out);rintro e w12 ⟨rfl,hb⟩;refine ⟨_,rfl,?_⟩;replace HO_10:=aK (Kd.R_below (by (with_reducible repeat (first|apply Kd.R_alloc|apply Kd.R_drewN|apply Kd.R_drew));exact HO_10.out) hb);replace HB:=aK (below_step zz1 hb);(try clear hb);(try clear hb2);(try clear hk);(try clear hi))|((with_reducible refine gate_builtin (b:= .append) (xs:= #[.tmp 24,.tmp 26]) rfl ?_);at_builtin;refine Kd.R_append (Kd.int .i64) (w0:=w) w.heap.size rfl (.tmp 24) (.tmp 26) 23 3 (.int .i64 0) 8 rfl Try.underlying23 info3 rfl (by decide) (by omega) u10 x10_1 x2_1 [.int .i64 x2_1] (fun _=>True) (fun _=>False) rfl rfl ?aP (fun _ hk=>hk.elim) ?aF ?aO ?aB ?aS ?aL ?_;(case aP=>exact rfl);(case aB=>exact zz1);(case aF=>exact (fun _ _=>trivial));(case aO=>exact (by (with_reducible repeat (first|apply Kd.R_alloc|apply Kd.R_drewN|apply Kd.R_drew));exact HO_10.out));(case aS=>exact (below_size zz1));(case aL=>have:=LMc11.out;omega);intro v135 w13 ho hb hg hat;rw [←Ny134.out] at ho;have n0_:=aK (hb);have n1_:=aK (ho);clear HB;clear HO_10;have HB:=n0_;have HO136:=n1_;clear n0_ n1_;clear ho hb hg hat))
      go_roundg k1
      case measure=>have:=HK1.out;omega
      case rel=>exact ⟨(wrap64 (x2_1+t133)),(y134),zz5,H',⟨by have:=HK1.out;omega⟩,⟨by (with_reducible repeat (first|apply Kd.R_alloc|apply Kd.R_drewN|apply Kd.R_drew));exact HO136.out⟩,⟨by repeat (first|(with_reducible first|exact HB.out|apply below_alloc|apply pw_below_drewN|apply below_drew1)|exact HB.out)⟩⟩
     ·rw [if_neg c11] at H
      exact absurd H (by simp)
   ·rw [if_neg c7] at H
    have c7b0:decide (x2_1<a3)=false:=decide_eq_false c7
    clear c7;simp only [Option.some.injEq,Prod.mk.injEq] at H;obtain ⟨rfl,rfl⟩:=H;go_wp2
    go_ret2
    exact ⟨_,by first|rfl|(simp [errW_none,errW_some]<;>rfl)|(simp [*,errW_none,errW_some]<;>rfl),by (with_reducible repeat (first|apply Kd.R_alloc|apply Kd.R_drewN|apply Kd.R_drew));exact HO_10.out,by repeat (first|(with_reducible first|exact HB.out|apply below_alloc|apply pw_below_drewN|apply below_drew1)|exact HB.out)⟩
end Go.Proofs.Ytbaklikaoleplaa.K
namespace Go.Proofs.Ytbaklikaoleplaa.K
open Go.RowKit Go.Proofs.YtbaklikaoleplaaW.PrintWords Go.Proofs.YtbaklikaoleplaaW.PrintLast Go.Proofs.YtbaklikaoleplaaW.PrintMore
attribute [local go_sem] max2_int min2_int max_two min_two max_three min_three max_four min_four
set_option linter.unusedVariables false
set_option linter.unusedSimpArgs false
def spec_l21Walk.f (k:Nat) (l0:List (S53)) (l1_0:List Int) (a1_1:Int) (a1_2:Int) (a1_3:Int) (l1_4:List Bool):Option (List Int×Bool):=(spec_l21Part.f k l0 l1_0 0 a1_2).bind fun bt138=>((spec_l21Part.f k l0 l1_0 a1_1 a1_3).bind fun bt142=>(if bt138.1.length+bt142.1.length<17592186044416 then ((some (bt138.1++bt142.1:List Int)).bind fun y146=>(if bt138.2=true then (some (y146,bt142.2)) else (some (y146,false)))) else (none)))
set_option maxHeartbeats 8000000 in
set_option maxRecDepth 100000 in
theorem spec_l21Walk.calls (k:Nat) (A0:Option Addr) (c0:Nat) (l0:List (S53)) (A1_0:Option Addr) (c1_0:Nat) (l1_0:List Int) (a1_1:Int) (a1_2:Int) (a1_3:Int) (A1_4:Option Addr) (c1_4:Nat) (l1_4:List Bool) (r1:List Int) (r2:Bool) (w:World) (hr0:Kd.C k53 w A0 l0.length l0) (hc0:l0.length≤c0) (hr1_0:Kd.C (Kd.int .i64) w A1_0 l1_0.length l1_0) (hc1_0:l1_0.length≤c1_0) (hr1_4:Kd.C Kd.bool w A1_4 l1_4.length l1_4) (hc1_4:l1_4.length≤c1_4) (h:spec_l21Walk.f k l0 l1_0 a1_1 a1_2 a1_3 l1_4=some (r1,r2)):
  Calls Try.prog 41 #[.slice A0 l0.length c0,.agg #[.slice A1_0 l1_0.length c1_0,.int .i64 a1_1,.int .i64 a1_2,.int .i64 a1_3,.slice A1_4 l1_4.length c1_4]] w fun e w'=> ∃v0_:Value,e= .returned (.tuple #[v0_,.bool r2])∧Kd.R (Kd.int .i64) 3 w' w.heap.size (fun _=>True) v0_ r1∧Below w.heap.size w w':=by
 have hu29:=Try.underlying29;have HR0:=aK hr0;have HC0:=aK hc0;clear hr0 hc0;have HR1_0:=aK hr1_0;have HC1_0:=aK hc1_0;clear hr1_0 hc1_0;have HR1_4:=aK hr1_4;have HC1_4:=aK hc1_4;clear hr1_4 hc1_4;have HB:=aK (Below.refl w.heap.size w);have H:((spec_l21Part.f k l0 l1_0 0 a1_2).bind fun bt138=>((spec_l21Part.f k l0 l1_0 a1_1 a1_3).bind fun bt142=>(if bt138.1.length+bt142.1.length<17592186044416 then ((some (bt138.1++bt142.1:List Int)).bind fun y146=>(if bt138.2=true then (some (y146,bt142.2)) else (some (y146,false)))) else (none))))=some (r1,r2):=h
 clear h;replace H:=Option.bind_eq_some_iff.mp H;obtain ⟨⟨t138,t139⟩,A30,H⟩:=H;(try dsimp only at H);have A3:=aK A30;clear A30;replace H:=Option.bind_eq_some_iff.mp H;obtain ⟨⟨t142,t143⟩,A40,H⟩:=H;(try dsimp only at H);have A4:=aK A40;clear A40;by_cases c5:t138.length+t142.length<17592186044416
 ·rw [if_pos c5] at H
  have LMc5:=aK c5;clear c5;obtain ⟨y146,hy146⟩: ∃y_:List Int,y_=(t138++t142):=⟨_,rfl⟩;replace H:(if t139=true then (some (y146,t143)) else (some (y146,false)))=some (r1,r2):=by first|(rw [hy146];with_reducible exact H)|(have H2_:=(Option.bind_some _ _).symm.trans H;rw [hy146];with_reducible exact H2_)|(have H2_:=(Option.bind_some _ _).symm.trans H;with_reducible exact H2_)|with_reducible exact H|(rw [hy146];exact H)|exact H
  have Ny146:=aK hy146;clear hy146;by_cases c6:t139=true
  ·subst c6
   rw [if_pos rfl] at H;simp only [Option.some.injEq,Prod.mk.injEq] at H;obtain ⟨rfl,rfl⟩:=H;go_enter Try.func41,Try.ntmps41
   go_wp2_with (first|((with_reducible refine gate_dst (N:=3) rfl ?_);refine box_event ?hg (N:=3) ?hd (cs:= #[.slice A1_0 l1_0.length c1_0,.int .i64 a1_1,.int .i64 a1_2,.int .i64 a1_3,.slice A1_4 l1_4.length c1_4]) (t:=29) ?hr ?_;(case hd=>rfl);(case hg=>rfl);(case hr=>first|(go_simp;done)|(go_simp;rfl));intro gb137 hg w7 hbox hb;have BK137:=aK (hbox);have GW137:=aK ((by rw [hg];exact (below_size zz1):w.heap.size≤gb137));have GE137:=aK ((by rw [hg];exact (below_size zz1):w.heap.size≤gb137));replace HB:=aK (below_step zz1 hb);clear hb hbox hg;obtain ⟨hcz8_0,hcz8_1,hcz8_2,hcz8_3,hcz8_4,hfz8_0,hfz8_1,hfz8_2,hfz8_3,hfz8_4⟩:=cbf5 BK137)|((with_reducible refine gate_callee (f:=45) rfl ?_);refine goesL_ (some 16) rfl rfl Try.func45 (by kernel_rfl) rfl #[.slice A0 l0.length c0,.slice A1_0 l1_0.length c1_0,.int .i64 0,.int .i64 a1_2] rfl zz2 ?_;(with_reducible refine (spec_l21Part.calls k _ _ l0 _ _ l1_0 0 a1_2 t138 true _ ?side1 ?side2 ?side3 ?side4 A3.out).mono ?_);(case side1=>exact zz7);(case side2=>exact HC0.out);(case side3=>exact zz8);(case side4=>exact HC1_0.out);rintro e w9 ⟨v140,rfl,ho0,hb⟩;refine ⟨_,rfl,?_⟩;have HO141:=aK (Kd.R_lower ho0 (below_size zz16));replace BK137:=aK (blk_below (g:=gb137) (o:= .cells #[.slice A1_0 l1_0.length c1_0,.int .i64 a1_1,.int .i64 a1_2,.int .i64 a1_3,.slice A1_4 l1_4.length c1_4] 29 (0,0)) zz44 hb);replace HB:=aK (below_step zz16 hb);(try clear hb);(try clear hb2);(try clear hk);(try clear hi);(try clear ho0);obtain ⟨hcz10_0,hcz10_1,hcz10_2,hcz10_3,hcz10_4,hfz10_0,hfz10_1,hfz10_2,hfz10_3,hfz10_4⟩:=cbf5 BK137)|((with_reducible refine gate_callee (f:=45) rfl ?_);refine goesL_ (some 27) rfl rfl Try.func45 (by kernel_rfl) rfl #[.slice A0 l0.length c0,.slice A1_0 l1_0.length c1_0,.int .i64 a1_1,.int .i64 a1_3] rfl zz2 ?_;(with_reducible refine (spec_l21Part.calls k _ _ l0 _ _ l1_0 a1_1 a1_3 t142 t143 _ ?side1 ?side2 ?side3 ?side4 A4.out).mono ?_);(case side1=>exact zz7);(case side2=>exact HC0.out);(case side3=>exact zz8);(case side4=>exact HC1_0.out);rintro e w11 ⟨v144,rfl,ho0,hb⟩;refine ⟨_,rfl,?_⟩;have HO145:=aK (Kd.R_lower (Kd.R_new' ho0 (Kd.R_lt (by (with_reducible repeat (first|apply Kd.R_alloc|apply Kd.R_drewN|apply Kd.R_drew));exact HO141.out))) (below_size zz16));replace HO141:=aK (Kd.R_elder' (by (with_reducible repeat (first|apply Kd.R_alloc|apply Kd.R_drewN|apply Kd.R_drew));exact HO141.out) (Kd.R_base ho0) hb);replace BK137:=aK (blk_below (g:=gb137) (o:= .cells #[.slice A1_0 l1_0.length c1_0,.int .i64 a1_1,.int .i64 a1_2,.int .i64 a1_3,.slice A1_4 l1_4.length c1_4] 29 (0,0)) zz44 hb);replace HB:=aK (below_step zz16 hb);(try clear hb);(try clear hb2);(try clear hk);(try clear hi);(try clear ho0);obtain ⟨Ao13,co13,eo13⟩:=Kd.R_slice HO145.out;subst eo13)|((with_reducible refine gate_builtin (b:= .append) (xs:= #[.tmp 30,.tmp 31]) rfl ?_);at_builtin;refine Kd.R_append_rows (Kd.int .i64) (w0:=w) w.heap.size rfl (.tmp 30) (.tmp 31) 23 3 (.int .i64 0) 8 rfl Try.underlying23 info3 rfl (by decide) (by omega) v140 t138 t142 _ _ _ (fun k_=>some k_≠(.slice Ao13 t142.length co13:Value).ownBlock) (fun _=>False) rfl rfl ?aO ?aR (fun _ _ h=>h) (fun _ h=>h.elim) ?aF ?aB ?aS ?aL ?_;(case aR=>repeat (first|exact (Kd.R_reads' HO145.out).2.2|(with_reducible refine Kd.C_alloc ?_ _)|(with_reducible refine Kd.C_drewN ?_ _)|(with_reducible refine Kd.C_drew ?_)));(case aB=>exact zz16);(case aF=>exact (fun k_ hk=>Kd.fresh' (Kd.R_lt (by (with_reducible repeat (first|apply Kd.R_alloc|apply Kd.R_drewN|apply Kd.R_drew));exact HO145.out)) k_ hk));(case aO=>exact (by (with_reducible repeat (first|apply Kd.R_alloc|apply Kd.R_drewN|apply Kd.R_drew));exact Kd.R_mono HO141.out (fun _ hk=>hk.2)));(case aS=>exact (below_size zz16));(case aL=>have:=LMc5.out;omega);intro v147 w12 ho hb hg hat;rw [←Ny146.out] at ho;have n0_:=aK (blk_grown (g:=gb137) (o:= .cells #[.slice A1_0 l1_0.length c1_0,.int .i64 a1_1,.int .i64 a1_2,.int .i64 a1_3,.slice A1_4 l1_4.length c1_4] 29 (0,0)) zz44 hg (Kd.R_ne HO141.out BK137.out (by decide)));have n1_:=aK (Kd.R_after (ok:=(fun _=>True)) (by (with_reducible repeat (first|apply Kd.R_alloc|apply Kd.R_drewN|apply Kd.R_drew));exact HO145.out) hg hat);have n2_:=aK (hb);have n3_:=aK (ho);clear BK137;clear HO145;clear HB;clear HO141;have BK137:=n0_;have HO145:=n1_;have HB:=n2_;have HO148:=n3_;clear n0_ n1_ n2_ n3_;clear ho hb hg hat))
   go_ret2
   exact ⟨_,by first|rfl|(simp [errW_none,errW_some]<;>rfl)|(simp [*,errW_none,errW_some]<;>rfl),by (with_reducible repeat (first|apply Kd.R_alloc|apply Kd.R_drewN|apply Kd.R_drew));exact Kd.R_mono HO148.out (fun _ hk=>trivial),by repeat (first|(with_reducible first|exact HB.out|apply below_alloc|apply pw_below_drewN|apply below_drew1|refine below_set ?_ GE137.out)|exact HB.out)⟩
  ·replace c6 := Bool.eq_false_iff.mpr c6
   subst c6;rw [if_neg (show¬(false=true) by decide)] at H;simp only [Option.some.injEq,Prod.mk.injEq] at H;obtain ⟨rfl,rfl⟩:=H;go_enter Try.func41,Try.ntmps41
   go_wp2_with (first|((with_reducible refine gate_dst (N:=3) rfl ?_);refine box_event ?hg (N:=3) ?hd (cs:= #[.slice A1_0 l1_0.length c1_0,.int .i64 a1_1,.int .i64 a1_2,.int .i64 a1_3,.slice A1_4 l1_4.length c1_4]) (t:=29) ?hr ?_;(case hd=>rfl);(case hg=>rfl);(case hr=>first|(go_simp;done)|(go_simp;rfl));intro gb137 hg w14 hbox hb;have BK137:=aK (hbox);have GW137:=aK ((by rw [hg];exact (below_size zz1):w.heap.size≤gb137));have GE137:=aK ((by rw [hg];exact (below_size zz1):w.heap.size≤gb137));replace HB:=aK (below_step zz1 hb);clear hb hbox hg;obtain ⟨hcz15_0,hcz15_1,hcz15_2,hcz15_3,hcz15_4,hfz15_0,hfz15_1,hfz15_2,hfz15_3,hfz15_4⟩:=cbf5 BK137)|((with_reducible refine gate_callee (f:=45) rfl ?_);refine goesL_ (some 16) rfl rfl Try.func45 (by kernel_rfl) rfl #[.slice A0 l0.length c0,.slice A1_0 l1_0.length c1_0,.int .i64 0,.int .i64 a1_2] rfl zz2 ?_;(with_reducible refine (spec_l21Part.calls k _ _ l0 _ _ l1_0 0 a1_2 t138 false _ ?side1 ?side2 ?side3 ?side4 A3.out).mono ?_);(case side1=>exact zz7);(case side2=>exact HC0.out);(case side3=>exact zz8);(case side4=>exact HC1_0.out);rintro e w16 ⟨v140,rfl,ho0,hb⟩;refine ⟨_,rfl,?_⟩;have HO141:=aK (Kd.R_lower ho0 (below_size zz16));replace BK137:=aK (blk_below (g:=gb137) (o:= .cells #[.slice A1_0 l1_0.length c1_0,.int .i64 a1_1,.int .i64 a1_2,.int .i64 a1_3,.slice A1_4 l1_4.length c1_4] 29 (0,0)) zz44 hb);replace HB:=aK (below_step zz16 hb);(try clear hb);(try clear hb2);(try clear hk);(try clear hi);(try clear ho0);obtain ⟨hcz17_0,hcz17_1,hcz17_2,hcz17_3,hcz17_4,hfz17_0,hfz17_1,hfz17_2,hfz17_3,hfz17_4⟩:=cbf5 BK137)|((with_reducible refine gate_callee (f:=45) rfl ?_);refine goesL_ (some 27) rfl rfl Try.func45 (by kernel_rfl) rfl #[.slice A0 l0.length c0,.slice A1_0 l1_0.length c1_0,.int .i64 a1_1,.int .i64 a1_3] rfl zz2 ?_;(with_reducible refine (spec_l21Part.calls k _ _ l0 _ _ l1_0 a1_1 a1_3 t142 t143 _ ?side1 ?side2 ?side3 ?side4 A4.out).mono ?_);(case side1=>exact zz7);(case side2=>exact HC0.out);(case side3=>exact zz8);(case side4=>exact HC1_0.out);rintro e w18 ⟨v144,rfl,ho0,hb⟩;refine ⟨_,rfl,?_⟩;have HO145:=aK (Kd.R_lower (Kd.R_new' ho0 (Kd.R_lt (by (with_reducible repeat (first|apply Kd.R_alloc|apply Kd.R_drewN|apply Kd.R_drew));exact HO141.out))) (below_size zz16));replace HO141:=aK (Kd.R_elder' (by (with_reducible repeat (first|apply Kd.R_alloc|apply Kd.R_drewN|apply Kd.R_drew));exact HO141.out) (Kd.R_base ho0) hb);replace BK137:=aK (blk_below (g:=gb137) (o:= .cells #[.slice A1_0 l1_0.length c1_0,.int .i64 a1_1,.int .i64 a1_2,.int .i64 a1_3,.slice A1_4 l1_4.length c1_4] 29 (0,0)) zz44 hb);replace HB:=aK (below_step zz16 hb);(try clear hb);(try clear hb2);(try clear hk);(try clear hi);(try clear ho0);obtain ⟨Ao20,co20,eo20⟩:=Kd.R_slice HO145.out;subst eo20)|((with_reducible refine gate_builtin (b:= .append) (xs:= #[.tmp 30,.tmp 31]) rfl ?_);at_builtin;refine Kd.R_append_rows (Kd.int .i64) (w0:=w) w.heap.size rfl (.tmp 30) (.tmp 31) 23 3 (.int .i64 0) 8 rfl Try.underlying23 info3 rfl (by decide) (by omega) v140 t138 t142 _ _ _ (fun k_=>some k_≠(.slice Ao20 t142.length co20:Value).ownBlock) (fun _=>False) rfl rfl ?aO ?aR (fun _ _ h=>h) (fun _ h=>h.elim) ?aF ?aB ?aS ?aL ?_;(case aR=>repeat (first|exact (Kd.R_reads' HO145.out).2.2|(with_reducible refine Kd.C_alloc ?_ _)|(with_reducible refine Kd.C_drewN ?_ _)|(with_reducible refine Kd.C_drew ?_)));(case aB=>exact zz16);(case aF=>exact (fun k_ hk=>Kd.fresh' (Kd.R_lt (by (with_reducible repeat (first|apply Kd.R_alloc|apply Kd.R_drewN|apply Kd.R_drew));exact HO145.out)) k_ hk));(case aO=>exact (by (with_reducible repeat (first|apply Kd.R_alloc|apply Kd.R_drewN|apply Kd.R_drew));exact Kd.R_mono HO141.out (fun _ hk=>hk.2)));(case aS=>exact (below_size zz16));(case aL=>have:=LMc5.out;omega);intro v147 w19 ho hb hg hat;rw [←Ny146.out] at ho;have n0_:=aK (blk_grown (g:=gb137) (o:= .cells #[.slice A1_0 l1_0.length c1_0,.int .i64 a1_1,.int .i64 a1_2,.int .i64 a1_3,.slice A1_4 l1_4.length c1_4] 29 (0,0)) zz44 hg (Kd.R_ne HO141.out BK137.out (by decide)));have n1_:=aK (Kd.R_after (ok:=(fun _=>True)) (by (with_reducible repeat (first|apply Kd.R_alloc|apply Kd.R_drewN|apply Kd.R_drew));exact HO145.out) hg hat);have n2_:=aK (hb);have n3_:=aK (ho);clear BK137;clear HO145;clear HB;clear HO141;have BK137:=n0_;have HO145:=n1_;have HB:=n2_;have HO148:=n3_;clear n0_ n1_ n2_ n3_;clear ho hb hg hat))
   go_ret2
   exact ⟨_,by first|rfl|(simp [errW_none,errW_some]<;>rfl)|(simp [*,errW_none,errW_some]<;>rfl),by (with_reducible repeat (first|apply Kd.R_alloc|apply Kd.R_drewN|apply Kd.R_drew));exact Kd.R_mono HO148.out (fun _ hk=>trivial),by repeat (first|(with_reducible first|exact HB.out|apply below_alloc|apply pw_below_drewN|apply below_drew1|refine below_set ?_ GE137.out)|exact HB.out)⟩
 ·rw [if_neg c5] at H
  exact absurd H (by simp)
end Go.Proofs.Ytbaklikaoleplaa.K
namespace Go.Proofs.Ytbaklikaoleplaa.K
open Go.RowKit Go.Proofs.YtbaklikaoleplaaW.PrintWords Go.Proofs.YtbaklikaoleplaaW.PrintLast Go.Proofs.YtbaklikaoleplaaW.PrintMore
attribute [local go_sem] max2_int min2_int max_two min_two max_three min_three max_four min_four
set_option linter.unusedVariables false
set_option linter.unusedSimpArgs false
def spec_l21Starts.l0:Nat→List Int→List Bool→Int→Option (List Bool)
  |0,_,_,_=>none
  |k+1,x1,x5,x6=>if x6<(x1.length:Int) then (if 0≤x6 then (if 0≤(rd x1 x6) then (if (rd x1 x6)<(x5.length:Int) then (spec_l21Starts.l0 k x1 (x5.set ((rd x1 x6):Int).toNat true) (wrap64 (x6+1))) else (none)) else (none)) else (none)) else (some x5)
def spec_l21Starts.f (k:Nat) (a0:Int) (l1:List Int):Option (List Bool):=if 0≤a0 then (if (a0:Int).toNat≤281474976710656 then (spec_l21Starts.l0 k l1 (List.replicate (a0:Int).toNat false) 0) else (none)) else (none)
set_option maxHeartbeats 8000000 in
set_option maxRecDepth 100000 in
theorem spec_l21Starts.calls (k : Nat) (a0 : Int) (A1 : Option Addr) (c1 : Nat) (l1 : List Int) (r : List Bool) (w : World) (hr1 : Kd.C (Kd.int .i64) w A1 l1.length l1) (hc1 : l1.length ≤ c1) (h : spec_l21Starts.f k a0 l1 = some r) :
  Calls Try.prog 42 #[.int .i64 a0,.slice A1 l1.length c1] w fun e w'=> ∃v0_:Value,e= .returned (v0_)∧Kd.R Kd.bool 4 w' w.heap.size (fun _=>True) v0_ r∧Below w.heap.size w w':=by
 have HR1:=aK hr1;have HC1:=aK hc1;clear hr1 hc1;have HB:=aK (Below.refl w.heap.size w);have H:(if 0≤a0 then (if (a0:Int).toNat≤281474976710656 then (spec_l21Starts.l0 k l1 (List.replicate (a0:Int).toNat false) 0) else (none)) else (none))=some r:=h
 clear h;by_cases c3:0≤a0
 ·rw [if_pos c3] at H
  have c3b0:=eq_true c3;have c3b1:decide (0≤a0)=true:=decide_eq_true c3
  clear c3;by_cases c4:(a0:Int).toNat≤281474976710656
  ·rw [if_pos c4] at H
   have c4b0:=eq_true c4;have c4b1:decide ((a0:Int).toNat≤281474976710656)=true:=decide_eq_true c4
   clear c4;obtain ⟨y149,hy149⟩: ∃y_:List Bool,y_=(List.replicate (a0:Int).toNat false):=⟨_,rfl⟩;replace H:(spec_l21Starts.l0 k l1 y149 0)=some r:=by first|(rw [hy149];with_reducible exact H)|(have H2_:=(Option.bind_some _ _).symm.trans H;rw [hy149];with_reducible exact H2_)|(have H2_:=(Option.bind_some _ _).symm.trans H;with_reducible exact H2_)|with_reducible exact H|(rw [hy149];exact H)|exact H
   have Ny149:=aK hy149;clear hy149;have H':=aK H;clear H;go_enter Try.func42,Try.ntmps42
   go_wp2_with (first|((with_reducible refine gate_dst (N:=8) rfl ?_);refine Kd.R_make Kd.bool _ 4 rfl (N:=8) rfl 24 _ _ rfl a0 rfl rfl Try.underlying24 (.bool false) 1 info4 rfl (by decide) (by omega) false (ok:=fun _=>True) (okp:=fun _=>True) rfl (fun _ hk=>hk) trivial (of_decide_eq_true zz3) (Nat.le_trans (Nat.mul_le_mul_right _ (of_decide_eq_true zz3:a0.toNat≤281474976710656)) (by omega)) (Below.refl _ _) (Nat.le_refl _) ?_;intro v150 w5 ho6 hb hg_ hnew_;clear hg_ hnew_;(first|rw [←Ny149.out] at ho6|(simp only [Int.reduceToNat] at ho6;rw [←Ny149.out] at ho6));have HO151:=aK (Kd.R_lower ho6 (below_size zz1));replace HB:=aK (below_step zz1 hb);clear hb ho6))
   go_loopg [6] k (fun kq v6 w'=> ∃(x5_1:List Bool) (x6_1:Int),v6= .int .i64 x6_1∧Aside0 (spec_l21Starts.l0 kq l1 x5_1 x6_1=some r)∧Aside0 (kq≤k)∧Aside0 (Kd.R Kd.bool 4 w' w.heap.size (fun _=>True) v150 x5_1)∧Aside0 (Below w.heap.size w w'))
   case atStart=>exact ⟨(y149),(0),zz5,H',⟨Nat.le_refl _⟩,⟨by (with_reducible repeat (first|apply Kd.R_alloc|apply Kd.R_drewN|apply Kd.R_drew));exact HO151.out⟩,⟨by repeat (first|(with_reducible first|exact HB.out|apply below_alloc|apply pw_below_drewN|apply below_drew1)|exact HB.out)⟩⟩
   case round =>
    clear H';(try clear c1);(try clear p2);(try clear c3);(try clear c3b0);(try clear c3b1);(try clear c4);(try clear c4b0);(try clear c4b1);obtain ⟨x5_1,x6_1,rfl,HA,HK1,HO_5,HB⟩:=hrel
    cases gk with
    |zero=>exact absurd HA.out (by simp [spec_l21Starts.l0])
    | succ k1 =>
     have H:=HA.out;clear HA;simp only [spec_l21Starts.l0] at H;by_cases c7:x6_1<(l1.length:Int)
     ·rw [if_pos c7] at H
      have c7b0:decide (x6_1<(l1.length:Int))=true:=decide_eq_true c7
      clear c7;by_cases c8:0≤x6_1
      ·rw [if_pos c8] at H
       have c8b0:decide (0≤x6_1)=true:=decide_eq_true c8
       clear c8;by_cases c9:0≤(rd l1 x6_1)
       ·rw [if_pos c9] at H
        have c9b0:decide (0≤(rd l1 x6_1))=true:=decide_eq_true c9
        clear c9;by_cases c10:(rd l1 x6_1)<(x5_1.length:Int)
        ·rw [if_pos c10] at H
         have c10b0:decide ((rd l1 x6_1)<(x5_1.length:Int))=true:=decide_eq_true c10
         clear c10;obtain ⟨y153,hy153⟩: ∃y_:List Bool,y_=(x5_1.set ((rd l1 x6_1):Int).toNat true):=⟨_,rfl⟩;replace H:(spec_l21Starts.l0 k1 l1 y153 (wrap64 (x6_1+1)))=some r:=by first|(rw [hy153];with_reducible exact H)|(have H2_:=(Option.bind_some _ _).symm.trans H;rw [hy153];with_reducible exact H2_)|(have H2_:=(Option.bind_some _ _).symm.trans H;with_reducible exact H2_)|with_reducible exact H|(rw [hy153];exact H)|exact H
         have Ny153:=aK hy153;clear hy153;have H':=aK H;clear H;have p152:0≤(x6_1:Int):=of_decide_eq_true zz3
         have q152:x6_1<(l1.length:Int):=of_decide_eq_true zz3
         obtain ⟨ad152,e152,hx152_0⟩:=Kd.at_int HR1.out x6_1 p152 q152
         cases e152
         replace hx152_0:=(HB.out.cell (World.block_lt_of_cell? w _ hx152_0)).trans hx152_0;replace p152:=eq_true p152;replace q152:=eq_true q152;have p11:0≤((rd l1 x6_1):Int):=of_decide_eq_true zz3
         have q11:((rd l1 x6_1):Int)<((x5_1.length:Int):Int):=of_decide_eq_true zz3
         obtain ⟨go11,co11,eo11,gb11,gl11,cl11,HG11⟩:=Kd.R_form HO_5.out (by omega)
         (first|cases eo11|(injection eo11 with ea_ en_ ec_;(first|subst ea_|(injection ea_ with ea_;subst ea_));subst ec_;clear en_))
         have GB11:=aK gb11;have GG11:=aK HG11;clear gb11 gl11 HG11;obtain ⟨hx11_0,hf11_0⟩:=Kd.R_celln false HO_5.out ((rd l1 x6_1):Int) p11 q11;replace p11:=eq_true p11;replace q11:=eq_true q11;have HP12:=Kd.R_putg HO_5.out ((rd l1 x6_1):Int) true
         go_wp2_with (first|((with_reducible refine gate_store (t:=4) (p:=20) rfl ?_);refine store_event (t:=4) (p:=20) (v:=?vo_w13) (w1:=(wr.setCell ⟨go11,((rd l1 x6_1):Int).toNat,none⟩ (.bool true))) ?hg ?ho ?hn ?hr ?_;(case ho=>rfl);(case hg=>rfl);(case hn=>rfl);(case hr=>first|(go_simp;done)|(go_simp;rfl)|((try (first|(obtain ⟨_,_,rfl⟩:=Kd.R_slice HO_5.out)|(obtain ⟨_,_,rfl⟩:=Kd.S_slice HO_5.out)));first|(go_simp;done)|(go_simp;rfl)));intro w13 hw;have hg:wr.grownBy w13 (some go11):=(by rw [hw];exact HP12.2);have hp_:Kd.R Kd.bool 4 w13 w.heap.size (fun _=>True) (.slice (some ⟨go11,0,none⟩) x5_1.length co11) y153:=(by rw [hw,Ny153.out];exact HP12.1);clear HP12;replace HO_5:=aK (hp_);replace HB:=aK ((by rw [hw];exact below_set (HB.out) GB11.out:Below w.heap.size w w13));clear hg hw hp_))
         go_roundg k1
         case measure=>have:=HK1.out;omega
         case rel=>exact ⟨(y153),(wrap64 (x6_1+1)),zz5,H',⟨by have:=HK1.out;omega⟩,⟨by (with_reducible repeat (first|apply Kd.R_alloc|apply Kd.R_drewN|apply Kd.R_drew));exact HO_5.out⟩,⟨by repeat (first|(with_reducible first|exact HB.out|apply below_alloc|apply pw_below_drewN|apply below_drew1)|exact HB.out)⟩⟩
        ·rw [if_neg c10] at H
         exact absurd H (by simp)
       ·rw [if_neg c9] at H
        exact absurd H (by simp)
      ·rw [if_neg c8] at H
       exact absurd H (by simp)
     ·rw [if_neg c7] at H
      have c7b0:decide (x6_1<(l1.length:Int))=false:=decide_eq_false c7
      clear c7;obtain rfl:=Option.some.inj H;go_wp2;go_ret;exact ⟨_,by first|rfl|(simp [errW_none,errW_some]<;>rfl)|(simp [*,errW_none,errW_some]<;>rfl),by (with_reducible repeat (first|apply Kd.R_alloc|apply Kd.R_drewN|apply Kd.R_drew));exact HO_5.out,by repeat (first|(with_reducible first|exact HB.out|apply below_alloc|apply pw_below_drewN|apply below_drew1)|exact HB.out)⟩
  ·rw [if_neg c4] at H
   exact absurd H (by simp)
 ·rw [if_neg c3] at H
  exact absurd H (by simp)
end Go.Proofs.Ytbaklikaoleplaa.K
namespace Go.Proofs.Ytbaklikaoleplaa.K
open Go.RowKit Go.Proofs.YtbaklikaoleplaaW.PrintWords Go.Proofs.YtbaklikaoleplaaW.PrintLast Go.Proofs.YtbaklikaoleplaaW.PrintMore
attribute [local go_sem] max2_int min2_int max_two min_two max_three min_three max_four min_four
set_option linter.unusedVariables false
set_option linter.unusedSimpArgs false
def spec_l2Field.f (l0:List (S53)) (a1:Int):Option (Bool):=if a1=1 then (some true) else (if a1=3 then (some true) else (if a1=4 then (some true) else ((spec_l6In.f a1 8 (wrap64 ((wrap64 (8+(l0.length:Int))) - 1))).bind fun t154=>(some t154))))
set_option maxHeartbeats 8000000 in
set_option maxRecDepth 100000 in
theorem spec_l2Field.calls (A0:Option Addr) (c0:Nat) (l0:List (S53)) (a1:Int) (r:Bool) (w:World) (hr0:Kd.C k53 w A0 l0.length l0) (hc0:l0.length≤c0) (h:spec_l2Field.f l0 a1=some r):
  Calls Try.prog 117 #[.slice A0 l0.length c0,.int .i64 a1] w fun e w'=>e= .returned (.bool r)∧Drawn0 w w':=by
 have HR0:=aK hr0;have HC0:=aK hc0;clear hr0 hc0;have H:(if a1=1 then (some true) else (if a1=3 then (some true) else (if a1=4 then (some true) else ((spec_l6In.f a1 8 (wrap64 ((wrap64 (8+(l0.length:Int))) - 1))).bind fun t154=>(some t154)))))=some r:=h
 clear h;by_cases c3:a1=1
 ·rw [if_pos c3] at H
  have c3b0:(a1==1)=true:=beq_iff_eq.mpr c3
  have c3b1:(a1 !=1)=false:=bne_eq_false_iff_eq.mpr c3
  clear c3;obtain rfl:=Option.some.inj H;go_enter Try.func117,Try.ntmps117;go_wp2;go_ret;exact ⟨zz5,zz10⟩
 ·rw [if_neg c3] at H
  have c3b0:(a1==1)=false:=beq_eq_false_iff_ne.mpr c3
  have c3b1:(a1 !=1)=true:=bne_iff_ne.mpr c3
  by_cases c4:a1=3
  ·rw [if_pos c4] at H
   have c4b0:(a1==3)=true:=beq_iff_eq.mpr c4
   have c4b1:(a1 !=3)=false:=bne_eq_false_iff_eq.mpr c4
   clear c4;obtain rfl:=Option.some.inj H;go_enter Try.func117,Try.ntmps117;go_wp2;go_ret;exact ⟨zz5,zz10⟩
  ·rw [if_neg c4] at H
   have c4b0:(a1==3)=false:=beq_eq_false_iff_ne.mpr c4
   have c4b1:(a1 !=3)=true:=bne_iff_ne.mpr c4
   by_cases c5:a1=4
   ·rw [if_pos c5] at H
    have c5b0:(a1==4)=true:=beq_iff_eq.mpr c5
    have c5b1:(a1 !=4)=false:=bne_eq_false_iff_eq.mpr c5
    clear c5;obtain rfl:=Option.some.inj H;go_enter Try.func117,Try.ntmps117;go_wp2;go_ret;exact ⟨zz5,zz10⟩
   ·rw [if_neg c5] at H
    have c5b0:(a1==4)=false:=beq_eq_false_iff_ne.mpr c5
    have c5b1:(a1 !=4)=true:=bne_iff_ne.mpr c5
    replace H:=Option.bind_eq_some_iff.mp H;obtain ⟨t154,A60,H⟩:=H;(try dsimp only at H);have A6:=aK A60;clear A60;obtain rfl:=Option.some.inj H;go_enter Try.func117,Try.ntmps117
    go_wp2_with (first|(go_at_call 73;(with_reducible refine (spec_l6In.calls a1 8 (wrap64 ((wrap64 (8+(l0.length:Int))) - 1)) t154 _ A6.out).mono ?_);rintro e w' ⟨rfl,⟨nd,rfl⟩⟩))
    go_ret;exact ⟨zz5,zz10⟩
end Go.Proofs.Ytbaklikaoleplaa.K
namespace Go.Proofs.Ytbaklikaoleplaa.K
open Go.RowKit Go.Proofs.YtbaklikaoleplaaW.PrintWords Go.Proofs.YtbaklikaoleplaaW.PrintLast Go.Proofs.YtbaklikaoleplaaW.PrintMore
attribute [local go_sem] max2_int min2_int max_two min_two max_three min_three max_four min_four
set_option linter.unusedVariables false
set_option linter.unusedSimpArgs false
def spec_l2Class.l0:Nat→List (S53)→Int→Int→Int→List Int→Option (Bool)
  |0,_,_,_,_,_=>none
  |k+1,x0,x1,x6,x157000,x157001=>if x6<(x157001.length:Int) then (if 0≤x6 then ((spec_l2Field.f x0 (rd x157001 x6)).bind fun t158=>(if t158=true then (spec_l2Class.l0 k x0 x1 (wrap64 (x6+1)) x157000 x157001) else (some false))) else (none)) else (if x1=0 then (if x157000=(-1) then (some ((x157001.length:Int)==0)) else (some false)) else (if x1=1 then (if x157000=0 then (if (x157001.length:Int)=1 then (if 0<(x157001.length:Int) then (some ((rd x157001 0)==1)) else (none)) else (some false)) else (some false)) else ((spec_l6In.f x157000 0 (wrap64 (x1 - 1))).bind fun t160=>(if t160=true then (some (decide ((x157001.length:Int)≤2))) else (some false)))))
def spec_l2Class.f (k:Nat) (l0:List (S53)) (a1:Int):Option (Bool):=if 0≤a1 then (if a1<(l0.length:Int) then (spec_l2Class.l0 k l0 a1 0 ((rd_T53 l0 a1).f0) ((rd_T53 l0 a1).f1)) else (none)) else (none)
set_option maxHeartbeats 8000000 in
set_option maxRecDepth 100000 in
theorem spec_l2Class.calls (k : Nat) (A0 : Option Addr) (c0 : Nat) (l0 : List (S53)) (a1 : Int) (r : Bool) (w : World) (hr0 : Kd.C k53 w A0 l0.length l0) (hc0 : l0.length ≤ c0) (h : spec_l2Class.f k l0 a1 = some r) :
  Calls Try.prog 115 #[.slice A0 l0.length c0,.int .i64 a1] w fun e w'=>e= .returned (.bool r)∧Below w.heap.size w w':=by
 have hu53:=Try.underlying53;have HR0:=aK hr0;have HC0:=aK hc0;clear hr0 hc0;have HB:=aK (Below.refl w.heap.size w);have H:(if 0≤a1 then (if a1<(l0.length:Int) then (spec_l2Class.l0 k l0 a1 0 ((rd_T53 l0 a1).f0) ((rd_T53 l0 a1).f1)) else (none)) else (none))=some r:=h
 clear h;by_cases c3:0≤a1
 ·rw [if_pos c3] at H
  have c3b0:decide (0≤a1)=true:=decide_eq_true c3
  clear c3;by_cases c4:a1<(l0.length:Int)
  ·rw [if_pos c4] at H
   have c4b0:decide (a1<(l0.length:Int))=true:=decide_eq_true c4
   clear c4;have H':=aK H;clear H;have p155:0≤(a1:Int):=of_decide_eq_true zz3
   have q155:a1<(l0.length:Int):=of_decide_eq_true zz3
   obtain ⟨ad155,A155_1,c155_1,e155,hx155_0,hx155_1,hl155_1,hi155_1⟩:=at_T53 HR0.out a1 p155 q155
   cases e155
   have HR155_1:=aK hi155_1;have HC155_1:=aK hl155_1;clear hi155_1 hl155_1;replace p155:=eq_true p155;replace q155:=eq_true q155;go_enter Try.func115,Try.ntmps115
   go_wp2_with (first|((with_reducible refine gate_dst (N:=5) rfl ?_);(try (refine gate_guard (by rfl) ?_;dsimp only));refine box_event ?hg (N:=5) ?hd (cs:= #[.int .i64 0,.slice none 0 0]) (t:=53) ?hr ?_;(case hd=>rfl);(case hg=>rfl);(case hr=>first|(go_simp;done)|(go_simp;rfl));intro gb156 hg w5 hbox hb;have BK156:=aK (hbox);have GW156:=aK ((by rw [hg];exact (below_size zz1):w.heap.size≤gb156));have GE156:=aK ((by rw [hg];exact (below_size zz1):w.heap.size≤gb156));replace HB:=aK (below_step zz1 hb);clear hb hbox hg;obtain ⟨hcz6_0,hcz6_1,hfz6_0,hfz6_1⟩:=cbf2 BK156))
   go_loopg [6] k (fun kq v6 w'=> ∃(x6_1:Int),v6= .int .i64 x6_1∧Aside0 (spec_l2Class.l0 kq l0 a1 x6_1 ((rd_T53 l0 a1).f0) ((rd_T53 l0 a1).f1)=some r)∧Aside0 (kq≤k)∧Aside0 (w'.heap[gb156]? =some (.cells #[.int .i64 ((rd_T53 l0 a1).f0),(.slice A155_1 ((rd_T53 l0 a1).f1).length c155_1)] 53 (0,0)))∧Aside0 (Below w.heap.size w w'))
   case atStart=>exact ⟨(0),zz5,H',⟨Nat.le_refl _⟩,⟨by (with_reducible repeat (first|refine blk_drewN ?_ _|refine blk_drew ?_|refine blk_alloc ?_ _));refine blk_put (cs:= #[.int .i64 ((rd_T53 l0 a1).f0),.slice none 0 0]) ?_ 1 _ rfl;(with_reducible repeat (first|refine blk_drewN ?_ _|refine blk_drew ?_|refine blk_alloc ?_ _));refine blk_put (cs:= #[.int .i64 0,.slice none 0 0]) ?_ 0 _ rfl;(with_reducible repeat (first|refine blk_drewN ?_ _|refine blk_drew ?_|refine blk_alloc ?_ _));exact BK156.out⟩,⟨by repeat (first|(with_reducible first|exact HB.out|apply below_alloc|apply pw_below_drewN|apply below_drew1|refine below_set ?_ GE156.out)|exact HB.out)⟩⟩
   case round =>
    clear H';(try clear c1);(try clear p1);(try clear q1);(try clear hx1);(try clear p2);(try clear c3);(try clear c3b0);(try clear c4);(try clear c4b0);(try clear hcz6_0);(try clear hcz6_1);(try clear hfz6_0);(try clear hfz6_1);(try clear hx155_0);(try clear hx155_1);(try clear p155);(try clear q155);obtain ⟨x6_1,rfl,HA,HK1,BK156,HB⟩:=hrel
    cases gk with
    |zero=>exact absurd HA.out (by simp [spec_l2Class.l0])
    | succ k1 =>
     have H:=HA.out;clear HA;simp only [spec_l2Class.l0] at H;by_cases c7:x6_1<(((rd_T53 l0 a1).f1).length:Int)
     ·rw [if_pos c7] at H
      have c7b0:decide (x6_1<(((rd_T53 l0 a1).f1).length:Int))=true:=decide_eq_true c7
      clear c7;by_cases c8:0≤x6_1
      ·rw [if_pos c8] at H
       have c8b0:decide (0≤x6_1)=true:=decide_eq_true c8
       clear c8;replace H:=Option.bind_eq_some_iff.mp H;obtain ⟨t158,A90,H⟩:=H;(try dsimp only at H);have A9:=aK A90;clear A90;by_cases c10:t158=true
       ·subst c10
        rw [if_pos rfl] at H;have H':=aK H;clear H;obtain ⟨hcz11_0,hcz11_1,hfz11_0,hfz11_1⟩:=cbf2 BK156;have p157:0≤(x6_1:Int):=of_decide_eq_true zz3
        have q157:x6_1<(((rd_T53 l0 a1).f1).length:Int):=of_decide_eq_true zz3
        obtain ⟨ad157,e157,hx157_0⟩:=Kd.at_int HR155_1.out x6_1 p157 q157
        cases e157
        replace hx157_0:=(HB.out.cell (World.block_lt_of_cell? w _ hx157_0)).trans hx157_0;replace p157:=eq_true p157;replace q157:=eq_true q157
        go_wp2_with (first|((with_reducible refine gate_callee (f:=117) rfl ?_);refine goesL_ (some 24) rfl rfl Try.func117 (by kernel_rfl) rfl #[.slice (some ad155) l0.length c0,.int .i64 (rd ((rd_T53 l0 a1).f1) x6_1)] rfl zz2 ?_;(with_reducible refine (spec_l2Field.calls _ _ l0 (rd ((rd_T53 l0 a1).f1) x6_1) true _ ?side1 ?side2 A9.out).mono ?_);(case side1=>exact zz7);(case side2=>exact HC0.out);rintro e w' ⟨rfl,⟨nd,rfl⟩⟩;refine ⟨_,rfl,?_⟩))
        go_roundg k1
        case measure=>have:=HK1.out;omega
        case rel=>exact ⟨(wrap64 (x6_1+1)),zz5,H',⟨by have:=HK1.out;omega⟩,⟨by (with_reducible repeat (first|refine blk_drewN ?_ _|refine blk_drew ?_|refine blk_alloc ?_ _));exact BK156.out⟩,⟨by repeat (first|(with_reducible first|exact HB.out|apply below_alloc|apply pw_below_drewN|apply below_drew1|refine below_set ?_ GE156.out)|exact HB.out)⟩⟩
       ·replace c10 := Bool.eq_false_iff.mpr c10
        subst c10;rw [if_neg (show¬(false=true) by decide)] at H;obtain rfl:=Option.some.inj H;obtain ⟨hcz12_0,hcz12_1,hfz12_0,hfz12_1⟩:=cbf2 BK156;have p157:0≤(x6_1:Int):=of_decide_eq_true zz3
        have q157:x6_1<(((rd_T53 l0 a1).f1).length:Int):=of_decide_eq_true zz3
        obtain ⟨ad157,e157,hx157_0⟩:=Kd.at_int HR155_1.out x6_1 p157 q157
        cases e157
        replace hx157_0:=(HB.out.cell (World.block_lt_of_cell? w _ hx157_0)).trans hx157_0;replace p157:=eq_true p157;replace q157:=eq_true q157
        go_wp2_with (first|((with_reducible refine gate_callee (f:=117) rfl ?_);refine goesL_ (some 24) rfl rfl Try.func117 (by kernel_rfl) rfl #[.slice (some ad155) l0.length c0,.int .i64 (rd ((rd_T53 l0 a1).f1) x6_1)] rfl zz2 ?_;(with_reducible refine (spec_l2Field.calls _ _ l0 (rd ((rd_T53 l0 a1).f1) x6_1) false _ ?side1 ?side2 A9.out).mono ?_);(case side1=>exact zz7);(case side2=>exact HC0.out);rintro e w' ⟨rfl,⟨nd,rfl⟩⟩;refine ⟨_,rfl,?_⟩))
        go_ret;exact ⟨zz6,zz25⟩
      ·rw [if_neg c8] at H
       exact absurd H (by simp)
     ·rw [if_neg c7] at H
      have c7b0:decide (x6_1<(((rd_T53 l0 a1).f1).length:Int))=false:=decide_eq_false c7
      clear c7;by_cases c13:a1=0
      ·rw [if_pos c13] at H
       have c13b0:(a1==0)=true:=beq_iff_eq.mpr c13
       have c13b1:(a1 !=0)=false:=bne_eq_false_iff_eq.mpr c13
       clear c13;by_cases c14:((rd_T53 l0 a1).f0)=(-1)
       ·rw [if_pos c14] at H
        have c14b0:(((rd_T53 l0 a1).f0)==(-1))=true:=beq_iff_eq.mpr c14
        have c14b1:(((rd_T53 l0 a1).f0) !=(-1))=false:=bne_eq_false_iff_eq.mpr c14
        clear c14;obtain rfl:=Option.some.inj H;obtain ⟨hcz15_0,hcz15_1,hfz15_0,hfz15_1⟩:=cbf2 BK156;go_wp2;go_ret;exact ⟨zz6,zz25⟩
       ·rw [if_neg c14] at H
        have c14b0:(((rd_T53 l0 a1).f0)==(-1))=false:=beq_eq_false_iff_ne.mpr c14
        have c14b1:(((rd_T53 l0 a1).f0) !=(-1))=true:=bne_iff_ne.mpr c14
        obtain rfl:=Option.some.inj H;obtain ⟨hcz16_0,hcz16_1,hfz16_0,hfz16_1⟩:=cbf2 BK156;go_wp2;go_ret;exact ⟨zz6,zz25⟩
      ·rw [if_neg c13] at H
       have c13b0:(a1==0)=false:=beq_eq_false_iff_ne.mpr c13
       have c13b1:(a1 !=0)=true:=bne_iff_ne.mpr c13
       by_cases c17:a1=1
       ·rw [if_pos c17] at H
        have c17b0:(a1==1)=true:=beq_iff_eq.mpr c17
        have c17b1:(a1 !=1)=false:=bne_eq_false_iff_eq.mpr c17
        clear c17;by_cases c18:((rd_T53 l0 a1).f0)=0
        ·rw [if_pos c18] at H
         have c18b0:(((rd_T53 l0 a1).f0)==0)=true:=beq_iff_eq.mpr c18
         have c18b1:(((rd_T53 l0 a1).f0) !=0)=false:=bne_eq_false_iff_eq.mpr c18
         clear c18;by_cases c19:(((rd_T53 l0 a1).f1).length:Int)=1
         ·rw [if_pos c19] at H
          have c19b0:((((rd_T53 l0 a1).f1).length:Int)==1)=true:=beq_iff_eq.mpr c19
          have c19b1:((((rd_T53 l0 a1).f1).length:Int) !=1)=false:=bne_eq_false_iff_eq.mpr c19
          clear c19;by_cases c20:0<(((rd_T53 l0 a1).f1).length:Int)
          ·rw [if_pos c20] at H
           have c20b0:decide (0<(((rd_T53 l0 a1).f1).length:Int))=true:=decide_eq_true c20
           have c20b1:decide (0<((rd_T53 l0 a1).f1).length)=true:=decide_eq_true (by omega)
           clear c20;obtain rfl:=Option.some.inj H;obtain ⟨hcz21_0,hcz21_1,hfz21_0,hfz21_1⟩:=cbf2 BK156;have p159:0≤(0:Int):=(by omega)
           have q159:0<(((rd_T53 l0 a1).f1).length:Int):=of_decide_eq_true zz3
           obtain ⟨ad159,e159,hx159_0⟩:=Kd.at_int HR155_1.out 0 p159 q159
           cases e159
           have qi159:(0<((rd_T53 l0 a1).f1).length)=True:=eq_true (by omega)
           (try rw [show ((0:Int)).toNat=0 from rfl] at hx159_0)
           (try rw [Addr.add_zero'] at hx159_0)
           replace hx159_0:=(HB.out.cell (World.block_lt_of_cell? w _ hx159_0)).trans hx159_0;replace p159:=eq_true p159;replace q159:=eq_true q159;go_wp2;go_ret;exact ⟨zz6,zz25⟩
          ·rw [if_neg c20] at H
           exact absurd H (by simp)
         ·rw [if_neg c19] at H
          have c19b0:((((rd_T53 l0 a1).f1).length:Int)==1)=false:=beq_eq_false_iff_ne.mpr c19
          have c19b1:((((rd_T53 l0 a1).f1).length:Int) !=1)=true:=bne_iff_ne.mpr c19
          obtain rfl:=Option.some.inj H;obtain ⟨hcz22_0,hcz22_1,hfz22_0,hfz22_1⟩:=cbf2 BK156;go_wp2;go_ret;exact ⟨zz6,zz25⟩
        ·rw [if_neg c18] at H
         have c18b0:(((rd_T53 l0 a1).f0)==0)=false:=beq_eq_false_iff_ne.mpr c18
         have c18b1:(((rd_T53 l0 a1).f0) !=0)=true:=bne_iff_ne.mpr c18
         obtain rfl:=Option.some.inj H;obtain ⟨hcz23_0,hcz23_1,hfz23_0,hfz23_1⟩:=cbf2 BK156;go_wp2;go_ret;exact ⟨zz6,zz25⟩
       ·rw [if_neg c17] at H
        have c17b0:(a1==1)=false:=beq_eq_false_iff_ne.mpr c17
        have c17b1:(a1 !=1)=true:=bne_iff_ne.mpr c17
        replace H:=Option.bind_eq_some_iff.mp H;obtain ⟨t160,A240,H⟩:=H;(try dsimp only at H);have A24:=aK A240;clear A240;by_cases c25:t160=true
        ·subst c25
         rw [if_pos rfl] at H;obtain rfl:=Option.some.inj H;obtain ⟨hcz26_0,hcz26_1,hfz26_0,hfz26_1⟩:=cbf2 BK156
         go_wp2_with (first|((with_reducible refine gate_callee (f:=73) rfl ?_);refine goesL_ (some 60) rfl rfl Try.func73 (by kernel_rfl) rfl #[.int .i64 ((rd_T53 l0 a1).f0),.int .i64 0,.int .i64 (wrap64 (a1 - 1))] rfl zz2 ?_;(with_reducible refine (spec_l6In.calls ((rd_T53 l0 a1).f0) 0 (wrap64 (a1 - 1)) true _ A24.out).mono ?_);rintro e w' ⟨rfl,⟨nd,rfl⟩⟩;refine ⟨_,rfl,?_⟩))
         go_ret;exact ⟨zz6,zz25⟩
        ·replace c25 := Bool.eq_false_iff.mpr c25
         subst c25;rw [if_neg (show¬(false=true) by decide)] at H;obtain rfl:=Option.some.inj H;obtain ⟨hcz27_0,hcz27_1,hfz27_0,hfz27_1⟩:=cbf2 BK156
         go_wp2_with (first|((with_reducible refine gate_callee (f:=73) rfl ?_);refine goesL_ (some 60) rfl rfl Try.func73 (by kernel_rfl) rfl #[.int .i64 ((rd_T53 l0 a1).f0),.int .i64 0,.int .i64 (wrap64 (a1 - 1))] rfl zz2 ?_;(with_reducible refine (spec_l6In.calls ((rd_T53 l0 a1).f0) 0 (wrap64 (a1 - 1)) false _ A24.out).mono ?_);rintro e w' ⟨rfl,⟨nd,rfl⟩⟩;refine ⟨_,rfl,?_⟩))
         go_ret;exact ⟨zz6,zz25⟩
  ·rw [if_neg c4] at H
   exact absurd H (by simp)
 ·rw [if_neg c3] at H
  exact absurd H (by simp)
end Go.Proofs.Ytbaklikaoleplaa.K
namespace Go.Proofs.Ytbaklikaoleplaa.K
open Go.RowKit Go.Proofs.YtbaklikaoleplaaW.PrintWords Go.Proofs.YtbaklikaoleplaaW.PrintLast Go.Proofs.YtbaklikaoleplaaW.PrintMore
attribute [local go_sem] max2_int min2_int max_two min_two max_three min_three max_four min_four
set_option linter.unusedVariables false
set_option linter.unusedSimpArgs false
def spec_ClassesOk.l0:Nat→List (S53)→Int→Option (Bool)
  |0,_,_=>none
  |k+1,x0,x3=>if x3<(x0.length:Int) then ((spec_l2Class.f k x0 x3).bind fun t162=>(if t162=true then (spec_ClassesOk.l0 k x0 (wrap64 (x3+1))) else (some false))) else (some true)
def spec_ClassesOk.f (k:Nat) (l0:List (S53)):Option (Bool):=(spec_l6In.f (l0.length:Int) 2 5).bind fun t161=>(if t161=true then (spec_ClassesOk.l0 k l0 0) else (some false))
set_option maxHeartbeats 8000000 in
set_option maxRecDepth 100000 in
theorem spec_ClassesOk.calls (k:Nat) (A0:Option Addr) (c0:Nat) (l0:List (S53)) (r:Bool) (w:World) (hr0:Kd.C k53 w A0 l0.length l0) (hc0:l0.length≤c0) (h:spec_ClassesOk.f k l0=some r):
  Calls Try.prog 102 #[.slice A0 l0.length c0] w fun e w'=>e= .returned (.bool r)∧Below w.heap.size w w':=by
 have HR0:=aK hr0;have HC0:=aK hc0;clear hr0 hc0;have HB:=aK (Below.refl w.heap.size w);have H:((spec_l6In.f (l0.length:Int) 2 5).bind fun t161=>(if t161=true then (spec_ClassesOk.l0 k l0 0) else (some false)))=some r:=h
 clear h;replace H:=Option.bind_eq_some_iff.mp H;obtain ⟨t161,A20,H⟩:=H;(try dsimp only at H);have A2:=aK A20;clear A20;by_cases c3:t161=true
 ·subst c3
  rw [if_pos rfl] at H;have H':=aK H;clear H;go_enter Try.func102,Try.ntmps102
  go_wp2_with (first|((with_reducible refine gate_callee (f:=73) rfl ?_);refine goesL_ (some 6) rfl rfl Try.func73 (by kernel_rfl) rfl #[.int .i64 (l0.length:Int),.int .i64 2,.int .i64 5] rfl zz2 ?_;(with_reducible refine (spec_l6In.calls (l0.length:Int) 2 5 true _ A2.out).mono ?_);rintro e w' ⟨rfl,⟨nd,rfl⟩⟩;refine ⟨_,rfl,?_⟩))
  go_loopg [3] k (fun kq v3 w'=> ∃(x3_1:Int),v3= .int .i64 x3_1∧Aside0 (spec_ClassesOk.l0 kq l0 x3_1=some r)∧Aside0 (kq≤k)∧Aside0 (Below w.heap.size w w'))
  case atStart=>exact ⟨(0),zz5,H',⟨Nat.le_refl _⟩,⟨by repeat (first|(with_reducible first|exact HB.out|apply below_alloc|apply pw_below_drewN|apply below_drew1)|exact HB.out)⟩⟩
  case round=>
   clear H';(try clear c1);(try clear p2);(try clear c3);obtain ⟨x3_1,rfl,HA,HK1,HB⟩:=hrel
   cases gk with
   |zero=>exact absurd HA.out (by simp [spec_ClassesOk.l0])
   | succ k1 =>
    have H:=HA.out;clear HA;simp only [spec_ClassesOk.l0] at H;by_cases c4:x3_1<(l0.length:Int)
    ·rw [if_pos c4] at H
     have c4b0:decide (x3_1<(l0.length:Int))=true:=decide_eq_true c4
     clear c4;replace H:=Option.bind_eq_some_iff.mp H;obtain ⟨t162,A50,H⟩:=H;(try dsimp only at H);have A5:=aK A50;clear A50;by_cases c6:t162=true
     ·subst c6
      rw [if_pos rfl] at H;have H':=aK H;clear H
      go_wp2_with (first|((with_reducible refine gate_callee (f:=115) rfl ?_);refine goesL_ (some 16) rfl rfl Try.func115 (by kernel_rfl) rfl #[.slice A0 l0.length c0,.int .i64 x3_1] rfl zz2 ?_;(with_reducible refine (spec_l2Class.calls k1 _ _ l0 x3_1 true _ ?side1 ?side2 A5.out).mono ?_);(case side1=>exact zz7);(case side2=>exact HC0.out);rintro e w7 ⟨rfl,hb⟩;refine ⟨_,rfl,?_⟩;replace HB:=aK (below_step zz1 hb);(try clear hb);(try clear hb2);(try clear hk);(try clear hi)))
      go_roundg k1
      case measure=>have:=HK1.out;omega
      case rel=>exact ⟨(wrap64 (x3_1+1)),zz5,H',⟨by have:=HK1.out;omega⟩,⟨by repeat (first|(with_reducible first|exact HB.out|apply below_alloc|apply pw_below_drewN|apply below_drew1)|exact HB.out)⟩⟩
     ·replace c6 := Bool.eq_false_iff.mpr c6
      subst c6;rw [if_neg (show¬(false=true) by decide)] at H;obtain rfl:=Option.some.inj H
      go_wp2_with (first|((with_reducible refine gate_callee (f:=115) rfl ?_);refine goesL_ (some 16) rfl rfl Try.func115 (by kernel_rfl) rfl #[.slice A0 l0.length c0,.int .i64 x3_1] rfl zz2 ?_;(with_reducible refine (spec_l2Class.calls k1 _ _ l0 x3_1 false _ ?side1 ?side2 A5.out).mono ?_);(case side1=>exact zz7);(case side2=>exact HC0.out);rintro e w8 ⟨rfl,hb⟩;refine ⟨_,rfl,?_⟩;replace HB:=aK (below_step zz1 hb);(try clear hb);(try clear hb2);(try clear hk);(try clear hi)))
      go_ret;exact ⟨zz6,zz1⟩
    ·rw [if_neg c4] at H
     have c4b0:decide (x3_1<(l0.length:Int))=false:=decide_eq_false c4
     clear c4;obtain rfl:=Option.some.inj H;go_wp2;go_ret;exact ⟨zz6,zz1⟩
 ·replace c3 := Bool.eq_false_iff.mpr c3
  subst c3;rw [if_neg (show¬(false=true) by decide)] at H;obtain rfl:=Option.some.inj H;go_enter Try.func102,Try.ntmps102
  go_wp2_with (first|((with_reducible refine gate_callee (f:=73) rfl ?_);refine goesL_ (some 6) rfl rfl Try.func73 (by kernel_rfl) rfl #[.int .i64 (l0.length:Int),.int .i64 2,.int .i64 5] rfl zz2 ?_;(with_reducible refine (spec_l6In.calls (l0.length:Int) 2 5 false _ A2.out).mono ?_);rintro e w' ⟨rfl,⟨nd,rfl⟩⟩;refine ⟨_,rfl,?_⟩))
  go_ret;exact ⟨zz6,zz1⟩
end Go.Proofs.Ytbaklikaoleplaa.K
namespace Go.Proofs.Ytbaklikaoleplaa.K
open Go.RowKit Go.Proofs.YtbaklikaoleplaaW.PrintWords Go.Proofs.YtbaklikaoleplaaW.PrintLast Go.Proofs.YtbaklikaoleplaaW.PrintMore
attribute [local go_sem] max2_int min2_int max_two min_two max_three min_three max_four min_four
set_option linter.unusedVariables false
set_option linter.unusedSimpArgs false
def spec_l21Cards.f (a0:Int):Option (Int):=some (wrap64 (Int.tdiv (wrap64 ((wrap64 (a0+4)) - 1)) 4))
set_option maxHeartbeats 8000000 in
set_option maxRecDepth 100000 in
theorem spec_l21Cards.calls (a0:Int) (r:Int) (w:World) (h:spec_l21Cards.f a0=some r):
  Calls Try.prog 103 #[.int .i64 a0] w fun e w'=>e= .returned (.int .i64 r)∧Drawn0 w w':=by
 have H:(some (wrap64 (Int.tdiv (wrap64 ((wrap64 (a0+4)) - 1)) 4)))=some r:=h
 clear h;obtain rfl:=Option.some.inj H;go_enter Try.func103,Try.ntmps103;go_wp2;go_ret;exact ⟨zz5,zz10⟩
end Go.Proofs.Ytbaklikaoleplaa.K
