import Derived.Test.YtehefmgplkolaaaPe24
namespace Go.Proofs.Ytehefmgplkolaaa.K
open Go.RowKit Go.Proofs.YtehefmgplkolaaaW.PrintWords Go.Proofs.YtehefmgplkolaaaW.PrintLast Go.Proofs.YtehefmgplkolaaaW.PrintMore
attribute [local go_sem] max2_int min2_int max_two min_two max_three min_three max_four min_four
set_option linter.unusedVariables false
set_option linter.unusedSimpArgs false
def spec_l2Ref.f (a0:Int):Option (Bool):=some (decide (a0≥2))
set_option maxHeartbeats 8000000 in
set_option maxRecDepth 100000 in
theorem spec_l2Ref.calls (a0:Int) (r:Bool) (w:World) (h:spec_l2Ref.f a0=some r):
  Calls Try.prog 49 #[.int .i64 a0] w fun e w'=>e= .returned (.bool r)∧Drawn0 w w':=by
 have H:(some (decide (a0≥2)))=some r:=h
 clear h;obtain rfl:=Option.some.inj H;go_enter Try.func49,Try.ntmps49;go_wp2;go_ret;exact ⟨zz12,zz44⟩
def spec_l2Up.l0:Nat→List (S48)→Int→Int→Option (Bool)
  |0,_,_,_=>none
  |k+1,x0,x1,x2=>if x1>x2 then (if 0≤x1 then (if x1<(x0.length:Int) then (spec_l2Up.l0 k x0 ((rd_T48 x0 x1).f0) x2) else (none)) else (none)) else (some (x1==x2))
def spec_l2Up.f (k:Nat) (l0:List (S48)) (a1:Int) (a2:Int):Option (Bool):=spec_l2Up.l0 k l0 a1 a2
set_option maxHeartbeats 8000000 in
set_option maxRecDepth 100000 in
theorem spec_l2Up.calls (k:Nat) (A0:Option Addr) (c0:Nat) (l0:List (S48)) (a1:Int) (a2:Int) (r:Bool) (w:World) (hr0:Kd.C k48 w A0 l0.length l0) (hc0:l0.length≤c0) (h:spec_l2Up.f k l0 a1 a2=some r):
  Calls Try.prog 62 #[.slice A0 l0.length c0,.int .i64 a1,.int .i64 a2] w fun e w'=>e= .returned (.bool r)∧Drawn0 w w':=by
 have HR0:=aK hr0;have HC0:=aK hc0;clear hr0 hc0;have H:(spec_l2Up.l0 k l0 a1 a2)=some r:=h
 clear h;have H':=aK H;clear H;go_enter Try.func62,Try.ntmps62;go_wp2
 go_loopg [1] k (fun kq v1 w'=> ∃(x1_1:Int),v1= .int .i64 x1_1∧Aside0 (spec_l2Up.l0 kq l0 x1_1 a2=some r)∧Aside0 (kq≤k)∧Drawn0 w w')
 case atStart=>exact ⟨(a1),zz12,H',⟨Nat.le_refl _⟩,by repeat (first|exact Drawn0.refl _|apply Drawn0.step)⟩
 case round =>
  clear H';(try clear p2);obtain ⟨x1_1,rfl,HA,HK1,⟨m1,rfl⟩⟩:=hrel
  cases gk with
  |zero=>exact absurd HA.out (by simp [spec_l2Up.l0])
  | succ k1 =>
   have H:=HA.out;clear HA;simp only [spec_l2Up.l0] at H;by_cases c4:x1_1>a2
   ·rw [if_pos c4] at H
    have c4b0:decide (a2<x1_1)=true:=decide_eq_true c4
    clear c4;by_cases c5:0≤x1_1
    ·rw [if_pos c5] at H
     have c5b0:decide (0≤x1_1)=true:=decide_eq_true c5
     clear c5;by_cases c6:x1_1<(l0.length:Int)
     ·rw [if_pos c6] at H
      have c6b0:decide (x1_1<(l0.length:Int))=true:=decide_eq_true c6
      clear c6;have H':=aK H;clear H;have p151:0≤(x1_1:Int):=of_decide_eq_true zz6
      have q151:x1_1<(l0.length:Int):=of_decide_eq_true zz6
      obtain ⟨ad151,A151_1,c151_1,e151,hx151_0,hx151_1,hl151_1,hi151_1⟩:=at_T48 HR0.out x1_1 p151 q151
      cases e151
      have HR151_1:=aK hi151_1;have HC151_1:=aK hl151_1;clear hi151_1 hl151_1;replace p151:=eq_true p151;replace q151:=eq_true q151;go_wp2
      go_roundg k1
      case measure=>have:=HK1.out;omega
      case rel=>exact ⟨((rd_T48 l0 x1_1).f0),zz12,H',⟨by have:=HK1.out;omega⟩,by repeat (first|exact Drawn0.refl _|apply Drawn0.step)⟩
     ·rw [if_neg c6] at H
      exact absurd H (by simp)
    ·rw [if_neg c5] at H
     exact absurd H (by simp)
   ·rw [if_neg c4] at H
    have c4b0:decide (a2<x1_1)=false:=decide_eq_false c4
    clear c4;obtain rfl:=Option.some.inj H;go_wp2;go_ret;exact ⟨zz12,zz44⟩
mutual
def spec_l2In.j0:Nat→List (S48)→Int→Int→Bool→Option (Bool)
 |0,_,_,_,_=>none
 |k+1,x0,x1,x2,x13=>if x13=true then (some true) else (if x1=2 then ((spec_l2Ref.f x2).bind fun t152=>(some t152)) else ((spec_l2Ref.f x1).bind fun t153=>(if t153=true then (spec_l2In.j1 k x0 x1 x2 (decide (x2<8))) else (spec_l2In.j1 k x0 x1 x2 true))))
def spec_l2In.j1:Nat→List (S48)→Int→Int→Bool→Option (Bool)
 |0,_,_,_,_=>none
 |k+1,x0,x1,x2,x24=>if x24=true then (some false) else (if x1<8 then (some (x2==8)) else ((spec_l2Up.f k x0 (wrap64 (x1 - 8)) (wrap64 (x2 - 8))).bind fun t154=>(some t154)))
end
def spec_l2In.f (k:Nat) (l0:List (S48)) (a1:Int) (a2:Int):Option (Bool):=if a1=a2 then (spec_l2In.j0 k l0 a1 a2 true) else (spec_l2In.j0 k l0 a1 a2 (a2==0))
set_option maxHeartbeats 8000000 in
set_option maxRecDepth 100000 in
theorem spec_l2In.calls (k : Nat) (A0 : Option Addr) (c0 : Nat) (l0 : List (S48)) (a1 : Int) (a2 : Int) (r : Bool) (w : World) (hr0 : Kd.C k48 w A0 l0.length l0) (hc0 : l0.length ≤ c0) (h : spec_l2In.f k l0 a1 a2 = some r) :
  Calls Try.prog 48 #[.slice A0 l0.length c0,.int .i64 a1,.int .i64 a2] w fun e w'=>e= .returned (.bool r)∧Drawn0 w w':=by
 have HR0:=aK hr0;have HC0:=aK hc0;clear hr0 hc0;have H:(if a1=a2 then (spec_l2In.j0 k l0 a1 a2 true) else (spec_l2In.j0 k l0 a1 a2 (a2==0)))=some r:=h
 clear h;have HC4:=aK H;clear H;go_enter Try.func48,Try.ntmps48
 go_upto_region 1 with (fail)
 go_cut [13] (fun v13 wc=> ∃(kq:Nat) (x13_3:Bool),v13= .bool x13_3∧Aside0 (spec_l2In.j0 kq l0 a1 a2 x13_3=some r)∧Aside0 (kq≤k)∧Drawn0 w wc)
 case first=>
  have H:=HC4.out;clear HC4;by_cases c5:a1=a2
  ·rw [if_pos c5] at H
   have c5b0:(a1==a2)=true:=beq_iff_eq.mpr c5
   have c5b1:(a1 !=a2)=false:=bne_eq_false_iff_eq.mpr c5
   clear c5
   (first|rw [c5b0]|(simp only [i64_w,i32_w];rw [c5b0])|skip)
   have H':=aK H;clear H;go_wp2;go_meet
   case rel=>exact ⟨_,(true),zz12,H',⟨by first|omega|exact Nat.le_refl _⟩,by repeat (first|exact Drawn0.refl _|apply Drawn0.step)⟩
  ·rw [if_neg c5] at H
   have c5b0:(a1==a2)=false:=beq_eq_false_iff_ne.mpr c5
   have c5b1:(a1 !=a2)=true:=bne_iff_ne.mpr c5
   (first|rw [c5b0]|(simp only [i64_w,i32_w];rw [c5b0])|skip)
   have H':=aK H;clear H;go_wp2;go_meet
   case rel=>exact ⟨_,((a2==0)),zz12,H',⟨by first|omega|exact Nat.le_refl _⟩,by repeat (first|exact Drawn0.refl _|apply Drawn0.step)⟩
 case rest =>
  clear HC4;(try clear p2);(try clear c4);(try clear c5);(try clear c5b0);(try clear c5b1);obtain ⟨kq,x13_3,rfl,HA,HJ3,⟨mc3,rfl⟩⟩:=hcut
  cases kq with
  |zero=>exact absurd HA.out (by simp [spec_l2In.j0])
  | succ kj3 =>
   have H:=HA.out;clear HA;simp only [spec_l2In.j0] at H;by_cases c6:x13_3=true
   ·subst c6
    rw [if_pos rfl] at H;obtain rfl:=Option.some.inj H;go_wp2;go_ret;exact ⟨zz12,zz44⟩
   ·replace c6 := Bool.eq_false_iff.mpr c6
    subst c6;rw [if_neg (show¬(false=true) by decide)] at H;by_cases c7:a1=2
    ·rw [if_pos c7] at H
     have c7b0:(a1==2)=true:=beq_iff_eq.mpr c7
     have c7b1:(a1 !=2)=false:=bne_eq_false_iff_eq.mpr c7
     clear c7;replace H:=Option.bind_eq_some_iff.mp H;obtain ⟨t152,A80,H⟩:=H;(try dsimp only at H);have A8:=aK A80;clear A80;obtain rfl:=Option.some.inj H
     go_wp2_with (first|((with_reducible refine gate_callee (f:=49) rfl ?_);refine goesL_ (some 17) rfl rfl Try.func49 (by kernel_rfl) rfl #[.int .i64 a2] rfl zz2 ?_;(with_reducible refine (spec_l2Ref.calls a2 t152 _ A8.out).mono ?_);rintro e w' ⟨rfl,⟨nd,rfl⟩⟩;refine ⟨_,rfl,?_⟩))
     go_ret;exact ⟨zz12,zz44⟩
    ·rw [if_neg c7] at H
     have c7b0:(a1==2)=false:=beq_eq_false_iff_ne.mpr c7
     have c7b1:(a1 !=2)=true:=bne_iff_ne.mpr c7
     have HC9:=aK H;clear H
     go_upto_region 5 with (fail)
     go_cut [24] (fun v24 wc=> ∃(kq:Nat) (x24_8:Bool),v24= .bool x24_8∧Aside0 (spec_l2In.j1 kq l0 a1 a2 x24_8=some r)∧Aside0 (kq≤kj3)∧Drawn0 w wc)
     case first=>
      have H:=HC9.out;clear HC9;replace H:=Option.bind_eq_some_iff.mp H;obtain ⟨t153,A100,H⟩:=H;(try dsimp only at H);have A10:=aK A100;clear A100;by_cases c11:t153=true
      ·subst c11
       rw [if_pos rfl] at H;have H':=aK H;clear H
       go_wp2_with (first|((with_reducible refine gate_callee (f:=49) rfl ?_);refine goesL_ (some 19) rfl rfl Try.func49 (by kernel_rfl) rfl #[.int .i64 a1] rfl zz2 ?_;(with_reducible refine (spec_l2Ref.calls a1 true _ A10.out).mono ?_);rintro e w' ⟨rfl,⟨nd,rfl⟩⟩;refine ⟨_,rfl,?_⟩))
       go_meet
       case rel=>exact ⟨_,(decide (a2<8)),zz12,H',⟨by have:=HJ3.out;first|omega|exact Nat.le_refl _⟩,by repeat (first|exact Drawn0.refl _|apply Drawn0.step)⟩
      ·replace c11 := Bool.eq_false_iff.mpr c11
       subst c11;rw [if_neg (show¬(false=true) by decide)] at H;have H':=aK H;clear H
       go_wp2_with (first|((with_reducible refine gate_callee (f:=49) rfl ?_);refine goesL_ (some 19) rfl rfl Try.func49 (by kernel_rfl) rfl #[.int .i64 a1] rfl zz2 ?_;(with_reducible refine (spec_l2Ref.calls a1 false _ A10.out).mono ?_);rintro e w' ⟨rfl,⟨nd,rfl⟩⟩;refine ⟨_,rfl,?_⟩))
       go_meet
       case rel=>exact ⟨_,(true),zz12,H',⟨by have:=HJ3.out;first|omega|exact Nat.le_refl _⟩,by repeat (first|exact Drawn0.refl _|apply Drawn0.step)⟩
     case rest=>
      clear HC9;(try clear c1);(try clear p2);(try clear c3);(try clear c4);(try clear c5);(try clear c5b0);(try clear c5b1);(try clear c6);(try clear c7);(try clear c7b0);(try clear c7b1);(try clear c11);(try clear p2);obtain ⟨kq,x24_8,rfl,HA,HJ8,⟨mc8,rfl⟩⟩:=hcut
      cases kq with
      |zero=>exact absurd HA.out (by simp [spec_l2In.j1])
      | succ kj8 =>
       have H:=HA.out;clear HA;simp only [spec_l2In.j1] at H;by_cases c12:x24_8=true
       ·subst c12
        rw [if_pos rfl] at H;obtain rfl:=Option.some.inj H;go_wp2;go_ret;exact ⟨zz12,zz44⟩
       ·replace c12 := Bool.eq_false_iff.mpr c12
        subst c12;rw [if_neg (show¬(false=true) by decide)] at H;by_cases c13:a1<8
        ·rw [if_pos c13] at H
         have c13b0:decide (a1<8)=true:=decide_eq_true c13
         clear c13;obtain rfl:=Option.some.inj H;go_wp2;go_ret;exact ⟨zz12,zz44⟩
        ·rw [if_neg c13] at H
         have c13b0:decide (a1<8)=false:=decide_eq_false c13
         clear c13;replace H:=Option.bind_eq_some_iff.mp H;obtain ⟨t154,A140,H⟩:=H;(try dsimp only at H);have A14:=aK A140;clear A140;obtain rfl:=Option.some.inj H
         go_wp2_with (first|((with_reducible refine gate_callee (f:=62) rfl ?_);refine goesL_ (some 34) rfl rfl Try.func62 (by kernel_rfl) rfl #[.slice A0 l0.length c0,.int .i64 (wrap64 (a1 - 8)),.int .i64 (wrap64 (a2 - 8))] rfl zz2 ?_;(with_reducible refine (spec_l2Up.calls kj8 _ _ l0 (wrap64 (a1 - 8)) (wrap64 (a2 - 8)) t154 _ ?side1 ?side2 A14.out).mono ?_);(case side1=>exact zz33);(case side2=>exact HC0.out);rintro e w' ⟨rfl,⟨nd,rfl⟩⟩;refine ⟨_,rfl,?_⟩))
         go_ret;exact ⟨zz12,zz44⟩
end Go.Proofs.Ytehefmgplkolaaa.K
namespace Go.Proofs.Ytehefmgplkolaaa.K
open Go.RowKit Go.Proofs.YtehefmgplkolaaaW.PrintWords Go.Proofs.YtehefmgplkolaaaW.PrintLast Go.Proofs.YtehefmgplkolaaaW.PrintMore
attribute [local go_sem] max2_int min2_int max_two min_two max_three min_three max_four min_four
set_option linter.unusedVariables false
set_option linter.unusedSimpArgs false
def spec_l2Join.l0:Nat→List (S48)→Int→Int→Option (Int)
  |0,_,_,_=>none
  |k+1,x0,x1,x2=>(spec_l2Up.f k x0 x2 x1).bind fun t155=>(if t155=true then (some x1) else (if 0≤x1 then (if x1<(x0.length:Int) then (spec_l2Join.l0 k x0 ((rd_T48 x0 x1).f0) x2) else (none)) else (none)))
def spec_l2Join.f (k:Nat) (l0:List (S48)) (a1:Int) (a2:Int):Option (Int):=spec_l2Join.l0 k l0 a1 a2
set_option maxHeartbeats 8000000 in
set_option maxRecDepth 100000 in
theorem spec_l2Join.calls (k:Nat) (A0:Option Addr) (c0:Nat) (l0:List (S48)) (a1:Int) (a2:Int) (r:Int) (w:World) (hr0:Kd.C k48 w A0 l0.length l0) (hc0:l0.length≤c0) (h:spec_l2Join.f k l0 a1 a2=some r):
  Calls Try.prog 50 #[.slice A0 l0.length c0,.int .i64 a1,.int .i64 a2] w fun e w'=>e= .returned (.int .i64 r)∧Drawn0 w w':=by
 have HR0:=aK hr0;have HC0:=aK hc0;clear hr0 hc0;have H:(spec_l2Join.l0 k l0 a1 a2)=some r:=h
 clear h;have H':=aK H;clear H;go_enter Try.func50,Try.ntmps50;go_wp2
 go_loopg [1] k (fun kq v1 w'=> ∃(x1_1:Int),v1= .int .i64 x1_1∧Aside0 (spec_l2Join.l0 kq l0 x1_1 a2=some r)∧Aside0 (kq≤k)∧Drawn0 w w')
 case atStart=>exact ⟨(a1),zz12,H',⟨Nat.le_refl _⟩,by repeat (first|exact Drawn0.refl _|apply Drawn0.step)⟩
 case round =>
  clear H';(try clear p2);obtain ⟨x1_1,rfl,HA,HK1,⟨m1,rfl⟩⟩:=hrel
  cases gk with
  |zero=>exact absurd HA.out (by simp [spec_l2Join.l0])
  | succ k1 =>
   have H:=HA.out;clear HA;simp only [spec_l2Join.l0] at H;replace H:=Option.bind_eq_some_iff.mp H;obtain ⟨t155,A40,H⟩:=H;(try dsimp only at H);have A4:=aK A40;clear A40;by_cases c5:t155=true
   ·subst c5
    rw [if_pos rfl] at H;obtain rfl:=Option.some.inj H
    go_wp2_with (first|((with_reducible refine gate_callee (f:=62) rfl ?_);refine goesL_ (some 10) rfl rfl Try.func62 (by kernel_rfl) rfl #[.slice A0 l0.length c0,.int .i64 a2,.int .i64 x1_1] rfl zz2 ?_;(with_reducible refine (spec_l2Up.calls k1 _ _ l0 a2 x1_1 true _ ?side1 ?side2 A4.out).mono ?_);(case side1=>exact zz33);(case side2=>exact HC0.out);rintro e w' ⟨rfl,⟨nd,rfl⟩⟩;refine ⟨_,rfl,?_⟩))
    go_ret;exact ⟨zz12,zz44⟩
   ·replace c5 := Bool.eq_false_iff.mpr c5
    subst c5;rw [if_neg (show¬(false=true) by decide)] at H;by_cases c6:0≤x1_1
    ·rw [if_pos c6] at H
     have c6b0:decide (0≤x1_1)=true:=decide_eq_true c6
     clear c6;by_cases c7:x1_1<(l0.length:Int)
     ·rw [if_pos c7] at H
      have c7b0:decide (x1_1<(l0.length:Int))=true:=decide_eq_true c7
      clear c7;have H':=aK H;clear H
      go_wp2_with (first|((with_reducible refine gate_callee (f:=62) rfl ?_);refine goesL_ (some 10) rfl rfl Try.func62 (by kernel_rfl) rfl #[.slice A0 l0.length c0,.int .i64 a2,.int .i64 x1_1] rfl zz2 ?_;(with_reducible refine (spec_l2Up.calls k1 _ _ l0 a2 x1_1 false _ ?side1 ?side2 A4.out).mono ?_);(case side1=>exact zz33);(case side2=>exact HC0.out);rintro e w' ⟨rfl,⟨nd,rfl⟩⟩;refine ⟨_,rfl,?_⟩;have p156:0≤(x1_1:Int):=of_decide_eq_true zz6;have q156:x1_1<(l0.length:Int):=of_decide_eq_true zz6;obtain ⟨ad156,A156_1,c156_1,e156,hx156_0,hx156_1,hl156_1,hi156_1⟩:=at_T48 HR0.out x1_1 p156 q156;cases e156;have HR156_1:=aK hi156_1;have HC156_1:=aK hl156_1;clear hi156_1 hl156_1;replace p156:=eq_true p156;replace q156:=eq_true q156))
      go_roundg k1
      case measure=>have:=HK1.out;omega
      case rel=>exact ⟨((rd_T48 l0 x1_1).f0),zz12,H',⟨by have:=HK1.out;omega⟩,by repeat (first|exact Drawn0.refl _|apply Drawn0.step)⟩
     ·rw [if_neg c7] at H
      exact absurd H (by simp)
    ·rw [if_neg c6] at H
     exact absurd H (by simp)
end Go.Proofs.Ytehefmgplkolaaa.K
namespace Go.Proofs.Ytehefmgplkolaaa.K
open Go.RowKit Go.Proofs.YtehefmgplkolaaaW.PrintWords Go.Proofs.YtehefmgplkolaaaW.PrintLast Go.Proofs.YtehefmgplkolaaaW.PrintMore
attribute [local go_sem] max2_int min2_int max_two min_two max_three min_three max_four min_four
set_option linter.unusedVariables false
set_option linter.unusedSimpArgs false
def spec_l2Meets.j0:Nat→List (S48)→Int→Int→Bool→Option (Int)
  |0,_,_,_,_=>none
  |k+1,x0,x1,x2,x24=>if x24=true then (some 0) else (if x1<8 then (some 8) else (if x2<8 then (some 8) else ((spec_l2Join.f k x0 (wrap64 (x1 - 8)) (wrap64 (x2 - 8))).bind fun t161=>(some (wrap64 (8+t161))))))
def spec_l2Meets.f (k:Nat) (l0:List (S48)) (a1:Int) (a2:Int):Option (Int):=(spec_l2In.f k l0 a1 a2).bind fun t157=>(if t157=true then (some a2) else ((spec_l2In.f k l0 a2 a1).bind fun t158=>(if t158=true then (some a1) else ((spec_l2Ref.f a1).bind fun t159=>(if t159=true then ((spec_l2Ref.f a2).bind fun t160=>(spec_l2Meets.j0 k l0 a1 a2 (!t160))) else (spec_l2Meets.j0 k l0 a1 a2 true))))))
set_option maxHeartbeats 8000000 in
set_option maxRecDepth 100000 in
theorem spec_l2Meets.calls (k : Nat) (A0 : Option Addr) (c0 : Nat) (l0 : List (S48)) (a1 : Int) (a2 : Int) (r : Int) (w : World) (hr0 : Kd.C k48 w A0 l0.length l0) (hc0 : l0.length ≤ c0) (h : spec_l2Meets.f k l0 a1 a2 = some r) :
  Calls Try.prog 38 #[.slice A0 l0.length c0,.int .i64 a1,.int .i64 a2] w fun e w'=>e= .returned (.int .i64 r)∧Drawn0 w w':=by
 have HR0:=aK hr0;have HC0:=aK hc0;clear hr0 hc0;have H:((spec_l2In.f k l0 a1 a2).bind fun t157=>(if t157=true then (some a2) else ((spec_l2In.f k l0 a2 a1).bind fun t158=>(if t158=true then (some a1) else ((spec_l2Ref.f a1).bind fun t159=>(if t159=true then ((spec_l2Ref.f a2).bind fun t160=>(spec_l2Meets.j0 k l0 a1 a2 (!t160))) else (spec_l2Meets.j0 k l0 a1 a2 true)))))))=some r:=h
 clear h;replace H:=Option.bind_eq_some_iff.mp H;obtain ⟨t157,A40,H⟩:=H;(try dsimp only at H);have A4:=aK A40;clear A40;by_cases c5:t157=true
 ·subst c5
  rw [if_pos rfl] at H;obtain rfl:=Option.some.inj H;go_enter Try.func38,Try.ntmps38
  go_wp2_with (first|((with_reducible refine gate_callee (f:=48) rfl ?_);refine goesL_ (some 10) rfl rfl Try.func48 (by kernel_rfl) rfl #[.slice A0 l0.length c0,.int .i64 a1,.int .i64 a2] rfl zz2 ?_;(with_reducible refine (spec_l2In.calls k _ _ l0 a1 a2 true _ ?side1 ?side2 A4.out).mono ?_);(case side1=>exact zz33);(case side2=>exact HC0.out);rintro e w' ⟨rfl,⟨nd,rfl⟩⟩;refine ⟨_,rfl,?_⟩))
  go_ret;exact ⟨zz12,zz44⟩
 ·replace c5 := Bool.eq_false_iff.mpr c5
  subst c5;rw [if_neg (show¬(false=true) by decide)] at H;replace H:=Option.bind_eq_some_iff.mp H;obtain ⟨t158,A60,H⟩:=H;(try dsimp only at H);have A6:=aK A60;clear A60;by_cases c7:t158=true
  ·subst c7
   rw [if_pos rfl] at H;obtain rfl:=Option.some.inj H;go_enter Try.func38,Try.ntmps38
   go_wp2_with (first|((with_reducible refine gate_callee (f:=48) rfl ?_);refine goesL_ (some 10) rfl rfl Try.func48 (by kernel_rfl) rfl #[.slice A0 l0.length c0,.int .i64 a1,.int .i64 a2] rfl zz2 ?_;(with_reducible refine (spec_l2In.calls k _ _ l0 a1 a2 false _ ?side1 ?side2 A4.out).mono ?_);(case side1=>exact zz33);(case side2=>exact HC0.out);rintro e w' ⟨rfl,⟨nd,rfl⟩⟩;refine ⟨_,rfl,?_⟩)|((with_reducible refine gate_callee (f:=48) rfl ?_);refine goesL_ (some 15) rfl rfl Try.func48 (by kernel_rfl) rfl #[.slice A0 l0.length c0,.int .i64 a2,.int .i64 a1] rfl zz2 ?_;(with_reducible refine (spec_l2In.calls k _ _ l0 a2 a1 true _ ?side1 ?side2 A6.out).mono ?_);(case side1=>exact zz33);(case side2=>exact HC0.out);rintro e w' ⟨rfl,⟨nd,rfl⟩⟩;refine ⟨_,rfl,?_⟩))
   go_ret;exact ⟨zz12,zz44⟩
  ·replace c7 := Bool.eq_false_iff.mpr c7
   subst c7;rw [if_neg (show¬(false=true) by decide)] at H;have HC8:=aK H;clear H;go_enter Try.func38,Try.ntmps38
   go_upto_region 5 with (first|((with_reducible refine gate_callee (f:=48) rfl ?_);refine goesL_ (some 10) rfl rfl Try.func48 (by kernel_rfl) rfl #[.slice A0 l0.length c0,.int .i64 a1,.int .i64 a2] rfl zz2 ?_;(with_reducible refine (spec_l2In.calls k _ _ l0 a1 a2 false _ ?side1 ?side2 A4.out).mono ?_);(case side1=>exact zz33);(case side2=>exact HC0.out);rintro e w' ⟨rfl,⟨nd,rfl⟩⟩;refine ⟨_,rfl,?_⟩)|((with_reducible refine gate_callee (f:=48) rfl ?_);refine goesL_ (some 15) rfl rfl Try.func48 (by kernel_rfl) rfl #[.slice A0 l0.length c0,.int .i64 a2,.int .i64 a1] rfl zz2 ?_;(with_reducible refine (spec_l2In.calls k _ _ l0 a2 a1 false _ ?side1 ?side2 A6.out).mono ?_);(case side1=>exact zz33);(case side2=>exact HC0.out);rintro e w' ⟨rfl,⟨nd,rfl⟩⟩;refine ⟨_,rfl,?_⟩))
   (try simp only [Act.put,List.setIfInBounds_toArray,List.set_cons_zero,List.set_cons_succ])
   go_cut [24] (fun v24 wc=> ∃(kq:Nat) (x24_7:Bool),v24= .bool x24_7∧Aside0 (spec_l2Meets.j0 kq l0 a1 a2 x24_7=some r)∧Aside0 (kq≤k)∧Drawn0 w wc)
   case first=>
    have H:=HC8.out;clear HC8;replace H:=Option.bind_eq_some_iff.mp H;obtain ⟨t159,A90,H⟩:=H;(try dsimp only at H);have A9:=aK A90;clear A90;by_cases c10:t159=true
    ·subst c10
     rw [if_pos rfl] at H;replace H:=Option.bind_eq_some_iff.mp H;obtain ⟨t160,A110,H⟩:=H;(try dsimp only at H);have A11:=aK A110;clear A110;have H':=aK H;clear H
     go_wp2_with (first|((with_reducible refine gate_callee (f:=49) rfl ?_);refine goesL_ (some 18) rfl rfl Try.func49 (by kernel_rfl) rfl #[.int .i64 a1] rfl zz2 ?_;(with_reducible refine (spec_l2Ref.calls a1 true _ A9.out).mono ?_);rintro e w' ⟨rfl,⟨nd,rfl⟩⟩;refine ⟨_,rfl,?_⟩)|(go_at_call 49;(with_reducible refine (spec_l2Ref.calls a2 t160 _ A11.out).mono ?_);rintro e w' ⟨rfl,⟨nd,rfl⟩⟩))
     go_meet
     case rel=>exact ⟨_,(!t160),zz12,H',⟨by first|omega|exact Nat.le_refl _⟩,by repeat (first|exact Drawn0.refl _|apply Drawn0.step)⟩
    ·replace c10 := Bool.eq_false_iff.mpr c10
     subst c10;rw [if_neg (show¬(false=true) by decide)] at H;have H':=aK H;clear H
     go_wp2_with (first|((with_reducible refine gate_callee (f:=49) rfl ?_);refine goesL_ (some 18) rfl rfl Try.func49 (by kernel_rfl) rfl #[.int .i64 a1] rfl zz2 ?_;(with_reducible refine (spec_l2Ref.calls a1 false _ A9.out).mono ?_);rintro e w' ⟨rfl,⟨nd,rfl⟩⟩;refine ⟨_,rfl,?_⟩))
     go_meet
     case rel=>exact ⟨_,(true),zz12,H',⟨by first|omega|exact Nat.le_refl _⟩,by repeat (first|exact Drawn0.refl _|apply Drawn0.step)⟩
   case rest =>
    clear HC8;(try clear c1);(try clear p2);(try clear c3);(try clear c4);(try clear c5);(try clear c7);(try clear c10);obtain ⟨kq,x24_7,rfl,HA,HJ7,⟨mc7,rfl⟩⟩:=hcut
    cases kq with
    |zero=>exact absurd HA.out (by simp [spec_l2Meets.j0])
    | succ kj7 =>
     have H:=HA.out;clear HA;simp only [spec_l2Meets.j0] at H;by_cases c12:x24_7=true
     ·subst c12
      rw [if_pos rfl] at H;obtain rfl:=Option.some.inj H;go_wp2;go_ret;exact ⟨zz12,zz44⟩
     ·replace c12 := Bool.eq_false_iff.mpr c12
      subst c12;rw [if_neg (show¬(false=true) by decide)] at H;by_cases c13:a1<8
      ·rw [if_pos c13] at H
       have c13b0:decide (a1<8)=true:=decide_eq_true c13
       clear c13;obtain rfl:=Option.some.inj H;go_wp2;go_ret;exact ⟨zz12,zz44⟩
      ·rw [if_neg c13] at H
       have c13b0:decide (a1<8)=false:=decide_eq_false c13
       clear c13;by_cases c14:a2<8
       ·rw [if_pos c14] at H
        have c14b0:decide (a2<8)=true:=decide_eq_true c14
        clear c14;obtain rfl:=Option.some.inj H;go_wp2;go_ret;exact ⟨zz12,zz44⟩
       ·rw [if_neg c14] at H
        have c14b0:decide (a2<8)=false:=decide_eq_false c14
        clear c14;replace H:=Option.bind_eq_some_iff.mp H;obtain ⟨t161,A150,H⟩:=H;(try dsimp only at H);have A15:=aK A150;clear A150;obtain rfl:=Option.some.inj H
        go_wp2_with (first|((with_reducible refine gate_callee (f:=50) rfl ?_);refine goesL_ (some 36) rfl rfl Try.func50 (by kernel_rfl) rfl #[.slice A0 l0.length c0,.int .i64 (wrap64 (a1 - 8)),.int .i64 (wrap64 (a2 - 8))] rfl zz2 ?_;(with_reducible refine (spec_l2Join.calls kj7 _ _ l0 (wrap64 (a1 - 8)) (wrap64 (a2 - 8)) t161 _ ?side1 ?side2 A15.out).mono ?_);(case side1=>exact zz33);(case side2=>exact HC0.out);rintro e w' ⟨rfl,⟨nd,rfl⟩⟩;refine ⟨_,rfl,?_⟩))
        go_ret;exact ⟨zz12,zz44⟩
end Go.Proofs.Ytehefmgplkolaaa.K
namespace Go.Proofs.Ytehefmgplkolaaa.K
open Go.RowKit Go.Proofs.YtehefmgplkolaaaW.PrintWords Go.Proofs.YtehefmgplkolaaaW.PrintLast Go.Proofs.YtehefmgplkolaaaW.PrintMore
attribute [local go_sem] max2_int min2_int max_two min_two max_three min_three max_four min_four
set_option linter.unusedVariables false
set_option linter.unusedSimpArgs false
theorem rdOf_set_self_ {α:Type} {d:α} {xs:List α} {i:Int} {x:α} (h0:0≤i) (h1:i<xs.length):rdOf d (xs.set i.toNat x) i=x:=by
  unfold rdOf;rw [List.getD_eq_getElem?_getD,List.getElem?_set_self (by omega)];rfl
end Go.Proofs.Ytehefmgplkolaaa.K
