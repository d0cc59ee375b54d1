import Derived.Test.YtbaklikaoleplaaPh24
import Derived.Test.YtbaklikaoleplaaPh26
import Derived.Test.YtbaklikaoleplaaPh27
import Derived.Test.YtbaklikaoleplaaPh28
set_option maxHeartbeats 8000000
set_option maxRecDepth 100000
namespace Go.Proofs.Ytbaklikaoleplaa.K
open Go.RowKit Go.Proofs.YtbaklikaoleplaaW.PrintWords Go.Proofs.YtbaklikaoleplaaW.PrintLast Go.Proofs.YtbaklikaoleplaaW.PrintMore
attribute [local go_sem] gD gB gY gW fR fQ gC gA
set_option linter.unusedVariables false
set_option linter.unusedSimpArgs false
def nH:Nat→List Int→List Int→Int→Option (Bool)
  |0,_,_,_=>none
  |k+1,x0,x1,x5=>if x5<(x0.length:Int) then (if 0≤x5 then (if x5<(x1.length:Int) then (if (rd x0 x5)=(rd x1 x5) then (nH k x0 x1 (wrap64 (x5+1))) else (some false)) else (none)) else (none)) else (some true)
def qQ (k:Nat) (l0:List Int) (l1:List Int):Option (Bool):=if (l0.length:Int)=(l1.length:Int) then (nH k l0 l1 0) else (some false)
theorem fV (k : Nat) (A0 : Option Addr) (c0 : Nat) (l0 : List Int) (A1 : Option Addr) (c1 : Nat) (l1 : List Int) (r : Bool) (w : World) (hr0 : Kd.C (Kd.int .i64) w A0 l0.length l0) (hc0 : l0.length ≤ c0) (hr1 : Kd.C (Kd.int .i64) w A1 l1.length l1) (hc1 : l1.length ≤ c1) (h : qQ k l0 l1 = some r) :
  Calls Try.prog 22 #[.slice A0 l0.length c0,.slice A1 l1.length c1] w fun e w'=>e= .returned (.bool r)∧Drawn0 w w':=by
 have HR0:=aK hr0;have HC0:=aK hc0;clear hr0 hc0;have HR1:=aK hr1;have HC1:=aK hc1;clear hr1 hc1;have H:(if (l0.length:Int)=(l1.length:Int) then (nH k l0 l1 0) else (some false))=some r:=h
 clear h;by_cases c3:(l0.length:Int)=(l1.length:Int)
 ·rw [if_pos c3] at H
  have c3b0:((l0.length:Int)==(l1.length:Int))=true:=zH.mpr c3
  have c3b1:((l0.length:Int) !=(l1.length:Int))=false:=bne_eq_false_iff_eq.mpr c3
  have c3b2:(l0.length==l1.length)=true:=by first|simpa using c3|(simp at c3 ⊢;omega)
  clear c3;have H':=aK H;clear H;go_enter Try.func22,Try.ntmps22;go_wp2;repeat (go_quiet (fail);try go_wp2)
  go_loopg [5] k (fun kq v5 w'=> ∃(x5_1:Int),v5= .int .i64 x5_1∧Aside0 (nH kq l0 l1 x5_1=some r)∧Aside0 (kq≤k)∧Drawn0 w w')
  case atStart=>exact ⟨(0),nR,H',⟨bV _⟩,by repeat (first|exact Drawn0.refl _|apply Drawn0.step)⟩
  case round =>
   clear H';(try clear c1);(try clear c2);(try clear p2);(try clear c3);(try clear c3b0);(try clear c3b1);(try clear c3b2);obtain ⟨x5_1,rfl,HA,HK1,⟨m1,rfl⟩⟩:=hrel
   cases gk with
   |zero=>exact absurd HA.out (by simp [nH])
   | succ k1 =>
    have H:=HA.out;clear HA;simp only [nH] at H;by_cases c4:x5_1<(l0.length:Int)
    ·rw [if_pos c4] at H
     have c4b0:decide (x5_1<(l0.length:Int))=true:=bD c4
     clear c4;by_cases c5:0≤x5_1
     ·rw [if_pos c5] at H
      have c5b0:decide (0≤x5_1)=true:=bD c5
      clear c5;by_cases c6:x5_1<(l1.length:Int)
      ·rw [if_pos c6] at H
       have c6b0:decide (x5_1<(l1.length:Int))=true:=bD c6
       clear c6;by_cases c7:(rd l0 x5_1)=(rd l1 x5_1)
       ·rw [if_pos c7] at H
        have c7b0:((rd l0 x5_1)==(rd l1 x5_1))=true:=zH.mpr c7
        have c7b1:((rd l0 x5_1) !=(rd l1 x5_1))=false:=bne_eq_false_iff_eq.mpr c7
        clear c7;have H':=aK H;clear H;have p431:0≤(x5_1:Int):=bB jX
        have q431:x5_1<(l0.length:Int):=bB jX
        obtain ⟨ad431,e431,hx431_0⟩:=dL HR0.out x5_1 p431 q431
        cases e431
        replace p431:=bO p431;replace q431:=bO q431;have p432:0≤(x5_1:Int):=bB jX
        have q432:x5_1<(l1.length:Int):=bB jX
        obtain ⟨ad432,e432,hx432_0⟩:=dL HR1.out x5_1 p432 q432
        cases e432
        replace p432:=bO p432;replace q432:=bO q432;go_wp2;repeat (go_quiet (fail);try go_wp2)
        go_roundg k1
        case measure=>have:=HK1.out;omega
        case rel=>exact ⟨(wrap64 (x5_1+1)),nR,H',⟨by have:=HK1.out;omega⟩,by repeat (first|exact Drawn0.refl _|apply Drawn0.step)⟩
       ·rw [if_neg c7] at H
        have c7b0:((rd l0 x5_1)==(rd l1 x5_1))=false:=xP.mpr c7
        have c7b1:((rd l0 x5_1) !=(rd l1 x5_1))=true:=bne_iff_ne.mpr c7
        obtain rfl:=bE H;have p431:0≤(x5_1:Int):=bB jX
        have q431:x5_1<(l0.length:Int):=bB jX
        obtain ⟨ad431,e431,hx431_0⟩:=dL HR0.out x5_1 p431 q431
        cases e431
        replace p431:=bO p431;replace q431:=bO q431;have p432:0≤(x5_1:Int):=bB jX
        have q432:x5_1<(l1.length:Int):=bB jX
        obtain ⟨ad432,e432,hx432_0⟩:=dL HR1.out x5_1 p432 q432
        cases e432
        replace p432:=bO p432;replace q432:=bO q432;go_wp2;repeat (go_quiet (fail);try go_wp2)
        go_ret;exact ⟨nR,sF⟩
      ·rw [if_neg c6] at H
       exact absurd H (by simp)
     ·rw [if_neg c5] at H
      exact absurd H (by simp)
    ·rw [if_neg c4] at H
     have c4b0:decide (x5_1<(l0.length:Int))=false:=bM c4
     clear c4;obtain rfl:=bE H;go_wp2;repeat (go_quiet (fail);try go_wp2)
     go_ret;exact ⟨nR,sF⟩
 ·rw [if_neg c3] at H
  have c3b0:((l0.length:Int)==(l1.length:Int))=false:=xP.mpr c3
  have c3b1:((l0.length:Int) !=(l1.length:Int))=true:=bne_iff_ne.mpr c3
  have c3b2:(l0.length==l1.length)=false:=by first|simpa using c3|(simp at c3 ⊢;omega)
  obtain rfl:=bE H;go_enter Try.func22,Try.ntmps22;go_wp2;repeat (go_quiet (fail);try go_wp2)
  go_ret;exact ⟨nR,sF⟩
mutual
def kB:Nat→Bool→List Int→Int→Int→Int→List Bool→List Int→Int→Int→Int→List Bool→Option (Bool)
 |0,_,_,_,_,_,_,_,_,_,_,_=>none
 |k+1,x41,x434000,x434001,x434002,x434003,x434004,x435000,x435001,x435002,x435003,x435004=>if x41=true then (some false) else (pL k 0 x434000 x434001 x434002 x434003 x434004 x435000 x435001 x435002 x435003 x435004)
def pL:Nat→Int→List Int→Int→Int→Int→List Bool→List Int→Int→Int→Int→List Bool→Option (Bool)
 |0,_,_,_,_,_,_,_,_,_,_,_=>none
 |k+1,x5,x434000,x434001,x434002,x434003,x434004,x435000,x435001,x435002,x435003,x435004=>if x5<(x434004.length:Int) then (if 0≤x5 then (if x5<(x435004.length:Int) then (if ((kK false x434004 x5) !=(kK false x435004 x5))=true then (some false) else (pL k (wrap64 (x5+1)) x434000 x434001 x434002 x434003 x434004 x435000 x435001 x435002 x435003 x435004)) else (none)) else (none)) else (some true)
end
def yD (k:Nat) (l0_0:List Int) (a0_1:Int) (a0_2:Int) (a0_3:Int) (l0_4:List Bool) (l1_0:List Int) (a1_1:Int) (a1_2:Int) (a1_3:Int) (l1_4:List Bool):Option (Bool):=(qQ k l0_0 l1_0).bind fun t435=>(if t435=true then (if a0_1=a1_1 then (if a0_2=a1_2 then (if a0_3=a1_3 then (kB k ((l0_4.length:Int) !=(l1_4.length:Int)) l0_0 a0_1 a0_2 a0_3 l0_4 l1_0 a1_1 a1_2 a1_3 l1_4) else (kB k true l0_0 a0_1 a0_2 a0_3 l0_4 l1_0 a1_1 a1_2 a1_3 l1_4)) else (kB k true l0_0 a0_1 a0_2 a0_3 l0_4 l1_0 a1_1 a1_2 a1_3 l1_4)) else (kB k true l0_0 a0_1 a0_2 a0_3 l0_4 l1_0 a1_1 a1_2 a1_3 l1_4)) else (kB k true l0_0 a0_1 a0_2 a0_3 l0_4 l1_0 a1_1 a1_2 a1_3 l1_4))
theorem vQ (k : Nat) (A0_0 : Option Addr) (c0_0 : Nat) (l0_0 : List Int) (a0_1 : Int) (a0_2 : Int) (a0_3 : Int) (A0_4 : Option Addr) (c0_4 : Nat) (l0_4 : List Bool) (A1_0 : Option Addr) (c1_0 : Nat) (l1_0 : List Int) (a1_1 : Int) (a1_2 : Int) (a1_3 : Int) (A1_4 : Option Addr) (c1_4 : Nat) (l1_4 : List Bool) (r : Bool) (w : World) (hr0_0 : Kd.C (Kd.int .i64) w A0_0 l0_0.length l0_0) (hc0_0 : l0_0.length ≤ c0_0) (hr0_4 : Kd.C Kd.bool w A0_4 l0_4.length l0_4) (hc0_4 : l0_4.length ≤ c0_4) (hr1_0 : Kd.C (Kd.int .i64) w A1_0 l1_0.length l1_0) (hc1_0 : l1_0.length ≤ c1_0) (hr1_4 : Kd.C Kd.bool w A1_4 l1_4.length l1_4) (hc1_4 : l1_4.length ≤ c1_4) (h : yD k l0_0 a0_1 a0_2 a0_3 l0_4 l1_0 a1_1 a1_2 a1_3 l1_4 = some r) :
  Calls Try.prog 21 #[.agg #[.slice A0_0 l0_0.length c0_0,.int .i64 a0_1,.int .i64 a0_2,.int .i64 a0_3,.slice A0_4 l0_4.length c0_4],.agg #[.slice A1_0 l1_0.length c1_0,.int .i64 a1_1,.int .i64 a1_2,.int .i64 a1_3,.slice A1_4 l1_4.length c1_4]] w fun e w'=>e= .returned (.bool r)∧Below w.heap.size w w':=by
 have hu29:=Try.underlying29;have HR0_0:=aK hr0_0;have HC0_0:=aK hc0_0;clear hr0_0 hc0_0;have HR0_4:=aK hr0_4;have HC0_4:=aK hc0_4;clear hr0_4 hc0_4;have HR1_0:=aK hr1_0;have HC1_0:=aK hc1_0;clear hr1_0 hc1_0;have HR1_4:=aK hr1_4;have HC1_4:=aK hc1_4;clear hr1_4 hc1_4;have HB:=aK (bH w.heap.size w);have H:((qQ k l0_0 l1_0).bind fun t435=>(if t435=true then (if a0_1=a1_1 then (if a0_2=a1_2 then (if a0_3=a1_3 then (kB k ((l0_4.length:Int) !=(l1_4.length:Int)) l0_0 a0_1 a0_2 a0_3 l0_4 l1_0 a1_1 a1_2 a1_3 l1_4) else (kB k true l0_0 a0_1 a0_2 a0_3 l0_4 l1_0 a1_1 a1_2 a1_3 l1_4)) else (kB k true l0_0 a0_1 a0_2 a0_3 l0_4 l1_0 a1_1 a1_2 a1_3 l1_4)) else (kB k true l0_0 a0_1 a0_2 a0_3 l0_4 l1_0 a1_1 a1_2 a1_3 l1_4)) else (kB k true l0_0 a0_1 a0_2 a0_3 l0_4 l1_0 a1_1 a1_2 a1_3 l1_4)))=some r:=h
 clear h;have HC3:=aK H;clear H;go_enter Try.func21,Try.ntmps21
 go_upto_region 1 with (first|((with_reducible refine dK (N:=2) rfl ?_);(try (refine qS (by rfl) ?_;dsimp only));refine dM ?hg (N:=2) ?hd (cs:= #[.slice A0_0 l0_0.length c0_0,.int .i64 a0_1,.int .i64 a0_2,.int .i64 a0_3,.slice A0_4 l0_4.length c0_4]) (t:=29) ?hr ?_;(case hd=>rfl);(case hg=>rfl);(case hr=>first|(go_simp;done)|(go_simp;rfl));intro gb433 hg w4 hbox hb;have BK433:=aK (hbox);have GW433:=aK ((by rw [hg];exact (bW nQ):w.heap.size≤gb433));have GE433:=aK ((by rw [hg];exact (bW nQ):w.heap.size≤gb433));replace HB:=aK (bK nQ hb);clear hb hbox hg)|((with_reducible refine dK (N:=3) rfl ?_);(try (refine qS (by rfl) ?_;dsimp only));refine dM ?hg (N:=3) ?hd (cs:= #[.slice A1_0 l1_0.length c1_0,.int .i64 a1_1,.int .i64 a1_2,.int .i64 a1_3,.slice A1_4 l1_4.length c1_4]) (t:=29) ?hr ?_;(case hd=>rfl);(case hg=>rfl);(case hr=>first|(go_simp;done)|(go_simp;rfl));intro gb434 hg w5 hbox hb;have BK434:=aK (hbox);have GW434:=aK ((by rw [hg];exact (bW bJt):w.heap.size≤gb434));have GE434:=aK ((by rw [hg];exact (bW bJt):w.heap.size≤gb434));have NB433_434:=aK (zz47);have NB434_433:=aK (zz48);replace BK433:=aK (bS (g:=gb433) (o:= .cells #[.slice A0_0 l0_0.length c0_0,.int .i64 a0_1,.int .i64 a0_2,.int .i64 a0_3,.slice A0_4 l0_4.length c0_4] 29 (0,0)) bQo hb);replace HB:=aK (bK bJt hb);clear hb hbox hg))
 repeat (go_quiet (first|((with_reducible refine dK (N:=2) rfl ?_);(try (refine qS (by rfl) ?_;dsimp only));refine dM ?hg (N:=2) ?hd (cs:= #[.slice A0_0 l0_0.length c0_0,.int .i64 a0_1,.int .i64 a0_2,.int .i64 a0_3,.slice A0_4 l0_4.length c0_4]) (t:=29) ?hr ?_;(case hd=>rfl);(case hg=>rfl);(case hr=>first|(go_simp;done)|(go_simp;rfl));intro gb433 hg w4 hbox hb;have BK433:=aK (hbox);have GW433:=aK ((by rw [hg];exact (bW nQ):w.heap.size≤gb433));have GE433:=aK ((by rw [hg];exact (bW nQ):w.heap.size≤gb433));replace HB:=aK (bK nQ hb);clear hb hbox hg)|((with_reducible refine dK (N:=3) rfl ?_);(try (refine qS (by rfl) ?_;dsimp only));refine dM ?hg (N:=3) ?hd (cs:= #[.slice A1_0 l1_0.length c1_0,.int .i64 a1_1,.int .i64 a1_2,.int .i64 a1_3,.slice A1_4 l1_4.length c1_4]) (t:=29) ?hr ?_;(case hd=>rfl);(case hg=>rfl);(case hr=>first|(go_simp;done)|(go_simp;rfl));intro gb434 hg w5 hbox hb;have BK434:=aK (hbox);have GW434:=aK ((by rw [hg];exact (bW bJt):w.heap.size≤gb434));have GE434:=aK ((by rw [hg];exact (bW bJt):w.heap.size≤gb434));have NB433_434:=aK (zz47);have NB434_433:=aK (zz48);replace BK433:=aK (bS (g:=gb433) (o:= .cells #[.slice A0_0 l0_0.length c0_0,.int .i64 a0_1,.int .i64 a0_2,.int .i64 a0_3,.slice A0_4 l0_4.length c0_4] 29 (0,0)) bQo hb);replace HB:=aK (bK bJt hb);clear hb hbox hg));go_upto_region 1 with (first|((with_reducible refine dK (N:=2) rfl ?_);(try (refine qS (by rfl) ?_;dsimp only));refine dM ?hg (N:=2) ?hd (cs:= #[.slice A0_0 l0_0.length c0_0,.int .i64 a0_1,.int .i64 a0_2,.int .i64 a0_3,.slice A0_4 l0_4.length c0_4]) (t:=29) ?hr ?_;(case hd=>rfl);(case hg=>rfl);(case hr=>first|(go_simp;done)|(go_simp;rfl));intro gb433 hg w4 hbox hb;have BK433:=aK (hbox);have GW433:=aK ((by rw [hg];exact (bW nQ):w.heap.size≤gb433));have GE433:=aK ((by rw [hg];exact (bW nQ):w.heap.size≤gb433));replace HB:=aK (bK nQ hb);clear hb hbox hg)|((with_reducible refine dK (N:=3) rfl ?_);(try (refine qS (by rfl) ?_;dsimp only));refine dM ?hg (N:=3) ?hd (cs:= #[.slice A1_0 l1_0.length c1_0,.int .i64 a1_1,.int .i64 a1_2,.int .i64 a1_3,.slice A1_4 l1_4.length c1_4]) (t:=29) ?hr ?_;(case hd=>rfl);(case hg=>rfl);(case hr=>first|(go_simp;done)|(go_simp;rfl));intro gb434 hg w5 hbox hb;have BK434:=aK (hbox);have GW434:=aK ((by rw [hg];exact (bW bJt):w.heap.size≤gb434));have GE434:=aK ((by rw [hg];exact (bW bJt):w.heap.size≤gb434));have NB433_434:=aK (zz47);have NB434_433:=aK (zz48);replace BK433:=aK (bS (g:=gb433) (o:= .cells #[.slice A0_0 l0_0.length c0_0,.int .i64 a0_1,.int .i64 a0_2,.int .i64 a0_3,.slice A0_4 l0_4.length c0_4] 29 (0,0)) bQo hb);replace HB:=aK (bK bJt hb);clear hb hbox hg)))
 (try simp only [Act.put,dU,fY,fT])
 go_cut [41] (fun v41 wc=> ∃(kq:Nat) (x41_2:Bool),v41= .bool x41_2∧Aside0 (kB kq x41_2 l0_0 a0_1 a0_2 a0_3 l0_4 l1_0 a1_1 a1_2 a1_3 l1_4=some r)∧Aside0 (kq≤k)∧Aside0 (wc.heap[gb433]? =some (.cells #[(.slice A0_0 l0_0.length c0_0),.int .i64 a0_1,.int .i64 a0_2,.int .i64 a0_3,(.slice A0_4 l0_4.length c0_4)] 29 (0,0)))∧Aside0 (wc.heap[gb434]? =some (.cells #[(.slice A1_0 l1_0.length c1_0),.int .i64 a1_1,.int .i64 a1_2,.int .i64 a1_3,(.slice A1_4 l1_4.length c1_4)] 29 (0,0)))∧Aside0 (Below w.heap.size w wc))
 case first =>
  have H:=HC3.out;clear HC3;replace H:=Option.bind_eq_some_iff.mp H;obtain ⟨t435,A60,H⟩:=H;(try dsimp only at H);have A6:=aK A60;clear A60;by_cases c7:t435=true
  ·subst c7
   rw [if_pos rfl] at H;by_cases c8:a0_1=a1_1
   ·rw [if_pos c8] at H
    have c8b0:(a0_1==a1_1)=true:=zH.mpr c8
    have c8b1:(a0_1 !=a1_1)=false:=bne_eq_false_iff_eq.mpr c8
    clear c8
    (first|rw [c8b0]|(simp only [mN,qN];rw [c8b0])|skip)
    by_cases c9:a0_2=a1_2
    ·rw [if_pos c9] at H
     have c9b0:(a0_2==a1_2)=true:=zH.mpr c9
     have c9b1:(a0_2 !=a1_2)=false:=bne_eq_false_iff_eq.mpr c9
     clear c9;by_cases c10:a0_3=a1_3
     ·rw [if_pos c10] at H
      have c10b0:(a0_3==a1_3)=true:=zH.mpr c10
      have c10b1:(a0_3 !=a1_3)=false:=bne_eq_false_iff_eq.mpr c10
      clear c10;have H':=aK H;clear H;have hnb11:=NB433_434.out;have hnc11:=NB434_433.out;obtain ⟨hcz12_0,hcz12_1,hcz12_2,hcz12_3,hcz12_4,hfz12_0,hfz12_1,hfz12_2,hfz12_3,hfz12_4⟩:=nP BK433;obtain ⟨hcz13_0,hcz13_1,hcz13_2,hcz13_3,hcz13_4,hfz13_0,hfz13_1,hfz13_2,hfz13_3,hfz13_4⟩:=nP BK434
      go_wp2_with (first|(go_at_call 22;(with_reducible refine (fV k _ _ l0_0 _ _ l1_0 true _ ?side1 ?side2 ?side3 ?side4 A6.out).mono ?_);(case side1=>exact bDn);(case side2=>exact HC0_0.out);(case side3=>exact bEe);(case side4=>exact HC1_0.out);rintro e w' ⟨rfl,⟨nd,rfl⟩⟩;(try first|exact ⟨rfl,_,dX _ _ _⟩|exact ⟨rfl,_,sW (dX _ _ _) (gF (World.drewN _) (kH _ _ _))⟩)))
      repeat (go_quiet (first|(go_at_call 22;(with_reducible refine (fV k _ _ l0_0 _ _ l1_0 true _ ?side1 ?side2 ?side3 ?side4 A6.out).mono ?_);(case side1=>exact bDn);(case side2=>exact HC0_0.out);(case side3=>exact bEe);(case side4=>exact HC1_0.out);rintro e w' ⟨rfl,⟨nd,rfl⟩⟩;(try first|exact ⟨rfl,_,dX _ _ _⟩|exact ⟨rfl,_,sW (dX _ _ _) (gF (World.drewN _) (kH _ _ _))⟩)));try go_wp2_with (first|(go_at_call 22;(with_reducible refine (fV k _ _ l0_0 _ _ l1_0 true _ ?side1 ?side2 ?side3 ?side4 A6.out).mono ?_);(case side1=>exact bDn);(case side2=>exact HC0_0.out);(case side3=>exact bEe);(case side4=>exact HC1_0.out);rintro e w' ⟨rfl,⟨nd,rfl⟩⟩;(try first|exact ⟨rfl,_,dX _ _ _⟩|exact ⟨rfl,_,sW (dX _ _ _) (gF (World.drewN _) (kH _ _ _))⟩))))
      go_meet
      case rel=>exact ⟨_,(((l0_4.length:Int) !=(l1_4.length:Int))),nR,H',⟨by first|omega|exact bV _⟩,⟨by (with_reducible repeat (first|refine bX ?_ _|refine bY ?_|refine bQ ?_ _));exact BK433.out⟩,⟨by (with_reducible repeat (first|refine bX ?_ _|refine bY ?_|refine bQ ?_ _));exact BK434.out⟩,⟨by repeat (first|(with_reducible first|exact HB.out|apply bJ|apply bI|apply bG|refine cE ?_ GE433.out|refine cE ?_ GE434.out)|exact HB.out)⟩⟩
     ·rw [if_neg c10] at H
      have c10b0:(a0_3==a1_3)=false:=xP.mpr c10
      have c10b1:(a0_3 !=a1_3)=true:=bne_iff_ne.mpr c10
      have H':=aK H;clear H;have hnb14:=NB433_434.out;have hnc14:=NB434_433.out;obtain ⟨hcz15_0,hcz15_1,hcz15_2,hcz15_3,hcz15_4,hfz15_0,hfz15_1,hfz15_2,hfz15_3,hfz15_4⟩:=nP BK433;obtain ⟨hcz16_0,hcz16_1,hcz16_2,hcz16_3,hcz16_4,hfz16_0,hfz16_1,hfz16_2,hfz16_3,hfz16_4⟩:=nP BK434
      go_wp2_with (first|(go_at_call 22;(with_reducible refine (fV k _ _ l0_0 _ _ l1_0 true _ ?side1 ?side2 ?side3 ?side4 A6.out).mono ?_);(case side1=>exact bDn);(case side2=>exact HC0_0.out);(case side3=>exact bEe);(case side4=>exact HC1_0.out);rintro e w' ⟨rfl,⟨nd,rfl⟩⟩;(try first|exact ⟨rfl,_,dX _ _ _⟩|exact ⟨rfl,_,sW (dX _ _ _) (gF (World.drewN _) (kH _ _ _))⟩)))
      repeat (go_quiet (first|(go_at_call 22;(with_reducible refine (fV k _ _ l0_0 _ _ l1_0 true _ ?side1 ?side2 ?side3 ?side4 A6.out).mono ?_);(case side1=>exact bDn);(case side2=>exact HC0_0.out);(case side3=>exact bEe);(case side4=>exact HC1_0.out);rintro e w' ⟨rfl,⟨nd,rfl⟩⟩;(try first|exact ⟨rfl,_,dX _ _ _⟩|exact ⟨rfl,_,sW (dX _ _ _) (gF (World.drewN _) (kH _ _ _))⟩)));try go_wp2_with (first|(go_at_call 22;(with_reducible refine (fV k _ _ l0_0 _ _ l1_0 true _ ?side1 ?side2 ?side3 ?side4 A6.out).mono ?_);(case side1=>exact bDn);(case side2=>exact HC0_0.out);(case side3=>exact bEe);(case side4=>exact HC1_0.out);rintro e w' ⟨rfl,⟨nd,rfl⟩⟩;(try first|exact ⟨rfl,_,dX _ _ _⟩|exact ⟨rfl,_,sW (dX _ _ _) (gF (World.drewN _) (kH _ _ _))⟩))))
      go_meet
      case rel=>exact ⟨_,(true),nR,H',⟨by first|omega|exact bV _⟩,⟨by (with_reducible repeat (first|refine bX ?_ _|refine bY ?_|refine bQ ?_ _));exact BK433.out⟩,⟨by (with_reducible repeat (first|refine bX ?_ _|refine bY ?_|refine bQ ?_ _));exact BK434.out⟩,⟨by repeat (first|(with_reducible first|exact HB.out|apply bJ|apply bI|apply bG|refine cE ?_ GE433.out|refine cE ?_ GE434.out)|exact HB.out)⟩⟩
    ·rw [if_neg c9] at H
     have c9b0:(a0_2==a1_2)=false:=xP.mpr c9
     have c9b1:(a0_2 !=a1_2)=true:=bne_iff_ne.mpr c9
     have H':=aK H;clear H;have hnb17:=NB433_434.out;have hnc17:=NB434_433.out;obtain ⟨hcz18_0,hcz18_1,hcz18_2,hcz18_3,hcz18_4,hfz18_0,hfz18_1,hfz18_2,hfz18_3,hfz18_4⟩:=nP BK433;obtain ⟨hcz19_0,hcz19_1,hcz19_2,hcz19_3,hcz19_4,hfz19_0,hfz19_1,hfz19_2,hfz19_3,hfz19_4⟩:=nP BK434
     go_wp2_with (first|(go_at_call 22;(with_reducible refine (fV k _ _ l0_0 _ _ l1_0 true _ ?side1 ?side2 ?side3 ?side4 A6.out).mono ?_);(case side1=>exact bDn);(case side2=>exact HC0_0.out);(case side3=>exact bEe);(case side4=>exact HC1_0.out);rintro e w' ⟨rfl,⟨nd,rfl⟩⟩;(try first|exact ⟨rfl,_,dX _ _ _⟩|exact ⟨rfl,_,sW (dX _ _ _) (gF (World.drewN _) (kH _ _ _))⟩)))
     repeat (go_quiet (first|(go_at_call 22;(with_reducible refine (fV k _ _ l0_0 _ _ l1_0 true _ ?side1 ?side2 ?side3 ?side4 A6.out).mono ?_);(case side1=>exact bDn);(case side2=>exact HC0_0.out);(case side3=>exact bEe);(case side4=>exact HC1_0.out);rintro e w' ⟨rfl,⟨nd,rfl⟩⟩;(try first|exact ⟨rfl,_,dX _ _ _⟩|exact ⟨rfl,_,sW (dX _ _ _) (gF (World.drewN _) (kH _ _ _))⟩)));try go_wp2_with (first|(go_at_call 22;(with_reducible refine (fV k _ _ l0_0 _ _ l1_0 true _ ?side1 ?side2 ?side3 ?side4 A6.out).mono ?_);(case side1=>exact bDn);(case side2=>exact HC0_0.out);(case side3=>exact bEe);(case side4=>exact HC1_0.out);rintro e w' ⟨rfl,⟨nd,rfl⟩⟩;(try first|exact ⟨rfl,_,dX _ _ _⟩|exact ⟨rfl,_,sW (dX _ _ _) (gF (World.drewN _) (kH _ _ _))⟩))))
     go_meet
     case rel=>exact ⟨_,(true),nR,H',⟨by first|omega|exact bV _⟩,⟨by (with_reducible repeat (first|refine bX ?_ _|refine bY ?_|refine bQ ?_ _));exact BK433.out⟩,⟨by (with_reducible repeat (first|refine bX ?_ _|refine bY ?_|refine bQ ?_ _));exact BK434.out⟩,⟨by repeat (first|(with_reducible first|exact HB.out|apply bJ|apply bI|apply bG|refine cE ?_ GE433.out|refine cE ?_ GE434.out)|exact HB.out)⟩⟩
   ·rw [if_neg c8] at H
    have c8b0:(a0_1==a1_1)=false:=xP.mpr c8
    have c8b1:(a0_1 !=a1_1)=true:=bne_iff_ne.mpr c8
    (first|rw [c8b0]|(simp only [mN,qN];rw [c8b0])|skip)
    have H':=aK H;clear H;have hnb20:=NB433_434.out;have hnc20:=NB434_433.out;obtain ⟨hcz21_0,hcz21_1,hcz21_2,hcz21_3,hcz21_4,hfz21_0,hfz21_1,hfz21_2,hfz21_3,hfz21_4⟩:=nP BK433;obtain ⟨hcz22_0,hcz22_1,hcz22_2,hcz22_3,hcz22_4,hfz22_0,hfz22_1,hfz22_2,hfz22_3,hfz22_4⟩:=nP BK434
    go_wp2_with (first|(go_at_call 22;(with_reducible refine (fV k _ _ l0_0 _ _ l1_0 true _ ?side1 ?side2 ?side3 ?side4 A6.out).mono ?_);(case side1=>exact bDn);(case side2=>exact HC0_0.out);(case side3=>exact bEe);(case side4=>exact HC1_0.out);rintro e w' ⟨rfl,⟨nd,rfl⟩⟩;(try first|exact ⟨rfl,_,dX _ _ _⟩|exact ⟨rfl,_,sW (dX _ _ _) (gF (World.drewN _) (kH _ _ _))⟩)))
    repeat (go_quiet (first|(go_at_call 22;(with_reducible refine (fV k _ _ l0_0 _ _ l1_0 true _ ?side1 ?side2 ?side3 ?side4 A6.out).mono ?_);(case side1=>exact bDn);(case side2=>exact HC0_0.out);(case side3=>exact bEe);(case side4=>exact HC1_0.out);rintro e w' ⟨rfl,⟨nd,rfl⟩⟩;(try first|exact ⟨rfl,_,dX _ _ _⟩|exact ⟨rfl,_,sW (dX _ _ _) (gF (World.drewN _) (kH _ _ _))⟩)));try go_wp2_with (first|(go_at_call 22;(with_reducible refine (fV k _ _ l0_0 _ _ l1_0 true _ ?side1 ?side2 ?side3 ?side4 A6.out).mono ?_);(case side1=>exact bDn);(case side2=>exact HC0_0.out);(case side3=>exact bEe);(case side4=>exact HC1_0.out);rintro e w' ⟨rfl,⟨nd,rfl⟩⟩;(try first|exact ⟨rfl,_,dX _ _ _⟩|exact ⟨rfl,_,sW (dX _ _ _) (gF (World.drewN _) (kH _ _ _))⟩))))
    go_meet
    case rel=>exact ⟨_,(true),nR,H',⟨by first|omega|exact bV _⟩,⟨by (with_reducible repeat (first|refine bX ?_ _|refine bY ?_|refine bQ ?_ _));exact BK433.out⟩,⟨by (with_reducible repeat (first|refine bX ?_ _|refine bY ?_|refine bQ ?_ _));exact BK434.out⟩,⟨by repeat (first|(with_reducible first|exact HB.out|apply bJ|apply bI|apply bG|refine cE ?_ GE433.out|refine cE ?_ GE434.out)|exact HB.out)⟩⟩
  ·replace c7 := Bool.eq_false_iff.mpr c7
   subst c7;rw [if_neg (show¬(false=true) by decide)] at H;have H':=aK H;clear H;have hnb23:=NB433_434.out;have hnc23:=NB434_433.out;obtain ⟨hcz24_0,hcz24_1,hcz24_2,hcz24_3,hcz24_4,hfz24_0,hfz24_1,hfz24_2,hfz24_3,hfz24_4⟩:=nP BK433;obtain ⟨hcz25_0,hcz25_1,hcz25_2,hcz25_3,hcz25_4,hfz25_0,hfz25_1,hfz25_2,hfz25_3,hfz25_4⟩:=nP BK434
   go_wp2_with (first|(go_at_call 22;(with_reducible refine (fV k _ _ l0_0 _ _ l1_0 false _ ?side1 ?side2 ?side3 ?side4 A6.out).mono ?_);(case side1=>exact bDn);(case side2=>exact HC0_0.out);(case side3=>exact bEe);(case side4=>exact HC1_0.out);rintro e w' ⟨rfl,⟨nd,rfl⟩⟩;(try first|exact ⟨rfl,_,dX _ _ _⟩|exact ⟨rfl,_,sW (dX _ _ _) (gF (World.drewN _) (kH _ _ _))⟩)))
   repeat (go_quiet (first|(go_at_call 22;(with_reducible refine (fV k _ _ l0_0 _ _ l1_0 false _ ?side1 ?side2 ?side3 ?side4 A6.out).mono ?_);(case side1=>exact bDn);(case side2=>exact HC0_0.out);(case side3=>exact bEe);(case side4=>exact HC1_0.out);rintro e w' ⟨rfl,⟨nd,rfl⟩⟩;(try first|exact ⟨rfl,_,dX _ _ _⟩|exact ⟨rfl,_,sW (dX _ _ _) (gF (World.drewN _) (kH _ _ _))⟩)));try go_wp2_with (first|(go_at_call 22;(with_reducible refine (fV k _ _ l0_0 _ _ l1_0 false _ ?side1 ?side2 ?side3 ?side4 A6.out).mono ?_);(case side1=>exact bDn);(case side2=>exact HC0_0.out);(case side3=>exact bEe);(case side4=>exact HC1_0.out);rintro e w' ⟨rfl,⟨nd,rfl⟩⟩;(try first|exact ⟨rfl,_,dX _ _ _⟩|exact ⟨rfl,_,sW (dX _ _ _) (gF (World.drewN _) (kH _ _ _))⟩))))
   go_meet
   case rel=>exact ⟨_,(true),nR,H',⟨by first|omega|exact bV _⟩,⟨by (with_reducible repeat (first|refine bX ?_ _|refine bY ?_|refine bQ ?_ _));exact BK433.out⟩,⟨by (with_reducible repeat (first|refine bX ?_ _|refine bY ?_|refine bQ ?_ _));exact BK434.out⟩,⟨by repeat (first|(with_reducible first|exact HB.out|apply bJ|apply bI|apply bG|refine cE ?_ GE433.out|refine cE ?_ GE434.out)|exact HB.out)⟩⟩
 case rest =>
  clear HC3;(try clear c1);(try clear c2);(try clear p2);(try clear c7);(try clear c8);(try clear c8b0);(try clear c8b1);(try clear c9);(try clear c9b0);(try clear c9b1);(try clear c10);(try clear c10b0);(try clear c10b1);(try clear c11);(try clear c14);(try clear c17);(try clear c20);(try clear c21);(try clear c23);(try clear hcz12_0);(try clear hcz12_1);(try clear hcz12_2);(try clear hcz12_3);(try clear hcz12_4);(try clear hcz13_0);(try clear hcz13_1);(try clear hcz13_2);(try clear hcz13_3);(try clear hcz13_4);(try clear hcz15_0);(try clear hcz15_1);(try clear hcz15_2);(try clear hcz15_3);(try clear hcz15_4);(try clear hcz16_0);(try clear hcz16_1);(try clear hcz16_2);(try clear hcz16_3);(try clear hcz16_4);(try clear hcz18_0);(try clear hcz18_1);(try clear hcz18_2);(try clear hcz18_3);(try clear hcz18_4);(try clear hcz19_0);(try clear hcz19_1);(try clear hcz19_2);(try clear hcz19_3);(try clear hcz19_4);(try clear hcz21_0);(try clear hcz21_1);(try clear hcz21_2);(try clear hcz21_3);(try clear hcz21_4);(try clear hcz22_0);(try clear hcz22_1);(try clear hcz22_2);(try clear hcz22_3);(try clear hcz22_4);(try clear hcz24_0);(try clear hcz24_1);(try clear hcz24_2);(try clear hcz24_3);(try clear hcz24_4);(try clear hcz25_0);(try clear hcz25_1);(try clear hcz25_2);(try clear hcz25_3);(try clear hcz25_4);(try clear hfz12_0);(try clear hfz12_1);(try clear hfz12_2);(try clear hfz12_3);(try clear hfz12_4);(try clear hfz13_0);(try clear hfz13_1);(try clear hfz13_2);(try clear hfz13_3);(try clear hfz13_4);(try clear hfz15_0);(try clear hfz15_1);(try clear hfz15_2);(try clear hfz15_3);(try clear hfz15_4);(try clear hfz16_0);(try clear hfz16_1);(try clear hfz16_2);(try clear hfz16_3);(try clear hfz16_4);(try clear hfz18_0);(try clear hfz18_1);(try clear hfz18_2);(try clear hfz18_3);(try clear hfz18_4);(try clear hfz19_0);(try clear hfz19_1);(try clear hfz19_2);(try clear hfz19_3);(try clear hfz19_4);(try clear hfz21_0);(try clear hfz21_1);(try clear hfz21_2);(try clear hfz21_3);(try clear hfz21_4);(try clear hfz22_0);(try clear hfz22_1);(try clear hfz22_2);(try clear hfz22_3);(try clear hfz22_4);(try clear hfz24_0);(try clear hfz24_1);(try clear hfz24_2);(try clear hfz24_3);(try clear hfz24_4);(try clear hfz25_0);(try clear hfz25_1);(try clear hfz25_2);(try clear hfz25_3);(try clear hfz25_4);obtain ⟨kq,x41_2,rfl,HA,HJ2,BK433,BK434,HB⟩:=hcut
  cases kq with
  |zero=>exact absurd HA.out (by simp [kB])
  | succ kj2 =>
   have H:=HA.out;clear HA;simp only [kB] at H;by_cases c26:x41_2=true
   ·subst c26
    rw [if_pos rfl] at H;obtain rfl:=bE H;go_wp2;repeat (go_quiet (fail);try go_wp2)
    go_ret;exact ⟨zL,zz50⟩
   ·replace c26 := Bool.eq_false_iff.mpr c26
    subst c26;rw [if_neg (show¬(false=true) by decide)] at H;have H':=aK H;clear H;go_wp2;repeat (go_quiet (fail);try go_wp2)
    go_loopg [5] kj2 (fun kq v5 w'=> ∃(x5_2:Int),v5= .int .i64 x5_2∧Aside0 (pL kq x5_2 l0_0 a0_1 a0_2 a0_3 l0_4 l1_0 a1_1 a1_2 a1_3 l1_4=some r)∧Aside0 (kq≤kj2)∧Aside0 (w'.heap[gb433]? =some (.cells #[(.slice A0_0 l0_0.length c0_0),.int .i64 a0_1,.int .i64 a0_2,.int .i64 a0_3,(.slice A0_4 l0_4.length c0_4)] 29 (0,0)))∧Aside0 (w'.heap[gb434]? =some (.cells #[(.slice A1_0 l1_0.length c1_0),.int .i64 a1_1,.int .i64 a1_2,.int .i64 a1_3,(.slice A1_4 l1_4.length c1_4)] 29 (0,0)))∧Aside0 (Below w.heap.size w w'))
    case atStart=>exact ⟨(0),nR,H',⟨bV _⟩,⟨by (with_reducible repeat (first|refine bX ?_ _|refine bY ?_|refine bQ ?_ _));exact BK433.out⟩,⟨by (with_reducible repeat (first|refine bX ?_ _|refine bY ?_|refine bQ ?_ _));exact BK434.out⟩,⟨by repeat (first|(with_reducible first|exact HB.out|apply bJ|apply bI|apply bG|refine cE ?_ GE433.out|refine cE ?_ GE434.out)|exact HB.out)⟩⟩
    case round =>
     clear H';(try clear c1);(try clear c2);(try clear p2);(try clear c7);(try clear c8);(try clear c8b0);(try clear c8b1);(try clear c9);(try clear c9b0);(try clear c9b1);(try clear c10);(try clear c10b0);(try clear c10b1);(try clear c11);(try clear c14);(try clear c17);(try clear c20);(try clear c21);(try clear c23);(try clear c26);(try clear hcz12_0);(try clear hcz12_1);(try clear hcz12_2);(try clear hcz12_3);(try clear hcz12_4);(try clear hcz13_0);(try clear hcz13_1);(try clear hcz13_2);(try clear hcz13_3);(try clear hcz13_4);(try clear hcz15_0);(try clear hcz15_1);(try clear hcz15_2);(try clear hcz15_3);(try clear hcz15_4);(try clear hcz16_0);(try clear hcz16_1);(try clear hcz16_2);(try clear hcz16_3);(try clear hcz16_4);(try clear hcz18_0);(try clear hcz18_1);(try clear hcz18_2);(try clear hcz18_3);(try clear hcz18_4);(try clear hcz19_0);(try clear hcz19_1);(try clear hcz19_2);(try clear hcz19_3);(try clear hcz19_4);(try clear hcz21_0);(try clear hcz21_1);(try clear hcz21_2);(try clear hcz21_3);(try clear hcz21_4);(try clear hcz22_0);(try clear hcz22_1);(try clear hcz22_2);(try clear hcz22_3);(try clear hcz22_4);(try clear hcz24_0);(try clear hcz24_1);(try clear hcz24_2);(try clear hcz24_3);(try clear hcz24_4);(try clear hcz25_0);(try clear hcz25_1);(try clear hcz25_2);(try clear hcz25_3);(try clear hcz25_4);(try clear hfz12_0);(try clear hfz12_1);(try clear hfz12_2);(try clear hfz12_3);(try clear hfz12_4);(try clear hfz13_0);(try clear hfz13_1);(try clear hfz13_2);(try clear hfz13_3);(try clear hfz13_4);(try clear hfz15_0);(try clear hfz15_1);(try clear hfz15_2);(try clear hfz15_3);(try clear hfz15_4);(try clear hfz16_0);(try clear hfz16_1);(try clear hfz16_2);(try clear hfz16_3);(try clear hfz16_4);(try clear hfz18_0);(try clear hfz18_1);(try clear hfz18_2);(try clear hfz18_3);(try clear hfz18_4);(try clear hfz19_0);(try clear hfz19_1);(try clear hfz19_2);(try clear hfz19_3);(try clear hfz19_4);(try clear hfz21_0);(try clear hfz21_1);(try clear hfz21_2);(try clear hfz21_3);(try clear hfz21_4);(try clear hfz22_0);(try clear hfz22_1);(try clear hfz22_2);(try clear hfz22_3);(try clear hfz22_4);(try clear hfz24_0);(try clear hfz24_1);(try clear hfz24_2);(try clear hfz24_3);(try clear hfz24_4);(try clear hfz25_0);(try clear hfz25_1);(try clear hfz25_2);(try clear hfz25_3);(try clear hfz25_4);(try clear p2);obtain ⟨x5_2,rfl,HA,HK2,BK433,BK434,HB⟩:=hrel
     cases gk with
     |zero=>exact absurd HA.out (by simp [pL])
     | succ k2 =>
      have H:=HA.out;clear HA;simp only [pL] at H;by_cases c27:x5_2<(l0_4.length:Int)
      ·rw [if_pos c27] at H
       have c27b0:decide (x5_2<(l0_4.length:Int))=true:=bD c27
       clear c27;by_cases c28:0≤x5_2
       ·rw [if_pos c28] at H
        have c28b0:decide (0≤x5_2)=true:=bD c28
        clear c28;by_cases c29:x5_2<(l1_4.length:Int)
        ·rw [if_pos c29] at H
         have c29b0:decide (x5_2<(l1_4.length:Int))=true:=bD c29
         clear c29;by_cases c30:((kK false l0_4 x5_2) !=(kK false l1_4 x5_2))=true
         ·rw [if_pos c30] at H
          have c30b0:((kK false l0_4 x5_2) !=(kK false l1_4 x5_2))=true:=c30
          (try (have c30b1:decide ((kK false l0_4 x5_2)=(kK false l1_4 x5_2))=false:=by simpa using c30))
          (try (have c30b2:((kK false l0_4 x5_2)==(kK false l1_4 x5_2))=false:=by simpa using c30))
          (try (have c30b3: ¬((kK false l0_4 x5_2)=(kK false l1_4 x5_2)):=by simpa using c30))
          clear c30;obtain rfl:=bE H;have hnb31:=NB433_434.out;have hnc31:=NB434_433.out;obtain ⟨hcz32_0,hcz32_1,hcz32_2,hcz32_3,hcz32_4,hfz32_0,hfz32_1,hfz32_2,hfz32_3,hfz32_4⟩:=nP BK433;have p436:0≤(x5_2:Int):=bB jX
          have q436:x5_2<(l0_4.length:Int):=bB jX
          obtain ⟨ad436,e436,hx436_0⟩:=kN HR0_4.out x5_2 p436 q436
          cases e436
          replace hx436_0:=(HB.out.cell (bN w _ hx436_0)).trans hx436_0;replace p436:=bO p436;replace q436:=bO q436;obtain ⟨hcz33_0,hcz33_1,hcz33_2,hcz33_3,hcz33_4,hfz33_0,hfz33_1,hfz33_2,hfz33_3,hfz33_4⟩:=nP BK434;have p437:0≤(x5_2:Int):=bB jX
          have q437:x5_2<(l1_4.length:Int):=bB jX
          obtain ⟨ad437,e437,hx437_0⟩:=kN HR1_4.out x5_2 p437 q437
          cases e437
          replace hx437_0:=(HB.out.cell (bN w _ hx437_0)).trans hx437_0;replace p437:=bO p437;replace q437:=bO q437;go_wp2;repeat (go_quiet (fail);try go_wp2)
          go_ret;exact ⟨zL,zz50⟩
         ·rw [if_neg c30] at H
          have c30b0:((kK false l0_4 x5_2) !=(kK false l1_4 x5_2))=false:=by simpa using c30
          (try (have c30b1:decide ((kK false l0_4 x5_2)=(kK false l1_4 x5_2))=true:=by simpa using c30))
          (try (have c30b2:((kK false l0_4 x5_2)==(kK false l1_4 x5_2))=true:=by simpa using c30))
          clear c30;have H':=aK H;clear H;have hnb34:=NB433_434.out;have hnc34:=NB434_433.out;obtain ⟨hcz35_0,hcz35_1,hcz35_2,hcz35_3,hcz35_4,hfz35_0,hfz35_1,hfz35_2,hfz35_3,hfz35_4⟩:=nP BK433;have p436:0≤(x5_2:Int):=bB jX
          have q436:x5_2<(l0_4.length:Int):=bB jX
          obtain ⟨ad436,e436,hx436_0⟩:=kN HR0_4.out x5_2 p436 q436
          cases e436
          replace hx436_0:=(HB.out.cell (bN w _ hx436_0)).trans hx436_0;replace p436:=bO p436;replace q436:=bO q436;obtain ⟨hcz36_0,hcz36_1,hcz36_2,hcz36_3,hcz36_4,hfz36_0,hfz36_1,hfz36_2,hfz36_3,hfz36_4⟩:=nP BK434;have p437:0≤(x5_2:Int):=bB jX
          have q437:x5_2<(l1_4.length:Int):=bB jX
          obtain ⟨ad437,e437,hx437_0⟩:=kN HR1_4.out x5_2 p437 q437
          cases e437
          replace hx437_0:=(HB.out.cell (bN w _ hx437_0)).trans hx437_0;replace p437:=bO p437;replace q437:=bO q437;go_wp2;repeat (go_quiet (fail);try go_wp2)
          go_roundg k2
          case measure=>have:=HJ2.out;have:=HK2.out;omega
          case rel=>exact ⟨(wrap64 (x5_2+1)),nR,H',⟨by have:=HJ2.out;have:=HK2.out;omega⟩,⟨by (with_reducible repeat (first|refine bX ?_ _|refine bY ?_|refine bQ ?_ _));exact BK433.out⟩,⟨by (with_reducible repeat (first|refine bX ?_ _|refine bY ?_|refine bQ ?_ _));exact BK434.out⟩,⟨by repeat (first|(with_reducible first|exact HB.out|apply bJ|apply bI|apply bG|refine cE ?_ GE433.out|refine cE ?_ GE434.out)|exact HB.out)⟩⟩
        ·rw [if_neg c29] at H
         exact absurd H (by simp)
       ·rw [if_neg c28] at H
        exact absurd H (by simp)
      ·rw [if_neg c27] at H
       have c27b0:decide (x5_2<(l0_4.length:Int))=false:=bM c27
       clear c27;obtain rfl:=bE H;have hnb37:=NB433_434.out;have hnc37:=NB434_433.out;obtain ⟨hcz38_0,hcz38_1,hcz38_2,hcz38_3,hcz38_4,hfz38_0,hfz38_1,hfz38_2,hfz38_3,hfz38_4⟩:=nP BK433;go_wp2;repeat (go_quiet (fail);try go_wp2)
       go_ret;exact ⟨zL,zz50⟩
end Go.Proofs.Ytbaklikaoleplaa.K
namespace Go.Proofs.Ytbaklikaoleplaa.K
open Go.RowKit Go.Proofs.YtbaklikaoleplaaW.PrintWords Go.Proofs.YtbaklikaoleplaaW.PrintLast Go.Proofs.YtbaklikaoleplaaW.PrintMore
attribute [local go_sem] gD gB gY gW fR fQ gC gA
set_option linter.unusedVariables false
set_option linter.unusedSimpArgs false
def walkOf:Option Mm→List Int
  |none=>[]
  |some m=>m.begins
def rF (k:Nat) (l0:List (S53)) (l1_0:List Int) (a1_1:Int) (a1_2:Int) (a1_3:Int) (l1_4:List Bool):Option (List Int):=(bAm k k l0 l1_0 a1_1 a1_2 a1_3 l1_4).bind fun r=>some (walkOf r)
theorem zB (k:Nat) (A0:Option Addr) (c0:Nat) (l0:List (S53)) (A1_0:Option Addr) (c1_0:Nat) (l1_0:List Int) (a1_1:Int) (a1_2:Int) (a1_3:Int) (A1_4:Option Addr) (c1_4:Nat) (l1_4:List Bool) (r:List Int) (w:World) (hr0:Kd.C tU w A0 l0.length l0) (hc0:l0.length≤c0) (hr1_0:Kd.C (Kd.int .i64) w A1_0 l1_0.length l1_0) (hc1_0:l1_0.length≤c1_0) (hr1_4:Kd.C Kd.bool w A1_4 l1_4.length l1_4) (hc1_4:l1_4.length≤c1_4) (h:rF k l0 l1_0 a1_1 a1_2 a1_3 l1_4=some r):
  Calls Try.prog 23 #[.slice A0 l0.length c0,.agg #[.slice A1_0 l1_0.length c1_0,.int .i64 a1_1,.int .i64 a1_2,.int .i64 a1_3,.slice A1_4 l1_4.length c1_4]] w fun e w'=> ∃v0_:Value,e= .returned (v0_)∧Kd.R (Kd.int .i64) 3 w' w.heap.size (fun _=>True) v0_ r∧Below w.heap.size w w':=by
 unfold rF at h;obtain ⟨m,hm,h⟩:=Option.bind_eq_some_iff.mp h;have HM:=aK hm;have HR0:=aK hr0;have HC0:=aK hc0;have HR1:=aK hr1_0;have HC1:=aK hc1_0;have HR4:=aK hr1_4;have HC4:=aK hc1_4;have HB:=aK (bJ (bH w.heap.size w) (.cells #[.slice A1_0 l1_0.length c1_0,.int .i64 a1_1,.int .i64 a1_2,.int .i64 a1_3,.slice A1_4 l1_4.length c1_4] 29 (0,0)));have HH:=aK h;clear hr0 hc0 hr1_0 hc1_0 hr1_4 hc1_4 h hm;go_enter Try.func23,Try.ntmps23
 go_wp2_with fail
 go_at_call 39;refine (bDi k k A0 c0 l0 A1_0 c1_0 l1_0 a1_1 a1_2 a1_3 A1_4 c1_4 l1_4 m _ (cG HR0.out HB.out) HC0.out (cG HR1.out HB.out) HC1.out (cG HR4.out HB.out) HC4.out HM.out).mono ?_
 cases m with
 |none=>
  rintro e w1 ⟨rfl,hb⟩;have HB1:=aK (bK HB.out hb);have hh:=bE HH.out;subst hh;clear hb HM HH;go_wp2;go_ret;exact ⟨_,rfl,mI _ _ _ _ _,HB1.out⟩
 |some m=>
  rintro e w1 ⟨g,rfl,hmo,hb⟩;have HB1:=aK (bK HB.out hb);have hs:=bW HB.out;have hh:=bE HH.out;subst hh;obtain ⟨AW,cW,AC,cC,AF,cF,AB,cB,g0,_,_,_,_,_,rB⟩:=hmo;have k6:=(bA g0 6).trans rfl;have RB:=aK (cI (ok':=fun _=>True) (dE rB hs) (fun _ _=>trivial));clear hb HM HH g0 rB hs;go_wp2;go_ret;exact ⟨_,rfl,RB.out,HB1.out⟩
end Go.Proofs.Ytbaklikaoleplaa.K
namespace Go.Proofs.Ytbaklikaoleplaa.K
open Go.RowKit Go.Proofs.YtbaklikaoleplaaW.PrintWords Go.Proofs.YtbaklikaoleplaaW.PrintLast Go.Proofs.YtbaklikaoleplaaW.PrintMore
attribute [local go_sem] gD gB gY gW fR fQ gC gA
set_option linter.unusedVariables false
set_option linter.unusedSimpArgs false
def kI:Nat→List (S53)→List Int→Int→Int→List Int→Option (List Int×Bool)
  |0,_,_,_,_,_=>none
  |k+1,x0,x1,x2,x3,x10=>if x2<x3 then ((jN k x0 x1 x2 x3).bind fun t133=>(if t133=0 then (some (x10,false)) else (if x10.length<17592186044416 then (kI k x0 x1 (wrap64 (x2+t133)) x3 (x10++[x2])) else (none)))) else (some (x10,true))
def mR (k:Nat) (l0:List (S53)) (l1:List Int) (a2:Int) (a3:Int):Option (List Int×Bool):=kI k l0 l1 a2 a3 (([]:List Int))
theorem pV (k:Nat) (A0:Option Addr) (c0:Nat) (l0:List (S53)) (A1:Option Addr) (c1:Nat) (l1:List Int) (a2:Int) (a3:Int) (r1:List Int) (r2:Bool) (w:World) (hr0:Kd.C tU w A0 l0.length l0) (hc0:l0.length≤c0) (hr1:Kd.C (Kd.int .i64) w A1 l1.length l1) (hc1:l1.length≤c1) (h:mR k l0 l1 a2 a3=some (r1,r2)):
  Calls Try.prog 45 #[.slice A0 l0.length c0,.slice A1 l1.length c1,.int .i64 a2,.int .i64 a3] w fun e w'=> ∃v0_:Value,e= .returned (.tuple #[v0_,.bool r2])∧Kd.R (Kd.int .i64) 3 w' w.heap.size (fun _=>True) v0_ r1∧Below w.heap.size w w':=by
 have HR0:=aK hr0;have HC0:=aK hc0;clear hr0 hc0;have HR1:=aK hr1;have HC1:=aK hc1;clear hr1 hc1;have HB:=aK (bH w.heap.size w);have H:(kI k l0 l1 a2 a3 (([]:List Int)))=some (r1,r2):=h
 clear h;obtain ⟨y130,hy130⟩: ∃y_:List Int,y_=(([]:List Int)):=⟨_,rfl⟩;replace H:(kI k l0 l1 a2 a3 y130)=some (r1,r2):=by first|(rw [hy130];with_reducible exact H)|(have H2_:=(bC _ _).symm.trans H;rw [hy130];with_reducible exact H2_)|(have H2_:=(bC _ _).symm.trans H;with_reducible exact H2_)|with_reducible exact H|(rw [hy130];exact H)|exact H
 have Ny130:=aK hy130;clear hy130;have H':=aK H;clear H;go_enter Try.func45,Try.ntmps45
 go_wp2_with (first|((with_reducible refine dK (N:=12) rfl ?_);refine yI (Kd.int .i64) _ 3 ?hg (N:=12) ?hd (xs:=([]:List Int)) (inner:=[]) (ok:=fun _=>True) (okp:=fun _=>True) ?hr ?hp (fun _ hk=>hk) dT (bH _ _) (bV _) (by simp) ?_;(case hd=>rfl);(case hg=>rfl);(case hr=>first|(go_simp;done)|(go_simp;rfl));(case hp=>exact (pP.none _ _));intro v131 w5 ho6 hb hg_ hnew_;clear hg_ hnew_;(first|rw [←Ny130.out] at ho6|(simp only [Int.reduceToNat] at ho6;rw [←Ny130.out] at ho6));have HO132:=aK (dE ho6 (bW nQ));replace HB:=aK (bK nQ hb);clear hb ho6))
 go_loopg [2,10] k (fun kq v2 v10 w'=> ∃(x2_1:Int) (x10_1:List Int),v2= .int .i64 x2_1∧Aside0 (kI kq l0 l1 x2_1 a3 x10_1=some (r1,r2))∧Aside0 (kq≤k)∧Aside0 (Kd.R (Kd.int .i64) 3 w' w.heap.size (fun _=>True) v10 x10_1)∧Aside0 (Below w.heap.size w w'))
 case atStart=>exact ⟨(a2),(y130),nR,H',⟨bV _⟩,⟨by (with_reducible repeat (first|apply Kd.R_alloc|apply dA|apply dC));exact HO132.out⟩,⟨by repeat (first|(with_reducible first|exact HB.out|apply bJ|apply bI|apply bG)|exact HB.out)⟩⟩
 case round =>
  clear H';(try clear c1);(try clear p2);(try clear c4);obtain ⟨x2_1,x10_1,rfl,HA,HK1,HO_10,HB⟩:=hrel
  cases gk with
  |zero=>exact absurd HA.out (by simp [kI])
  | succ k1 =>
   have H:=HA.out;clear HA;simp only [kI] at H;by_cases c7:x2_1<a3
   ·rw [if_pos c7] at H
    have c7b0:decide (x2_1<a3)=true:=bD c7
    clear c7;replace H:=Option.bind_eq_some_iff.mp H;obtain ⟨t133,A80,H⟩:=H;(try dsimp only at H);have A8:=aK A80;clear A80;by_cases c9:t133=0
    ·rw [if_pos c9] at H
     have c9b0:(t133==0)=true:=zH.mpr c9
     have c9b1:(t133 !=0)=false:=bne_eq_false_iff_eq.mpr c9
     clear c9;simp only [fB,Prod.mk.injEq] at H;obtain ⟨rfl,rfl⟩:=H
     go_wp2_with (first|((with_reducible refine dG (f:=48) rfl ?_);refine gE (some 20) rfl rfl Try.func48 (by kernel_rfl) rfl #[.slice A0 l0.length c0,.slice A1 l1.length c1,.int .i64 x2_1,.int .i64 a3] rfl qD ?_;(with_reducible refine (pR k1 _ _ l0 _ _ l1 x2_1 a3 t133 _ ?side1 ?side2 ?side3 ?side4 A8.out).mono ?_);(case side1=>exact bDl);(case side2=>exact HC0.out);(case side3=>exact (by repeat (first|exact (cG HR1.out HB.out)|(with_reducible refine Kd.C_alloc ?_ _)|(with_reducible refine Kd.C_drewN ?_ _)|(with_reducible refine Kd.C_drew ?_))));(case side4=>exact HC1.out);rintro e w10 ⟨rfl,hb⟩;refine ⟨_,rfl,?_⟩;replace HO_10:=aK (bZ (by (with_reducible repeat (first|apply Kd.R_alloc|apply dA|apply dC));exact HO_10.out) hb);replace HB:=aK (bK nQ hb);(try clear hb);(try clear hb2);(try clear hk);(try clear hi)))
     go_ret2
     exact ⟨_,by first|rfl|(simp [dS,dR]<;>rfl)|(simp [*,dS,dR]<;>rfl),by (with_reducible repeat (first|apply Kd.R_alloc|apply dA|apply dC));exact HO_10.out,by repeat (first|(with_reducible first|exact HB.out|apply bJ|apply bI|apply bG)|exact HB.out)⟩
    ·rw [if_neg c9] at H
     have c9b0:(t133==0)=false:=xP.mpr c9
     have c9b1:(t133 !=0)=true:=bne_iff_ne.mpr c9
     by_cases c11:x10_1.length<17592186044416
     ·rw [if_pos c11] at H
      have LMc11:=aK c11;clear c11;obtain ⟨y134,hy134⟩: ∃y_:List Int,y_=(x10_1++[x2_1]):=⟨_,rfl⟩;replace H:(kI k1 l0 l1 (wrap64 (x2_1+t133)) a3 y134)=some (r1,r2):=by first|(rw [hy134];with_reducible exact H)|(have H2_:=(bC _ _).symm.trans H;rw [hy134];with_reducible exact H2_)|(have H2_:=(bC _ _).symm.trans H;with_reducible exact H2_)|with_reducible exact H|(rw [hy134];exact H)|exact H
      have Ny134:=aK hy134;clear hy134;have H':=aK H;clear H
      go_wp2_with (first|((with_reducible refine dG (f:=48) rfl ?_);refine gE (some 20) rfl rfl Try.func48 (by kernel_rfl) rfl #[.slice A0 l0.length c0,.slice A1 l1.length c1,.int .i64 x2_1,.int .i64 a3] rfl qD ?_;(with_reducible refine (pR k1 _ _ l0 _ _ l1 x2_1 a3 t133 _ ?side1 ?side2 ?side3 ?side4 A8.out).mono ?_);(case side1=>exact bDl);(case side2=>exact HC0.out);(case side3=>exact (by repeat (first|exact (cG HR1.out HB.out)|(with_reducible refine Kd.C_alloc ?_ _)|(with_reducible refine Kd.C_drewN ?_ _)|(with_reducible refine Kd.C_drew ?_))));(case side4=>exact HC1.out);rintro e w12 ⟨rfl,hb⟩;refine ⟨_,rfl,?_⟩;replace HO_10:=aK (bZ (by (with_reducible repeat (first|apply Kd.R_alloc|apply dA|apply dC));exact HO_10.out) hb);replace HB:=aK (bK nQ hb);(try clear hb);(try clear hb2);(try clear hk);(try clear hi))|((with_reducible refine jK (b:= .append) (xs:= #[.tmp 24,.tmp 26]) rfl ?_);at_builtin;refine sE (Kd.int .i64) (w0:=w) w.heap.size rfl (.tmp 24) (.tmp 26) 23 3 (.int .i64 0) 8 rfl Try.underlying23 qT rfl (by decide) (by omega) u10 x10_1 x2_1 [.int .i64 x2_1] (fun _=>True) (fun _=>False) rfl rfl ?aP (fun _ hk=>hk.elim) ?aF ?aO ?aB ?aS ?aL ?_;(case aP=>exact rfl);(case aB=>exact nQ);(case aF=>exact (fun _ _=>trivial));(case aO=>exact (by (with_reducible repeat (first|apply Kd.R_alloc|apply dA|apply dC));exact HO_10.out));(case aS=>exact (bW nQ));(case aL=>have:=LMc11.out;omega);intro v135 w13 ho hb hg hat;rw [←Ny134.out] at ho;have n0_:=aK (hb);have n1_:=aK (ho);clear HB;clear HO_10;have HB:=n0_;have HO136:=n1_;clear n0_ n1_;clear ho hb hg hat))
      go_roundg k1
      case measure=>have:=HK1.out;omega
      case rel=>exact ⟨(wrap64 (x2_1+t133)),(y134),nR,H',⟨by have:=HK1.out;omega⟩,⟨by (with_reducible repeat (first|apply Kd.R_alloc|apply dA|apply dC));exact HO136.out⟩,⟨by repeat (first|(with_reducible first|exact HB.out|apply bJ|apply bI|apply bG)|exact HB.out)⟩⟩
     ·rw [if_neg c11] at H
      exact absurd H (by simp)
   ·rw [if_neg c7] at H
    have c7b0:decide (x2_1<a3)=false:=bM c7
    clear c7;simp only [fB,Prod.mk.injEq] at H;obtain ⟨rfl,rfl⟩:=H;go_wp2
    go_ret2
    exact ⟨_,by first|rfl|(simp [dS,dR]<;>rfl)|(simp [*,dS,dR]<;>rfl),by (with_reducible repeat (first|apply Kd.R_alloc|apply dA|apply dC));exact HO_10.out,by repeat (first|(with_reducible first|exact HB.out|apply bJ|apply bI|apply bG)|exact HB.out)⟩
end Go.Proofs.Ytbaklikaoleplaa.K
namespace Go.Proofs.Ytbaklikaoleplaa.K
open Go.RowKit Go.Proofs.YtbaklikaoleplaaW.PrintWords Go.Proofs.YtbaklikaoleplaaW.PrintLast Go.Proofs.YtbaklikaoleplaaW.PrintMore
attribute [local go_sem] gD gB gY gW fR fQ gC gA
set_option linter.unusedVariables false
set_option linter.unusedSimpArgs false
def jT (k:Nat) (l0:List (S53)) (l1_0:List Int) (a1_1:Int) (a1_2:Int) (a1_3:Int) (l1_4:List Bool):Option (List Int×Bool):=(mR k l0 l1_0 0 a1_2).bind fun bt138=>((mR k l0 l1_0 a1_1 a1_3).bind fun bt142=>(if bt138.1.length+bt142.1.length<17592186044416 then ((some (bt138.1++bt142.1:List Int)).bind fun y146=>(if bt138.2=true then (some (y146,bt142.2)) else (some (y146,false)))) else (none)))
theorem tG (k:Nat) (A0:Option Addr) (c0:Nat) (l0:List (S53)) (A1_0:Option Addr) (c1_0:Nat) (l1_0:List Int) (a1_1:Int) (a1_2:Int) (a1_3:Int) (A1_4:Option Addr) (c1_4:Nat) (l1_4:List Bool) (r1:List Int) (r2:Bool) (w:World) (hr0:Kd.C tU w A0 l0.length l0) (hc0:l0.length≤c0) (hr1_0:Kd.C (Kd.int .i64) w A1_0 l1_0.length l1_0) (hc1_0:l1_0.length≤c1_0) (hr1_4:Kd.C Kd.bool w A1_4 l1_4.length l1_4) (hc1_4:l1_4.length≤c1_4) (h:jT k l0 l1_0 a1_1 a1_2 a1_3 l1_4=some (r1,r2)):
  Calls Try.prog 41 #[.slice A0 l0.length c0,.agg #[.slice A1_0 l1_0.length c1_0,.int .i64 a1_1,.int .i64 a1_2,.int .i64 a1_3,.slice A1_4 l1_4.length c1_4]] w fun e w'=> ∃v0_:Value,e= .returned (.tuple #[v0_,.bool r2])∧Kd.R (Kd.int .i64) 3 w' w.heap.size (fun _=>True) v0_ r1∧Below w.heap.size w w':=by
 have hu29:=Try.underlying29;have HR0:=aK hr0;have HC0:=aK hc0;clear hr0 hc0;have HR1_0:=aK hr1_0;have HC1_0:=aK hc1_0;clear hr1_0 hc1_0;have HR1_4:=aK hr1_4;have HC1_4:=aK hc1_4;clear hr1_4 hc1_4;have HB:=aK (bH w.heap.size w);have H:((mR k l0 l1_0 0 a1_2).bind fun bt138=>((mR k l0 l1_0 a1_1 a1_3).bind fun bt142=>(if bt138.1.length+bt142.1.length<17592186044416 then ((some (bt138.1++bt142.1:List Int)).bind fun y146=>(if bt138.2=true then (some (y146,bt142.2)) else (some (y146,false)))) else (none))))=some (r1,r2):=h
 clear h;replace H:=Option.bind_eq_some_iff.mp H;obtain ⟨⟨t138,t139⟩,A30,H⟩:=H;(try dsimp only at H);have A3:=aK A30;clear A30;replace H:=Option.bind_eq_some_iff.mp H;obtain ⟨⟨t142,t143⟩,A40,H⟩:=H;(try dsimp only at H);have A4:=aK A40;clear A40;by_cases c5:t138.length+t142.length<17592186044416
 ·rw [if_pos c5] at H
  have LMc5:=aK c5;clear c5;obtain ⟨y146,hy146⟩: ∃y_:List Int,y_=(t138++t142):=⟨_,rfl⟩;replace H:(if t139=true then (some (y146,t143)) else (some (y146,false)))=some (r1,r2):=by first|(rw [hy146];with_reducible exact H)|(have H2_:=(bC _ _).symm.trans H;rw [hy146];with_reducible exact H2_)|(have H2_:=(bC _ _).symm.trans H;with_reducible exact H2_)|with_reducible exact H|(rw [hy146];exact H)|exact H
  have Ny146:=aK hy146;clear hy146;by_cases c6:t139=true
  ·subst c6
   rw [if_pos rfl] at H;simp only [fB,Prod.mk.injEq] at H;obtain ⟨rfl,rfl⟩:=H;go_enter Try.func41,Try.ntmps41
   go_wp2_with (first|((with_reducible refine dK (N:=3) rfl ?_);refine dM ?hg (N:=3) ?hd (cs:= #[.slice A1_0 l1_0.length c1_0,.int .i64 a1_1,.int .i64 a1_2,.int .i64 a1_3,.slice A1_4 l1_4.length c1_4]) (t:=29) ?hr ?_;(case hd=>rfl);(case hg=>rfl);(case hr=>first|(go_simp;done)|(go_simp;rfl));intro gb137 hg w7 hbox hb;have BK137:=aK (hbox);have GW137:=aK ((by rw [hg];exact (bW nQ):w.heap.size≤gb137));have GE137:=aK ((by rw [hg];exact (bW nQ):w.heap.size≤gb137));replace HB:=aK (bK nQ hb);clear hb hbox hg;obtain ⟨hcz8_0,hcz8_1,hcz8_2,hcz8_3,hcz8_4,hfz8_0,hfz8_1,hfz8_2,hfz8_3,hfz8_4⟩:=nP BK137)|((with_reducible refine dG (f:=45) rfl ?_);refine gE (some 16) rfl rfl Try.func45 (by kernel_rfl) rfl #[.slice A0 l0.length c0,.slice A1_0 l1_0.length c1_0,.int .i64 0,.int .i64 a1_2] rfl qD ?_;(with_reducible refine (pV k _ _ l0 _ _ l1_0 0 a1_2 t138 true _ ?side1 ?side2 ?side3 ?side4 A3.out).mono ?_);(case side1=>exact bDl);(case side2=>exact HC0.out);(case side3=>exact bEe);(case side4=>exact HC1_0.out);rintro e w9 ⟨v140,rfl,ho0,hb⟩;refine ⟨_,rfl,?_⟩;have HO141:=aK (dE ho0 (bW bGg));replace BK137:=aK (bS (g:=gb137) (o:= .cells #[.slice A1_0 l1_0.length c1_0,.int .i64 a1_1,.int .i64 a1_2,.int .i64 a1_3,.slice A1_4 l1_4.length c1_4] 29 (0,0)) bOu hb);replace HB:=aK (bK bGg hb);(try clear hb);(try clear hb2);(try clear hk);(try clear hi);(try clear ho0);obtain ⟨hcz10_0,hcz10_1,hcz10_2,hcz10_3,hcz10_4,hfz10_0,hfz10_1,hfz10_2,hfz10_3,hfz10_4⟩:=nP BK137)|((with_reducible refine dG (f:=45) rfl ?_);refine gE (some 27) rfl rfl Try.func45 (by kernel_rfl) rfl #[.slice A0 l0.length c0,.slice A1_0 l1_0.length c1_0,.int .i64 a1_1,.int .i64 a1_3] rfl qD ?_;(with_reducible refine (pV k _ _ l0 _ _ l1_0 a1_1 a1_3 t142 t143 _ ?side1 ?side2 ?side3 ?side4 A4.out).mono ?_);(case side1=>exact bDl);(case side2=>exact HC0.out);(case side3=>exact bEe);(case side4=>exact HC1_0.out);rintro e w11 ⟨v144,rfl,ho0,hb⟩;refine ⟨_,rfl,?_⟩;have HO145:=aK (dE (Kd.R_new' ho0 (pM (by (with_reducible repeat (first|apply Kd.R_alloc|apply dA|apply dC));exact HO141.out))) (bW bGg));replace HO141:=aK (Kd.R_elder' (by (with_reducible repeat (first|apply Kd.R_alloc|apply dA|apply dC));exact HO141.out) (nN ho0) hb);replace BK137:=aK (bS (g:=gb137) (o:= .cells #[.slice A1_0 l1_0.length c1_0,.int .i64 a1_1,.int .i64 a1_2,.int .i64 a1_3,.slice A1_4 l1_4.length c1_4] 29 (0,0)) bOu hb);replace HB:=aK (bK bGg hb);(try clear hb);(try clear hb2);(try clear hk);(try clear hi);(try clear ho0);obtain ⟨Ao13,co13,eo13⟩:=cL HO145.out;subst eo13)|((with_reducible refine jK (b:= .append) (xs:= #[.tmp 30,.tmp 31]) rfl ?_);at_builtin;refine xF (Kd.int .i64) (w0:=w) w.heap.size rfl (.tmp 30) (.tmp 31) 23 3 (.int .i64 0) 8 rfl Try.underlying23 qT rfl (by decide) (by omega) v140 t138 t142 _ _ _ (fun k_=>some k_≠(.slice Ao13 t142.length co13:Value).ownBlock) (fun _=>False) rfl rfl ?aO ?aR (fun _ _ h=>h) (fun _ h=>h.elim) ?aF ?aB ?aS ?aL ?_;(case aR=>repeat (first|exact (cD HO145.out).2.2|(with_reducible refine Kd.C_alloc ?_ _)|(with_reducible refine Kd.C_drewN ?_ _)|(with_reducible refine Kd.C_drew ?_)));(case aB=>exact bGg);(case aF=>exact (fun k_ hk=>Kd.fresh' (pM (by (with_reducible repeat (first|apply Kd.R_alloc|apply dA|apply dC));exact HO145.out)) k_ hk));(case aO=>exact (by (with_reducible repeat (first|apply Kd.R_alloc|apply dA|apply dC));exact cI HO141.out (fun _ hk=>hk.2)));(case aS=>exact (bW bGg));(case aL=>have:=LMc5.out;omega);intro v147 w12 ho hb hg hat;rw [←Ny146.out] at ho;have n0_:=aK (nE (g:=gb137) (o:= .cells #[.slice A1_0 l1_0.length c1_0,.int .i64 a1_1,.int .i64 a1_2,.int .i64 a1_3,.slice A1_4 l1_4.length c1_4] 29 (0,0)) bOu hg (qP HO141.out BK137.out (by decide)));have n1_:=aK (Kd.R_after (ok:=(fun _=>True)) (by (with_reducible repeat (first|apply Kd.R_alloc|apply dA|apply dC));exact HO145.out) hg hat);have n2_:=aK (hb);have n3_:=aK (ho);clear BK137;clear HO145;clear HB;clear HO141;have BK137:=n0_;have HO145:=n1_;have HB:=n2_;have HO148:=n3_;clear n0_ n1_ n2_ n3_;clear ho hb hg hat))
   go_ret2
   exact ⟨_,by first|rfl|(simp [dS,dR]<;>rfl)|(simp [*,dS,dR]<;>rfl),by (with_reducible repeat (first|apply Kd.R_alloc|apply dA|apply dC));exact cI HO148.out (fun _ hk=>trivial),by repeat (first|(with_reducible first|exact HB.out|apply bJ|apply bI|apply bG|refine cE ?_ GE137.out)|exact HB.out)⟩
  ·replace c6 := Bool.eq_false_iff.mpr c6
   subst c6;rw [if_neg (show¬(false=true) by decide)] at H;simp only [fB,Prod.mk.injEq] at H;obtain ⟨rfl,rfl⟩:=H;go_enter Try.func41,Try.ntmps41
   go_wp2_with (first|((with_reducible refine dK (N:=3) rfl ?_);refine dM ?hg (N:=3) ?hd (cs:= #[.slice A1_0 l1_0.length c1_0,.int .i64 a1_1,.int .i64 a1_2,.int .i64 a1_3,.slice A1_4 l1_4.length c1_4]) (t:=29) ?hr ?_;(case hd=>rfl);(case hg=>rfl);(case hr=>first|(go_simp;done)|(go_simp;rfl));intro gb137 hg w14 hbox hb;have BK137:=aK (hbox);have GW137:=aK ((by rw [hg];exact (bW nQ):w.heap.size≤gb137));have GE137:=aK ((by rw [hg];exact (bW nQ):w.heap.size≤gb137));replace HB:=aK (bK nQ hb);clear hb hbox hg;obtain ⟨hcz15_0,hcz15_1,hcz15_2,hcz15_3,hcz15_4,hfz15_0,hfz15_1,hfz15_2,hfz15_3,hfz15_4⟩:=nP BK137)|((with_reducible refine dG (f:=45) rfl ?_);refine gE (some 16) rfl rfl Try.func45 (by kernel_rfl) rfl #[.slice A0 l0.length c0,.slice A1_0 l1_0.length c1_0,.int .i64 0,.int .i64 a1_2] rfl qD ?_;(with_reducible refine (pV k _ _ l0 _ _ l1_0 0 a1_2 t138 false _ ?side1 ?side2 ?side3 ?side4 A3.out).mono ?_);(case side1=>exact bDl);(case side2=>exact HC0.out);(case side3=>exact bEe);(case side4=>exact HC1_0.out);rintro e w16 ⟨v140,rfl,ho0,hb⟩;refine ⟨_,rfl,?_⟩;have HO141:=aK (dE ho0 (bW bGg));replace BK137:=aK (bS (g:=gb137) (o:= .cells #[.slice A1_0 l1_0.length c1_0,.int .i64 a1_1,.int .i64 a1_2,.int .i64 a1_3,.slice A1_4 l1_4.length c1_4] 29 (0,0)) bOu hb);replace HB:=aK (bK bGg hb);(try clear hb);(try clear hb2);(try clear hk);(try clear hi);(try clear ho0);obtain ⟨hcz17_0,hcz17_1,hcz17_2,hcz17_3,hcz17_4,hfz17_0,hfz17_1,hfz17_2,hfz17_3,hfz17_4⟩:=nP BK137)|((with_reducible refine dG (f:=45) rfl ?_);refine gE (some 27) rfl rfl Try.func45 (by kernel_rfl) rfl #[.slice A0 l0.length c0,.slice A1_0 l1_0.length c1_0,.int .i64 a1_1,.int .i64 a1_3] rfl qD ?_;(with_reducible refine (pV k _ _ l0 _ _ l1_0 a1_1 a1_3 t142 t143 _ ?side1 ?side2 ?side3 ?side4 A4.out).mono ?_);(case side1=>exact bDl);(case side2=>exact HC0.out);(case side3=>exact bEe);(case side4=>exact HC1_0.out);rintro e w18 ⟨v144,rfl,ho0,hb⟩;refine ⟨_,rfl,?_⟩;have HO145:=aK (dE (Kd.R_new' ho0 (pM (by (with_reducible repeat (first|apply Kd.R_alloc|apply dA|apply dC));exact HO141.out))) (bW bGg));replace HO141:=aK (Kd.R_elder' (by (with_reducible repeat (first|apply Kd.R_alloc|apply dA|apply dC));exact HO141.out) (nN ho0) hb);replace BK137:=aK (bS (g:=gb137) (o:= .cells #[.slice A1_0 l1_0.length c1_0,.int .i64 a1_1,.int .i64 a1_2,.int .i64 a1_3,.slice A1_4 l1_4.length c1_4] 29 (0,0)) bOu hb);replace HB:=aK (bK bGg hb);(try clear hb);(try clear hb2);(try clear hk);(try clear hi);(try clear ho0);obtain ⟨Ao20,co20,eo20⟩:=cL HO145.out;subst eo20)|((with_reducible refine jK (b:= .append) (xs:= #[.tmp 30,.tmp 31]) rfl ?_);at_builtin;refine xF (Kd.int .i64) (w0:=w) w.heap.size rfl (.tmp 30) (.tmp 31) 23 3 (.int .i64 0) 8 rfl Try.underlying23 qT rfl (by decide) (by omega) v140 t138 t142 _ _ _ (fun k_=>some k_≠(.slice Ao20 t142.length co20:Value).ownBlock) (fun _=>False) rfl rfl ?aO ?aR (fun _ _ h=>h) (fun _ h=>h.elim) ?aF ?aB ?aS ?aL ?_;(case aR=>repeat (first|exact (cD HO145.out).2.2|(with_reducible refine Kd.C_alloc ?_ _)|(with_reducible refine Kd.C_drewN ?_ _)|(with_reducible refine Kd.C_drew ?_)));(case aB=>exact bGg);(case aF=>exact (fun k_ hk=>Kd.fresh' (pM (by (with_reducible repeat (first|apply Kd.R_alloc|apply dA|apply dC));exact HO145.out)) k_ hk));(case aO=>exact (by (with_reducible repeat (first|apply Kd.R_alloc|apply dA|apply dC));exact cI HO141.out (fun _ hk=>hk.2)));(case aS=>exact (bW bGg));(case aL=>have:=LMc5.out;omega);intro v147 w19 ho hb hg hat;rw [←Ny146.out] at ho;have n0_:=aK (nE (g:=gb137) (o:= .cells #[.slice A1_0 l1_0.length c1_0,.int .i64 a1_1,.int .i64 a1_2,.int .i64 a1_3,.slice A1_4 l1_4.length c1_4] 29 (0,0)) bOu hg (qP HO141.out BK137.out (by decide)));have n1_:=aK (Kd.R_after (ok:=(fun _=>True)) (by (with_reducible repeat (first|apply Kd.R_alloc|apply dA|apply dC));exact HO145.out) hg hat);have n2_:=aK (hb);have n3_:=aK (ho);clear BK137;clear HO145;clear HB;clear HO141;have BK137:=n0_;have HO145:=n1_;have HB:=n2_;have HO148:=n3_;clear n0_ n1_ n2_ n3_;clear ho hb hg hat))
   go_ret2
   exact ⟨_,by first|rfl|(simp [dS,dR]<;>rfl)|(simp [*,dS,dR]<;>rfl),by (with_reducible repeat (first|apply Kd.R_alloc|apply dA|apply dC));exact cI HO148.out (fun _ hk=>trivial),by repeat (first|(with_reducible first|exact HB.out|apply bJ|apply bI|apply bG|refine cE ?_ GE137.out)|exact HB.out)⟩
 ·rw [if_neg c5] at H
  exact absurd H (by simp)
end Go.Proofs.Ytbaklikaoleplaa.K
namespace Go.Proofs.Ytbaklikaoleplaa.K
open Go.RowKit Go.Proofs.YtbaklikaoleplaaW.PrintWords Go.Proofs.YtbaklikaoleplaaW.PrintLast Go.Proofs.YtbaklikaoleplaaW.PrintMore
attribute [local go_sem] gD gB gY gW fR fQ gC gA
set_option linter.unusedVariables false
set_option linter.unusedSimpArgs false
def vB (l0:List (S53)) (a1:Int):Option (Bool):=if a1=1 then (some true) else (if a1=3 then (some true) else (if a1=4 then (some true) else ((fK a1 8 (wrap64 ((wrap64 (8+(l0.length:Int))) - 1))).bind fun t154=>(some t154))))
theorem yP (A0:Option Addr) (c0:Nat) (l0:List (S53)) (a1:Int) (r:Bool) (w:World) (hr0:Kd.C tU w A0 l0.length l0) (hc0:l0.length≤c0) (h:vB l0 a1=some r):
  Calls Try.prog 117 #[.slice A0 l0.length c0,.int .i64 a1] w fun e w'=>e= .returned (.bool r)∧Drawn0 w w':=by
 have HR0:=aK hr0;have HC0:=aK hc0;clear hr0 hc0;have H:(if a1=1 then (some true) else (if a1=3 then (some true) else (if a1=4 then (some true) else ((fK a1 8 (wrap64 ((wrap64 (8+(l0.length:Int))) - 1))).bind fun t154=>(some t154)))))=some r:=h
 clear h;by_cases c3:a1=1
 ·rw [if_pos c3] at H
  have c3b0:(a1==1)=true:=zH.mpr c3
  have c3b1:(a1 !=1)=false:=bne_eq_false_iff_eq.mpr c3
  clear c3;obtain rfl:=bE H;go_enter Try.func117,Try.ntmps117;go_wp2;go_ret;exact ⟨nR,sF⟩
 ·rw [if_neg c3] at H
  have c3b0:(a1==1)=false:=xP.mpr c3
  have c3b1:(a1 !=1)=true:=bne_iff_ne.mpr c3
  by_cases c4:a1=3
  ·rw [if_pos c4] at H
   have c4b0:(a1==3)=true:=zH.mpr c4
   have c4b1:(a1 !=3)=false:=bne_eq_false_iff_eq.mpr c4
   clear c4;obtain rfl:=bE H;go_enter Try.func117,Try.ntmps117;go_wp2;go_ret;exact ⟨nR,sF⟩
  ·rw [if_neg c4] at H
   have c4b0:(a1==3)=false:=xP.mpr c4
   have c4b1:(a1 !=3)=true:=bne_iff_ne.mpr c4
   by_cases c5:a1=4
   ·rw [if_pos c5] at H
    have c5b0:(a1==4)=true:=zH.mpr c5
    have c5b1:(a1 !=4)=false:=bne_eq_false_iff_eq.mpr c5
    clear c5;obtain rfl:=bE H;go_enter Try.func117,Try.ntmps117;go_wp2;go_ret;exact ⟨nR,sF⟩
   ·rw [if_neg c5] at H
    have c5b0:(a1==4)=false:=xP.mpr c5
    have c5b1:(a1 !=4)=true:=bne_iff_ne.mpr c5
    replace H:=Option.bind_eq_some_iff.mp H;obtain ⟨t154,A60,H⟩:=H;(try dsimp only at H);have A6:=aK A60;clear A60;obtain rfl:=bE H;go_enter Try.func117,Try.ntmps117
    go_wp2_with (first|(go_at_call 73;(with_reducible refine (cZ a1 8 (wrap64 ((wrap64 (8+(l0.length:Int))) - 1)) t154 _ A6.out).mono ?_);rintro e w' ⟨rfl,⟨nd,rfl⟩⟩))
    go_ret;exact ⟨nR,sF⟩
end Go.Proofs.Ytbaklikaoleplaa.K
namespace Go.Proofs.Ytbaklikaoleplaa.K
open Go.RowKit Go.Proofs.YtbaklikaoleplaaW.PrintWords Go.Proofs.YtbaklikaoleplaaW.PrintLast Go.Proofs.YtbaklikaoleplaaW.PrintMore
attribute [local go_sem] gD gB gY gW fR fQ gC gA
set_option linter.unusedVariables false
set_option linter.unusedSimpArgs false
def mA:Nat→List (S53)→Int→Int→Int→List Int→Option (Bool)
  |0,_,_,_,_,_=>none
  |k+1,x0,x1,x6,x157000,x157001=>if x6<(x157001.length:Int) then (if 0≤x6 then ((vB x0 (rd x157001 x6)).bind fun t158=>(if t158=true then (mA k x0 x1 (wrap64 (x6+1)) x157000 x157001) else (some false))) else (none)) else (if x1=0 then (if x157000=(-1) then (some ((x157001.length:Int)==0)) else (some false)) else (if x1=1 then (if x157000=0 then (if (x157001.length:Int)=1 then (if 0<(x157001.length:Int) then (some ((rd x157001 0)==1)) else (none)) else (some false)) else (some false)) else ((fK x157000 0 (wrap64 (x1 - 1))).bind fun t160=>(if t160=true then (some (decide ((x157001.length:Int)≤2))) else (some false)))))
def vC (k:Nat) (l0:List (S53)) (a1:Int):Option (Bool):=if 0≤a1 then (if a1<(l0.length:Int) then (mA k l0 a1 0 ((cY l0 a1).f0) ((cY l0 a1).f1)) else (none)) else (none)
theorem yQ (k : Nat) (A0 : Option Addr) (c0 : Nat) (l0 : List (S53)) (a1 : Int) (r : Bool) (w : World) (hr0 : Kd.C tU w A0 l0.length l0) (hc0 : l0.length ≤ c0) (h : vC k l0 a1 = some r) :
  Calls Try.prog 115 #[.slice A0 l0.length c0,.int .i64 a1] w fun e w'=>e= .returned (.bool r)∧Below w.heap.size w w':=by
 have hu53:=Try.underlying53;have HR0:=aK hr0;have HC0:=aK hc0;clear hr0 hc0;have HB:=aK (bH w.heap.size w);have H:(if 0≤a1 then (if a1<(l0.length:Int) then (mA k l0 a1 0 ((cY l0 a1).f0) ((cY l0 a1).f1)) else (none)) else (none))=some r:=h
 clear h;by_cases c3:0≤a1
 ·rw [if_pos c3] at H
  have c3b0:decide (0≤a1)=true:=bD c3
  clear c3;by_cases c4:a1<(l0.length:Int)
  ·rw [if_pos c4] at H
   have c4b0:decide (a1<(l0.length:Int))=true:=bD c4
   clear c4;have H':=aK H;clear H;have p155:0≤(a1:Int):=bB jX
   have q155:a1<(l0.length:Int):=bB jX
   obtain ⟨ad155,A155_1,c155_1,e155,hx155_0,hx155_1,hl155_1,hi155_1⟩:=bAb HR0.out a1 p155 q155
   cases e155
   have HR155_1:=aK hi155_1;have HC155_1:=aK hl155_1;clear hi155_1 hl155_1;replace p155:=bO p155;replace q155:=bO q155;go_enter Try.func115,Try.ntmps115
   go_wp2_with (first|((with_reducible refine dK (N:=5) rfl ?_);(try (refine qS (by rfl) ?_;dsimp only));refine dM ?hg (N:=5) ?hd (cs:= #[.int .i64 0,.slice none 0 0]) (t:=53) ?hr ?_;(case hd=>rfl);(case hg=>rfl);(case hr=>first|(go_simp;done)|(go_simp;rfl));intro gb156 hg w5 hbox hb;have BK156:=aK (hbox);have GW156:=aK ((by rw [hg];exact (bW nQ):w.heap.size≤gb156));have GE156:=aK ((by rw [hg];exact (bW nQ):w.heap.size≤gb156));replace HB:=aK (bK nQ hb);clear hb hbox hg;obtain ⟨hcz6_0,hcz6_1,hfz6_0,hfz6_1⟩:=bAz BK156))
   go_loopg [6] k (fun kq v6 w'=> ∃(x6_1:Int),v6= .int .i64 x6_1∧Aside0 (mA kq l0 a1 x6_1 ((cY l0 a1).f0) ((cY l0 a1).f1)=some r)∧Aside0 (kq≤k)∧Aside0 (w'.heap[gb156]? =some (.cells #[.int .i64 ((cY l0 a1).f0),(.slice A155_1 ((cY l0 a1).f1).length c155_1)] 53 (0,0)))∧Aside0 (Below w.heap.size w w'))
   case atStart=>exact ⟨(0),nR,H',⟨bV _⟩,⟨by (with_reducible repeat (first|refine bX ?_ _|refine bY ?_|refine bQ ?_ _));refine fF (cs:= #[.int .i64 ((cY l0 a1).f0),.slice none 0 0]) ?_ 1 _ rfl;(with_reducible repeat (first|refine bX ?_ _|refine bY ?_|refine bQ ?_ _));refine fF (cs:= #[.int .i64 0,.slice none 0 0]) ?_ 0 _ rfl;(with_reducible repeat (first|refine bX ?_ _|refine bY ?_|refine bQ ?_ _));exact BK156.out⟩,⟨by repeat (first|(with_reducible first|exact HB.out|apply bJ|apply bI|apply bG|refine cE ?_ GE156.out)|exact HB.out)⟩⟩
   case round =>
    clear H';(try clear c1);(try clear p1);(try clear q1);(try clear hx1);(try clear p2);(try clear c3);(try clear c3b0);(try clear c4);(try clear c4b0);(try clear hcz6_0);(try clear hcz6_1);(try clear hfz6_0);(try clear hfz6_1);(try clear hx155_0);(try clear hx155_1);(try clear p155);(try clear q155);obtain ⟨x6_1,rfl,HA,HK1,BK156,HB⟩:=hrel
    cases gk with
    |zero=>exact absurd HA.out (by simp [mA])
    | succ k1 =>
     have H:=HA.out;clear HA;simp only [mA] at H;by_cases c7:x6_1<(((cY l0 a1).f1).length:Int)
     ·rw [if_pos c7] at H
      have c7b0:decide (x6_1<(((cY l0 a1).f1).length:Int))=true:=bD c7
      clear c7;by_cases c8:0≤x6_1
      ·rw [if_pos c8] at H
       have c8b0:decide (0≤x6_1)=true:=bD c8
       clear c8;replace H:=Option.bind_eq_some_iff.mp H;obtain ⟨t158,A90,H⟩:=H;(try dsimp only at H);have A9:=aK A90;clear A90;by_cases c10:t158=true
       ·subst c10
        rw [if_pos rfl] at H;have H':=aK H;clear H;obtain ⟨hcz11_0,hcz11_1,hfz11_0,hfz11_1⟩:=bAz BK156;have p157:0≤(x6_1:Int):=bB jX
        have q157:x6_1<(((cY l0 a1).f1).length:Int):=bB jX
        obtain ⟨ad157,e157,hx157_0⟩:=dL HR155_1.out x6_1 p157 q157
        cases e157
        replace hx157_0:=(HB.out.cell (bN w _ hx157_0)).trans hx157_0;replace p157:=bO p157;replace q157:=bO q157
        go_wp2_with (first|((with_reducible refine dG (f:=117) rfl ?_);refine gE (some 24) rfl rfl Try.func117 (by kernel_rfl) rfl #[.slice (some ad155) l0.length c0,.int .i64 (rd ((cY l0 a1).f1) x6_1)] rfl qD ?_;(with_reducible refine (yP _ _ l0 (rd ((cY l0 a1).f1) x6_1) true _ ?side1 ?side2 A9.out).mono ?_);(case side1=>exact bDl);(case side2=>exact HC0.out);rintro e w' ⟨rfl,⟨nd,rfl⟩⟩;refine ⟨_,rfl,?_⟩))
        go_roundg k1
        case measure=>have:=HK1.out;omega
        case rel=>exact ⟨(wrap64 (x6_1+1)),nR,H',⟨by have:=HK1.out;omega⟩,⟨by (with_reducible repeat (first|refine bX ?_ _|refine bY ?_|refine bQ ?_ _));exact BK156.out⟩,⟨by repeat (first|(with_reducible first|exact HB.out|apply bJ|apply bI|apply bG|refine cE ?_ GE156.out)|exact HB.out)⟩⟩
       ·replace c10 := Bool.eq_false_iff.mpr c10
        subst c10;rw [if_neg (show¬(false=true) by decide)] at H;obtain rfl:=bE H;obtain ⟨hcz12_0,hcz12_1,hfz12_0,hfz12_1⟩:=bAz BK156;have p157:0≤(x6_1:Int):=bB jX
        have q157:x6_1<(((cY l0 a1).f1).length:Int):=bB jX
        obtain ⟨ad157,e157,hx157_0⟩:=dL HR155_1.out x6_1 p157 q157
        cases e157
        replace hx157_0:=(HB.out.cell (bN w _ hx157_0)).trans hx157_0;replace p157:=bO p157;replace q157:=bO q157
        go_wp2_with (first|((with_reducible refine dG (f:=117) rfl ?_);refine gE (some 24) rfl rfl Try.func117 (by kernel_rfl) rfl #[.slice (some ad155) l0.length c0,.int .i64 (rd ((cY l0 a1).f1) x6_1)] rfl qD ?_;(with_reducible refine (yP _ _ l0 (rd ((cY l0 a1).f1) x6_1) false _ ?side1 ?side2 A9.out).mono ?_);(case side1=>exact bDl);(case side2=>exact HC0.out);rintro e w' ⟨rfl,⟨nd,rfl⟩⟩;refine ⟨_,rfl,?_⟩))
        go_ret;exact ⟨zL,bLa⟩
      ·rw [if_neg c8] at H
       exact absurd H (by simp)
     ·rw [if_neg c7] at H
      have c7b0:decide (x6_1<(((cY l0 a1).f1).length:Int))=false:=bM c7
      clear c7;by_cases c13:a1=0
      ·rw [if_pos c13] at H
       have c13b0:(a1==0)=true:=zH.mpr c13
       have c13b1:(a1 !=0)=false:=bne_eq_false_iff_eq.mpr c13
       clear c13;by_cases c14:((cY l0 a1).f0)=(-1)
       ·rw [if_pos c14] at H
        have c14b0:(((cY l0 a1).f0)==(-1))=true:=zH.mpr c14
        have c14b1:(((cY l0 a1).f0) !=(-1))=false:=bne_eq_false_iff_eq.mpr c14
        clear c14;obtain rfl:=bE H;obtain ⟨hcz15_0,hcz15_1,hfz15_0,hfz15_1⟩:=bAz BK156;go_wp2;go_ret;exact ⟨zL,bLa⟩
       ·rw [if_neg c14] at H
        have c14b0:(((cY l0 a1).f0)==(-1))=false:=xP.mpr c14
        have c14b1:(((cY l0 a1).f0) !=(-1))=true:=bne_iff_ne.mpr c14
        obtain rfl:=bE H;obtain ⟨hcz16_0,hcz16_1,hfz16_0,hfz16_1⟩:=bAz BK156;go_wp2;go_ret;exact ⟨zL,bLa⟩
      ·rw [if_neg c13] at H
       have c13b0:(a1==0)=false:=xP.mpr c13
       have c13b1:(a1 !=0)=true:=bne_iff_ne.mpr c13
       by_cases c17:a1=1
       ·rw [if_pos c17] at H
        have c17b0:(a1==1)=true:=zH.mpr c17
        have c17b1:(a1 !=1)=false:=bne_eq_false_iff_eq.mpr c17
        clear c17;by_cases c18:((cY l0 a1).f0)=0
        ·rw [if_pos c18] at H
         have c18b0:(((cY l0 a1).f0)==0)=true:=zH.mpr c18
         have c18b1:(((cY l0 a1).f0) !=0)=false:=bne_eq_false_iff_eq.mpr c18
         clear c18;by_cases c19:(((cY l0 a1).f1).length:Int)=1
         ·rw [if_pos c19] at H
          have c19b0:((((cY l0 a1).f1).length:Int)==1)=true:=zH.mpr c19
          have c19b1:((((cY l0 a1).f1).length:Int) !=1)=false:=bne_eq_false_iff_eq.mpr c19
          clear c19;by_cases c20:0<(((cY l0 a1).f1).length:Int)
          ·rw [if_pos c20] at H
           have c20b0:decide (0<(((cY l0 a1).f1).length:Int))=true:=bD c20
           have c20b1:decide (0<((cY l0 a1).f1).length)=true:=bD (by omega)
           clear c20;obtain rfl:=bE H;obtain ⟨hcz21_0,hcz21_1,hfz21_0,hfz21_1⟩:=bAz BK156;have p159:0≤(0:Int):=(by omega)
           have q159:0<(((cY l0 a1).f1).length:Int):=bB jX
           obtain ⟨ad159,e159,hx159_0⟩:=dL HR155_1.out 0 p159 q159
           cases e159
           have qi159:(0<((cY l0 a1).f1).length)=True:=bO (by omega)
           (try rw [show ((0:Int)).toNat=0 from rfl] at hx159_0)
           (try rw [Addr.add_zero'] at hx159_0)
           replace hx159_0:=(HB.out.cell (bN w _ hx159_0)).trans hx159_0;replace p159:=bO p159;replace q159:=bO q159;go_wp2;go_ret;exact ⟨zL,bLa⟩
          ·rw [if_neg c20] at H
           exact absurd H (by simp)
         ·rw [if_neg c19] at H
          have c19b0:((((cY l0 a1).f1).length:Int)==1)=false:=xP.mpr c19
          have c19b1:((((cY l0 a1).f1).length:Int) !=1)=true:=bne_iff_ne.mpr c19
          obtain rfl:=bE H;obtain ⟨hcz22_0,hcz22_1,hfz22_0,hfz22_1⟩:=bAz BK156;go_wp2;go_ret;exact ⟨zL,bLa⟩
        ·rw [if_neg c18] at H
         have c18b0:(((cY l0 a1).f0)==0)=false:=xP.mpr c18
         have c18b1:(((cY l0 a1).f0) !=0)=true:=bne_iff_ne.mpr c18
         obtain rfl:=bE H;obtain ⟨hcz23_0,hcz23_1,hfz23_0,hfz23_1⟩:=bAz BK156;go_wp2;go_ret;exact ⟨zL,bLa⟩
       ·rw [if_neg c17] at H
        have c17b0:(a1==1)=false:=xP.mpr c17
        have c17b1:(a1 !=1)=true:=bne_iff_ne.mpr c17
        replace H:=Option.bind_eq_some_iff.mp H;obtain ⟨t160,A240,H⟩:=H;(try dsimp only at H);have A24:=aK A240;clear A240;by_cases c25:t160=true
        ·subst c25
         rw [if_pos rfl] at H;obtain rfl:=bE H;obtain ⟨hcz26_0,hcz26_1,hfz26_0,hfz26_1⟩:=bAz BK156
         go_wp2_with (first|((with_reducible refine dG (f:=73) rfl ?_);refine gE (some 60) rfl rfl Try.func73 (by kernel_rfl) rfl #[.int .i64 ((cY l0 a1).f0),.int .i64 0,.int .i64 (wrap64 (a1 - 1))] rfl qD ?_;(with_reducible refine (cZ ((cY l0 a1).f0) 0 (wrap64 (a1 - 1)) true _ A24.out).mono ?_);rintro e w' ⟨rfl,⟨nd,rfl⟩⟩;refine ⟨_,rfl,?_⟩))
         go_ret;exact ⟨zL,bLa⟩
        ·replace c25 := Bool.eq_false_iff.mpr c25
         subst c25;rw [if_neg (show¬(false=true) by decide)] at H;obtain rfl:=bE H;obtain ⟨hcz27_0,hcz27_1,hfz27_0,hfz27_1⟩:=bAz BK156
         go_wp2_with (first|((with_reducible refine dG (f:=73) rfl ?_);refine gE (some 60) rfl rfl Try.func73 (by kernel_rfl) rfl #[.int .i64 ((cY l0 a1).f0),.int .i64 0,.int .i64 (wrap64 (a1 - 1))] rfl qD ?_;(with_reducible refine (cZ ((cY l0 a1).f0) 0 (wrap64 (a1 - 1)) false _ A24.out).mono ?_);rintro e w' ⟨rfl,⟨nd,rfl⟩⟩;refine ⟨_,rfl,?_⟩))
         go_ret;exact ⟨zL,bLa⟩
  ·rw [if_neg c4] at H
   exact absurd H (by simp)
 ·rw [if_neg c3] at H
  exact absurd H (by simp)
end Go.Proofs.Ytbaklikaoleplaa.K
namespace Go.Proofs.Ytbaklikaoleplaa.K
open Go.RowKit Go.Proofs.YtbaklikaoleplaaW.PrintWords Go.Proofs.YtbaklikaoleplaaW.PrintLast Go.Proofs.YtbaklikaoleplaaW.PrintMore
attribute [local go_sem] gD gB gY gW fR fQ gC gA
set_option linter.unusedVariables false
set_option linter.unusedSimpArgs false
def kS:Nat→List (S53)→Int→Option (Bool)
  |0,_,_=>none
  |k+1,x0,x3=>if x3<(x0.length:Int) then ((vC k x0 x3).bind fun t162=>(if t162=true then (kS k x0 (wrap64 (x3+1))) else (some false))) else (some true)
def rC (k:Nat) (l0:List (S53)):Option (Bool):=(fK (l0.length:Int) 2 5).bind fun t161=>(if t161=true then (kS k l0 0) else (some false))
theorem nC (k:Nat) (A0:Option Addr) (c0:Nat) (l0:List (S53)) (r:Bool) (w:World) (hr0:Kd.C tU w A0 l0.length l0) (hc0:l0.length≤c0) (h:rC k l0=some r):
  Calls Try.prog 102 #[.slice A0 l0.length c0] w fun e w'=>e= .returned (.bool r)∧Below w.heap.size w w':=by
 have HR0:=aK hr0;have HC0:=aK hc0;clear hr0 hc0;have HB:=aK (bH w.heap.size w);have H:((fK (l0.length:Int) 2 5).bind fun t161=>(if t161=true then (kS k l0 0) else (some false)))=some r:=h
 clear h;replace H:=Option.bind_eq_some_iff.mp H;obtain ⟨t161,A20,H⟩:=H;(try dsimp only at H);have A2:=aK A20;clear A20;by_cases c3:t161=true
 ·subst c3
  rw [if_pos rfl] at H;have H':=aK H;clear H;go_enter Try.func102,Try.ntmps102
  go_wp2_with (first|((with_reducible refine dG (f:=73) rfl ?_);refine gE (some 6) rfl rfl Try.func73 (by kernel_rfl) rfl #[.int .i64 (l0.length:Int),.int .i64 2,.int .i64 5] rfl qD ?_;(with_reducible refine (cZ (l0.length:Int) 2 5 true _ A2.out).mono ?_);rintro e w' ⟨rfl,⟨nd,rfl⟩⟩;refine ⟨_,rfl,?_⟩))
  go_loopg [3] k (fun kq v3 w'=> ∃(x3_1:Int),v3= .int .i64 x3_1∧Aside0 (kS kq l0 x3_1=some r)∧Aside0 (kq≤k)∧Aside0 (Below w.heap.size w w'))
  case atStart=>exact ⟨(0),nR,H',⟨bV _⟩,⟨by repeat (first|(with_reducible first|exact HB.out|apply bJ|apply bI|apply bG)|exact HB.out)⟩⟩
  case round=>
   clear H';(try clear c1);(try clear p2);(try clear c3);obtain ⟨x3_1,rfl,HA,HK1,HB⟩:=hrel
   cases gk with
   |zero=>exact absurd HA.out (by simp [kS])
   | succ k1 =>
    have H:=HA.out;clear HA;simp only [kS] at H;by_cases c4:x3_1<(l0.length:Int)
    ·rw [if_pos c4] at H
     have c4b0:decide (x3_1<(l0.length:Int))=true:=bD c4
     clear c4;replace H:=Option.bind_eq_some_iff.mp H;obtain ⟨t162,A50,H⟩:=H;(try dsimp only at H);have A5:=aK A50;clear A50;by_cases c6:t162=true
     ·subst c6
      rw [if_pos rfl] at H;have H':=aK H;clear H
      go_wp2_with (first|((with_reducible refine dG (f:=115) rfl ?_);refine gE (some 16) rfl rfl Try.func115 (by kernel_rfl) rfl #[.slice A0 l0.length c0,.int .i64 x3_1] rfl qD ?_;(with_reducible refine (yQ k1 _ _ l0 x3_1 true _ ?side1 ?side2 A5.out).mono ?_);(case side1=>exact bDl);(case side2=>exact HC0.out);rintro e w7 ⟨rfl,hb⟩;refine ⟨_,rfl,?_⟩;replace HB:=aK (bK nQ hb);(try clear hb);(try clear hb2);(try clear hk);(try clear hi)))
      go_roundg k1
      case measure=>have:=HK1.out;omega
      case rel=>exact ⟨(wrap64 (x3_1+1)),nR,H',⟨by have:=HK1.out;omega⟩,⟨by repeat (first|(with_reducible first|exact HB.out|apply bJ|apply bI|apply bG)|exact HB.out)⟩⟩
     ·replace c6 := Bool.eq_false_iff.mpr c6
      subst c6;rw [if_neg (show¬(false=true) by decide)] at H;obtain rfl:=bE H
      go_wp2_with (first|((with_reducible refine dG (f:=115) rfl ?_);refine gE (some 16) rfl rfl Try.func115 (by kernel_rfl) rfl #[.slice A0 l0.length c0,.int .i64 x3_1] rfl qD ?_;(with_reducible refine (yQ k1 _ _ l0 x3_1 false _ ?side1 ?side2 A5.out).mono ?_);(case side1=>exact bDl);(case side2=>exact HC0.out);rintro e w8 ⟨rfl,hb⟩;refine ⟨_,rfl,?_⟩;replace HB:=aK (bK nQ hb);(try clear hb);(try clear hb2);(try clear hk);(try clear hi)))
      go_ret;exact ⟨zL,nQ⟩
    ·rw [if_neg c4] at H
     have c4b0:decide (x3_1<(l0.length:Int))=false:=bM c4
     clear c4;obtain rfl:=bE H;go_wp2;go_ret;exact ⟨zL,nQ⟩
 ·replace c3 := Bool.eq_false_iff.mpr c3
  subst c3;rw [if_neg (show¬(false=true) by decide)] at H;obtain rfl:=bE H;go_enter Try.func102,Try.ntmps102
  go_wp2_with (first|((with_reducible refine dG (f:=73) rfl ?_);refine gE (some 6) rfl rfl Try.func73 (by kernel_rfl) rfl #[.int .i64 (l0.length:Int),.int .i64 2,.int .i64 5] rfl qD ?_;(with_reducible refine (cZ (l0.length:Int) 2 5 false _ A2.out).mono ?_);rintro e w' ⟨rfl,⟨nd,rfl⟩⟩;refine ⟨_,rfl,?_⟩))
  go_ret;exact ⟨zL,nQ⟩
end Go.Proofs.Ytbaklikaoleplaa.K
namespace Go.Proofs.Ytbaklikaoleplaa.K
open Go.RowKit Go.Proofs.YtbaklikaoleplaaW.PrintWords Go.Proofs.YtbaklikaoleplaaW.PrintLast Go.Proofs.YtbaklikaoleplaaW.PrintMore
attribute [local go_sem] gD gB gY gW fR fQ gC gA
set_option linter.unusedVariables false
set_option linter.unusedSimpArgs false
mutual
def fG:Nat→Int→Bool→List Int→Int→Int→Int→List Bool→Option (Bool)
 |0,_,_,_,_,_,_,_=>none
 |k+1,x5,x54,x164000,x164001,x164002,x164003,x164004=>if x54=true then (some false) else (gM k x5 0 x164000 x164001 x164002 x164003 x164004)
def gM:Nat→Int→Int→List Int→Int→Int→Int→List Bool→Option (Bool)
 |0,_,_,_,_,_,_,_=>none
 |k+1,x5,x6,x164000,x164001,x164002,x164003,x164004=>if x6<x5 then ((fK x6 x164002 (wrap64 (x164001 - 1))).bind fun t170=>(if t170=true then (if 0≤x6 then (if x6<(x164000.length:Int) then (if (rd x164000 x6)=0 then (gM k x5 (wrap64 (x6+1)) x164000 x164001 x164002 x164003 x164004) else (some false)) else (none)) else (none)) else (if x6≥x164003 then (if 0≤x6 then (if x6<(x164000.length:Int) then (if (rd x164000 x6)=0 then (gM k x5 (wrap64 (x6+1)) x164000 x164001 x164002 x164003 x164004) else (some false)) else (none)) else (none)) else (gM k x5 (wrap64 (x6+1)) x164000 x164001 x164002 x164003 x164004)))) else (some true)
end
def nT (k:Nat) (l0:List (S53)) (l1_0:List Int) (a1_1:Int) (a1_2:Int) (a1_3:Int) (l1_4:List Bool):Option (Bool):=(rC k l0).bind fun t164=>(if t164=true then ((fK a1_1 0 40).bind fun t165=>(if t165=true then ((fK (wrap64 ((l1_0.length:Int) - a1_1)) 14 120).bind fun t166=>(if t166=true then ((fK a1_2 0 a1_1).bind fun t167=>(if t167=true then ((fK a1_3 a1_1 (l1_0.length:Int)).bind fun t168=>(if t168=true then ((mW (wrap64 ((l1_0.length:Int) - a1_1))).bind fun t169=>(fG k (l1_0.length:Int) ((l1_4.length:Int) !=t169) l1_0 a1_1 a1_2 a1_3 l1_4)) else (fG k (l1_0.length:Int) true l1_0 a1_1 a1_2 a1_3 l1_4))) else (fG k (l1_0.length:Int) true l1_0 a1_1 a1_2 a1_3 l1_4))) else (fG k (l1_0.length:Int) true l1_0 a1_1 a1_2 a1_3 l1_4))) else (fG k (l1_0.length:Int) true l1_0 a1_1 a1_2 a1_3 l1_4))) else (fG k (l1_0.length:Int) true l1_0 a1_1 a1_2 a1_3 l1_4))
theorem vM: ∀k,(∀y0 y1 y2 y3 y4 y5 y6,bJr (fG k y0 y1 y2 y3 y4 y5 y6) (fG (k+1) y0 y1 y2 y3 y4 y5 y6))∧(∀y0 y1 y2 y3 y4 y5 y6,bJr (gM k y0 y1 y2 y3 y4 y5 y6) (gM (k+1) y0 y1 y2 y3 y4 y5 y6))
 |0=>⟨fun _ _ _ _ _ _ _ r h=>by simp [fG] at h,fun _ _ _ _ _ _ _ r h=>by simp [gM] at h⟩
 | k + 1 => by
  obtain ⟨ih0,ih1⟩:=vM k;refine ⟨?_,?_⟩
  ·intro y0 y1 y2 y3 y4 y5 y6
   unfold fG;repeat' first
   |(with_reducible exact ih0 _ _ _ _ _ _ _)
   |(with_reducible exact ih1 _ _ _ _ _ _ _)
   |(with_reducible exact spec_ClassesOk.mono _ _)
   |(with_reducible exact bJr.refl _)
   |(with_reducible exact bJr.none _)
   |(with_reducible refine bJr.ite ?_ ?_)
   |(with_reducible refine bJr.bind ?_ (fun _=>?_))
   |exact ih0 _ _ _ _ _ _ _
   |exact ih1 _ _ _ _ _ _ _
   |exact spec_ClassesOk.mono _ _
   |exact bJr.none _
   |refine bJr.ite ?_ ?_
   |refine bJr.bind ?_ (fun _=>?_)
  ·intro y0 y1 y2 y3 y4 y5 y6
   unfold gM;repeat' first
   |(with_reducible exact ih0 _ _ _ _ _ _ _)
   |(with_reducible exact ih1 _ _ _ _ _ _ _)
   |(with_reducible exact spec_ClassesOk.mono _ _)
   |(with_reducible exact bJr.refl _)
   |(with_reducible exact bJr.none _)
   |(with_reducible refine bJr.ite ?_ ?_)
   |(with_reducible refine bJr.bind ?_ (fun _=>?_))
   |exact ih0 _ _ _ _ _ _ _
   |exact ih1 _ _ _ _ _ _ _
   |exact spec_ClassesOk.mono _ _
   |exact bJr.none _
   |refine bJr.ite ?_ ?_
   |refine bJr.bind ?_ (fun _=>?_)
def spec_l21Bounds.T2:Bool×List (List Nat×List Nat):=(true,[([],[]),([0],[0]),([1],[1]),([2,1],[2]),([3],[3]),([4,3],[3,4]),([5,3,3],[3,5]),([6,3],[3,6]),([3,7],[3,7]),([8,6],[8]),([9],[9]),([9],[9]),([11,9],[9,11]),([10,12,9],[9,10,12]),([13,9,9],[9,13]),([14,9],[9,14]),([9,15],[9,15]),([16,14],[16]),([17],[17]),([18,17],[17,18]),([17],[17]),([20,17],[17,20]),([19,21,17,17],[17,19,21]),([22,17],[17,22]),([17,23],[17,23]),([24,22],[24]),([25],[25]),([26,25],[25,26]),([25],[25]),([28,25],[25,28]),([25],[25]),([27,29,30,25,25],[25,27,29,30]),([31,25],[25,31]),([25,32],[25,32]),([33,31],[33]),([34],[34]),([35,34],[34,35]),([36,34],[34,36]),([34],[34]),([34],[34]),([39,34],[34,39]),([38,40,34],[34,38,40]),([41,34,34],[34,41]),([37,42,34],[34,37,42]),([34,43],[34,43])])
def spec_l21Bounds.B2:List Nat:=[0,1,3,7,15,31,63,127,255,511,1023,1023,3071,8191,16383,32767,65535,131071,262143,524287,262143,1310719,4194303,8388607,16777215,33554431,67108863,134217727,67108863,335544319,67108863,2147483647,4294967295,8589934591,17179869183,34359738367,68719476735,137438953471,34359738367,34359738367,584115552255,1958505086975,4157528342527,8796093022207,17592186044415]
theorem nL:vF .any (bLl Try.f71 2)=spec_l21Bounds.T2:=by kernel_rfl
theorem nB:xY spec_l21Bounds.T2.2 spec_l21Bounds.B2=true:=by kernel_rfl
theorem sG (k : Nat) (A0 : Option Addr) (c0 : Nat) (l0 : List (S53)) (A1_0 : Option Addr) (c1_0 : Nat) (l1_0 : List Int) (a1_1 : Int) (a1_2 : Int) (a1_3 : Int) (A1_4 : Option Addr) (c1_4 : Nat) (l1_4 : List Bool) (r : Bool) (w : World) (hr0 : Kd.C tU w A0 l0.length l0) (hc0 : l0.length ≤ c0) (hr1_0 : Kd.C (Kd.int .i64) w A1_0 l1_0.length l1_0) (hc1_0 : l1_0.length ≤ c1_0) (hr1_4 : Kd.C Kd.bool w A1_4 l1_4.length l1_4) (hc1_4 : l1_4.length ≤ c1_4) (h : nT k l0 l1_0 a1_1 a1_2 a1_3 l1_4 = some r) :
  Calls Try.prog 71 #[.slice A0 l0.length c0,.agg #[.slice A1_0 l1_0.length c1_0,.int .i64 a1_1,.int .i64 a1_2,.int .i64 a1_3,.slice A1_4 l1_4.length c1_4]] w fun e w'=>e= .returned (.bool r)∧Below w.heap.size w w':=by
 have hu29:=Try.underlying29;have HR0:=aK hr0;have HC0:=aK hc0;clear hr0 hc0;have HR1_0:=aK hr1_0;have HC1_0:=aK hc1_0;clear hr1_0 hc1_0;have HR1_4:=aK hr1_4;have HC1_4:=aK hc1_4;clear hr1_4 hc1_4;have HB:=aK (bH w.heap.size w);have H:((rC k l0).bind fun t164=>(if t164=true then ((fK a1_1 0 40).bind fun t165=>(if t165=true then ((fK (wrap64 ((l1_0.length:Int) - a1_1)) 14 120).bind fun t166=>(if t166=true then ((fK a1_2 0 a1_1).bind fun t167=>(if t167=true then ((fK a1_3 a1_1 (l1_0.length:Int)).bind fun t168=>(if t168=true then ((mW (wrap64 ((l1_0.length:Int) - a1_1))).bind fun t169=>(fG k (l1_0.length:Int) ((l1_4.length:Int) !=t169) l1_0 a1_1 a1_2 a1_3 l1_4)) else (fG k (l1_0.length:Int) true l1_0 a1_1 a1_2 a1_3 l1_4))) else (fG k (l1_0.length:Int) true l1_0 a1_1 a1_2 a1_3 l1_4))) else (fG k (l1_0.length:Int) true l1_0 a1_1 a1_2 a1_3 l1_4))) else (fG k (l1_0.length:Int) true l1_0 a1_1 a1_2 a1_3 l1_4))) else (fG k (l1_0.length:Int) true l1_0 a1_1 a1_2 a1_3 l1_4)))=some r:=h
 clear h;have HC3:=aK H;clear H;go_enter Try.func71,Try.ntmps71
 go_upto_region 2 with (first|((with_reducible refine dK (N:=3) rfl ?_);(try (refine qS (by rfl) ?_;dsimp only));refine dM ?hg (N:=3) ?hd (cs:= #[.slice A1_0 l1_0.length c1_0,.int .i64 a1_1,.int .i64 a1_2,.int .i64 a1_3,.slice A1_4 l1_4.length c1_4]) (t:=29) ?hr ?_;(case hd=>rfl);(case hg=>rfl);(case hr=>first|(go_simp;done)|(go_simp;rfl));intro gb163 hg w4 hbox hb;have BK163:=aK (hbox);have GW163:=aK ((by rw [hg];exact (bW nQ):w.heap.size≤gb163));have GE163:=aK ((by rw [hg];exact (bW nQ):w.heap.size≤gb163));replace HB:=aK (bK nQ hb);clear hb hbox hg;obtain ⟨hcz5_0,hcz5_1,hcz5_2,hcz5_3,hcz5_4,hfz5_0,hfz5_1,hfz5_2,hfz5_3,hfz5_4⟩:=nP BK163))
 (try simp only [Act.put,dU,fY,fT])
 go_cut [54] (fun v54 wc=> ∃(kq:Nat) (x54_2:Bool),v54= .bool x54_2∧Aside0 (fG kq (l1_0.length:Int) x54_2 l1_0 a1_1 a1_2 a1_3 l1_4=some r)∧Aside0 (kq≤k)∧Aside0 (wc.heap[gb163]? =some (.cells #[(.slice A1_0 l1_0.length c1_0),.int .i64 a1_1,.int .i64 a1_2,.int .i64 a1_3,(.slice A1_4 l1_4.length c1_4)] 29 (0,0)))∧Aside0 (Below w.heap.size w wc))
 case first =>
  have H:=HC3.out;clear HC3;replace H:=Option.bind_eq_some_iff.mp H;obtain ⟨t164,A60,H⟩:=H;(try dsimp only at H);have A6:=aK A60;clear A60;by_cases c7:t164=true
  ·subst c7
   rw [if_pos rfl] at H;replace H:=Option.bind_eq_some_iff.mp H;obtain ⟨t165,A80,H⟩:=H;(try dsimp only at H);have A8:=aK A80;clear A80;by_cases c9:t165=true
   ·subst c9
    rw [if_pos rfl] at H;replace H:=Option.bind_eq_some_iff.mp H;obtain ⟨t166,A100,H⟩:=H;(try dsimp only at H);have A10:=aK A100;clear A100;by_cases c11:t166=true
    ·subst c11
     rw [if_pos rfl] at H;replace H:=Option.bind_eq_some_iff.mp H;obtain ⟨t167,A120,H⟩:=H;(try dsimp only at H);have A12:=aK A120;clear A120;by_cases c13:t167=true
     ·subst c13
      rw [if_pos rfl] at H;replace H:=Option.bind_eq_some_iff.mp H;obtain ⟨t168,A140,H⟩:=H;(try dsimp only at H);have A14:=aK A140;clear A140;by_cases c15:t168=true
      ·subst c15
       rw [if_pos rfl] at H;replace H:=Option.bind_eq_some_iff.mp H;obtain ⟨t169,A160,H⟩:=H;(try dsimp only at H);have A16:=aK A160;clear A160;have H':=aK H;clear H;try go_wp2
       have n0_:=aK (bY BK163.out);have n1_:=aK (bG HB.out);clear BK163;clear HB;have BK163:=n0_;have HB:=n1_;clear n0_ n1_;refine sT 45 (S:=fun w'=>w'.cell? ⟨gb163,0,none⟩=some (.slice A1_0 l1_0.length c1_0)∧w'.cell? ⟨gb163,1,none⟩=some (.int .i64 a1_1)∧w'.cell? ⟨gb163,2,none⟩=some (.int .i64 a1_2)∧w'.cell? ⟨gb163,3,none⟩=some (.int .i64 a1_3)∧w'.cell? ⟨gb163,4,none⟩=some (.slice A1_4 l1_4.length c1_4)) (ds:=[]) (xO BK163.out) (fun hHeld=>?_);refine qZ nL nB (fun HT_ HW_=>?_);generalize w4.drew=w17 at BK163 HB hHeld ⊢;refine mC 0 ?_;refine pD (i:=1) (N:=some 11) (lA 45 3) rfl rfl (mT HT_.out (by kernel_rfl)) (by decide) (fun K hK=>?_);refine qU Try.func102 (by kernel_rfl) rfl #[.slice A0 l0.length c0] (by rfl) rfl rfl qD ?_;(with_reducible refine (nC k _ _ l0 true _ ?side1 ?side2 A6.out).mono ?_)
       (case side1=>exact bDl)
       (case side2=>exact HC0.out)
       rintro e w18 ⟨rfl,hb⟩;refine ⟨_,rfl,?_⟩;have n0_:=aK (bS (g:=gb163) (o:= .cells #[.slice A1_0 l1_0.length c1_0,.int .i64 a1_1,.int .i64 a1_2,.int .i64 a1_3,.slice A1_4 l1_4.length c1_4] 29 (0,0)) bOv hb);have n1_:=aK (bK bId hb);clear BK163;clear HB;have BK163:=n0_;have HB:=n1_;clear n0_ n1_;(try clear hb);(try clear hb2);(try clear hk);(try clear hi);refine hK.out _ _ (xO BK163.out) (fun hHeld=>?_);clear hK K;refine nS 11 ?_;refine mC 2 ?_;refine mC 3 ?_;refine mC 4 ?_;refine tS 5 15 (lA 45 63) rfl rfl (jR HT_.out HW_.out (by kernel_rfl)) hHeld qV ?_;refine pD (i:=6) (N:=some 16) (lA 45 127) rfl rfl (mT HT_.out (by kernel_rfl)) (by decide) (fun K hK=>?_);refine qU Try.func73 (by kernel_rfl) rfl #[.int .i64 a1_1,.int .i64 0,.int .i64 40] (by rfl) rfl rfl qD ?_;(with_reducible refine (cZ a1_1 0 40 true _ A8.out).mono ?_);rintro e w' ⟨rfl,⟨nd,rfl⟩⟩;refine ⟨_,rfl,?_⟩;refine hK.out _ _ (xO BK163.out) (fun hHeld=>?_);clear hK K;refine nS 16 ?_;refine mC 7 ?_;refine mC 8 ?_;refine mC 9 ?_;refine mC 10 ?_;refine mC 11 ?_;refine tS 12 22 (lA 45 8191) rfl rfl (jR HT_.out HW_.out (by kernel_rfl)) hHeld qV ?_;refine mC 13 ?_;refine pD (i:=14) (N:=some 24) (lA 45 32767) rfl rfl (mT HT_.out (by kernel_rfl)) (by decide) (fun K hK=>?_);refine qU Try.func73 (by kernel_rfl) rfl #[.int .i64 (wrap64 ((l1_0.length:Int) - a1_1)),.int .i64 14,.int .i64 120] (by rfl) rfl rfl qD ?_;(with_reducible refine (cZ (wrap64 ((l1_0.length:Int) - a1_1)) 14 120 true _ A10.out).mono ?_);rintro e w' ⟨rfl,⟨nd,rfl⟩⟩;refine ⟨_,rfl,?_⟩;refine hK.out _ _ (xO BK163.out) (fun hHeld=>?_);clear hK K;refine nS 24 ?_;refine mC 15 ?_;refine mC 16 ?_;refine mC 17 ?_;refine mC 18 ?_;refine mC 20 ?_;refine tS 19 29 (lA 45 2097151) rfl rfl (jR HT_.out HW_.out (by kernel_rfl)) hHeld qV ?_;refine tS 21 31 (lA 45 4194303) rfl rfl (jR HT_.out HW_.out (by kernel_rfl)) hHeld qV ?_;refine pD (i:=22) (N:=some 32) (lA 45 8388607) rfl rfl (mT HT_.out (by kernel_rfl)) (by decide) (fun K hK=>?_);refine qU Try.func73 (by kernel_rfl) rfl #[.int .i64 a1_2,.int .i64 0,.int .i64 a1_1] (by rfl) rfl rfl qD ?_;(with_reducible refine (cZ a1_2 0 a1_1 true _ A12.out).mono ?_);rintro e w' ⟨rfl,⟨nd,rfl⟩⟩;refine ⟨_,rfl,?_⟩;refine hK.out _ _ (xO BK163.out) (fun hHeld=>?_);clear hK K;refine nS 32 ?_;refine mC 23 ?_;refine mC 24 ?_;refine mC 25 ?_;refine mC 26 ?_;refine mC 28 ?_;refine mC 30 ?_;refine tS 27 37 (lA 45 1610612735) rfl rfl (jR HT_.out HW_.out (by kernel_rfl)) hHeld qV ?_;refine tS 29 39 (lA 45 2147483647) rfl rfl (jR HT_.out HW_.out (by kernel_rfl)) hHeld qV ?_;refine pD (i:=31) (N:=some 41) (lA 45 4294967295) rfl rfl (mT HT_.out (by kernel_rfl)) (by decide) (fun K hK=>?_);refine qU Try.func73 (by kernel_rfl) rfl #[.int .i64 a1_3,.int .i64 a1_1,.int .i64 (l1_0.length:Int)] (by rfl) rfl rfl qD ?_;(with_reducible refine (cZ a1_3 a1_1 (l1_0.length:Int) true _ A14.out).mono ?_);rintro e w' ⟨rfl,⟨nd,rfl⟩⟩;refine ⟨_,rfl,?_⟩;refine hK.out _ _ (xO BK163.out) (fun hHeld=>?_);clear hK K;refine nS 41 ?_;refine mC 32 ?_;refine mC 33 ?_;refine mC 34 ?_;refine mC 35 ?_;refine mC 38 ?_;refine mC 39 ?_;refine tS 36 46 (lA 45 962072674303) rfl rfl (jR HT_.out HW_.out (by kernel_rfl)) hHeld qV ?_;refine mC 37 ?_;refine tS 40 50 (lA 45 2199023255551) rfl rfl (jR HT_.out HW_.out (by kernel_rfl)) hHeld qV ?_;refine mC 41 ?_;refine pD (i:=42) (N:=some 52) (lA 45 8796093022207) rfl rfl (mT HT_.out (by kernel_rfl)) (by decide) (fun K hK=>?_);refine qU Try.func103 (by kernel_rfl) rfl #[.int .i64 (wrap64 ((l1_0.length:Int) - a1_1))] (by rfl) rfl rfl qD ?_;(with_reducible refine (sR (wrap64 ((l1_0.length:Int) - a1_1)) t169 _ A16.out).mono ?_);rintro e w' ⟨rfl,⟨nd,rfl⟩⟩;refine ⟨_,rfl,?_⟩;refine hK.out _ _ (xO BK163.out) (fun hHeld=>?_);clear hK K;refine nS 52 ?_;refine mC 43 ?_;refine mC 44 ?_;refine gT (vH HT_.out (by kernel_rfl)) ?_;try go_wp2
       go_meet
       case rel=>exact ⟨_,(((l1_4.length:Int) !=t169)),nR,H',⟨by first|omega|exact bV _⟩,⟨by (with_reducible repeat (first|refine bX ?_ _|refine bY ?_|refine bQ ?_ _));exact BK163.out⟩,⟨by repeat (first|(with_reducible first|exact HB.out|apply bJ|apply bI|apply bG|refine cE ?_ GE163.out)|exact HB.out)⟩⟩
      ·replace c15 := Bool.eq_false_iff.mpr c15
       subst c15;rw [if_neg (show¬(false=true) by decide)] at H;have H':=aK H;clear H;try go_wp2
       have n0_:=aK (bY BK163.out);have n1_:=aK (bG HB.out);clear BK163;clear HB;have BK163:=n0_;have HB:=n1_;clear n0_ n1_;refine sT 45 (S:=fun w'=>w'.cell? ⟨gb163,0,none⟩=some (.slice A1_0 l1_0.length c1_0)∧w'.cell? ⟨gb163,1,none⟩=some (.int .i64 a1_1)∧w'.cell? ⟨gb163,2,none⟩=some (.int .i64 a1_2)∧w'.cell? ⟨gb163,3,none⟩=some (.int .i64 a1_3)∧w'.cell? ⟨gb163,4,none⟩=some (.slice A1_4 l1_4.length c1_4)) (ds:=[]) (xO BK163.out) (fun hHeld=>?_);refine qZ nL nB (fun HT_ HW_=>?_);generalize w4.drew=w19 at BK163 HB hHeld ⊢;refine mC 0 ?_;refine pD (i:=1) (N:=some 11) (lA 45 3) rfl rfl (mT HT_.out (by kernel_rfl)) (by decide) (fun K hK=>?_);refine qU Try.func102 (by kernel_rfl) rfl #[.slice A0 l0.length c0] (by rfl) rfl rfl qD ?_;(with_reducible refine (nC k _ _ l0 true _ ?side1 ?side2 A6.out).mono ?_)
       (case side1=>exact bDl)
       (case side2=>exact HC0.out)
       rintro e w20 ⟨rfl,hb⟩;refine ⟨_,rfl,?_⟩;have n0_:=aK (bS (g:=gb163) (o:= .cells #[.slice A1_0 l1_0.length c1_0,.int .i64 a1_1,.int .i64 a1_2,.int .i64 a1_3,.slice A1_4 l1_4.length c1_4] 29 (0,0)) bOv hb);have n1_:=aK (bK bId hb);clear BK163;clear HB;have BK163:=n0_;have HB:=n1_;clear n0_ n1_;(try clear hb);(try clear hb2);(try clear hk);(try clear hi);refine hK.out _ _ (xO BK163.out) (fun hHeld=>?_);clear hK K;refine nS 11 ?_;refine mC 2 ?_;refine mC 3 ?_;refine mC 4 ?_;refine tS 5 15 (lA 45 63) rfl rfl (jR HT_.out HW_.out (by kernel_rfl)) hHeld qV ?_;refine pD (i:=6) (N:=some 16) (lA 45 127) rfl rfl (mT HT_.out (by kernel_rfl)) (by decide) (fun K hK=>?_);refine qU Try.func73 (by kernel_rfl) rfl #[.int .i64 a1_1,.int .i64 0,.int .i64 40] (by rfl) rfl rfl qD ?_;(with_reducible refine (cZ a1_1 0 40 true _ A8.out).mono ?_);rintro e w' ⟨rfl,⟨nd,rfl⟩⟩;refine ⟨_,rfl,?_⟩;refine hK.out _ _ (xO BK163.out) (fun hHeld=>?_);clear hK K;refine nS 16 ?_;refine mC 7 ?_;refine mC 8 ?_;refine mC 9 ?_;refine mC 10 ?_;refine mC 11 ?_;refine tS 12 22 (lA 45 8191) rfl rfl (jR HT_.out HW_.out (by kernel_rfl)) hHeld qV ?_;refine mC 13 ?_;refine pD (i:=14) (N:=some 24) (lA 45 32767) rfl rfl (mT HT_.out (by kernel_rfl)) (by decide) (fun K hK=>?_);refine qU Try.func73 (by kernel_rfl) rfl #[.int .i64 (wrap64 ((l1_0.length:Int) - a1_1)),.int .i64 14,.int .i64 120] (by rfl) rfl rfl qD ?_;(with_reducible refine (cZ (wrap64 ((l1_0.length:Int) - a1_1)) 14 120 true _ A10.out).mono ?_);rintro e w' ⟨rfl,⟨nd,rfl⟩⟩;refine ⟨_,rfl,?_⟩;refine hK.out _ _ (xO BK163.out) (fun hHeld=>?_);clear hK K;refine nS 24 ?_;refine mC 15 ?_;refine mC 16 ?_;refine mC 17 ?_;refine mC 18 ?_;refine mC 20 ?_;refine tS 19 29 (lA 45 2097151) rfl rfl (jR HT_.out HW_.out (by kernel_rfl)) hHeld qV ?_;refine tS 21 31 (lA 45 4194303) rfl rfl (jR HT_.out HW_.out (by kernel_rfl)) hHeld qV ?_;refine pD (i:=22) (N:=some 32) (lA 45 8388607) rfl rfl (mT HT_.out (by kernel_rfl)) (by decide) (fun K hK=>?_);refine qU Try.func73 (by kernel_rfl) rfl #[.int .i64 a1_2,.int .i64 0,.int .i64 a1_1] (by rfl) rfl rfl qD ?_;(with_reducible refine (cZ a1_2 0 a1_1 true _ A12.out).mono ?_);rintro e w' ⟨rfl,⟨nd,rfl⟩⟩;refine ⟨_,rfl,?_⟩;refine hK.out _ _ (xO BK163.out) (fun hHeld=>?_);clear hK K;refine nS 32 ?_;refine mC 23 ?_;refine mC 24 ?_;refine mC 25 ?_;refine mC 26 ?_;refine mC 28 ?_;refine mC 30 ?_;refine tS 27 37 (lA 45 1610612735) rfl rfl (jR HT_.out HW_.out (by kernel_rfl)) hHeld qV ?_;refine tS 29 39 (lA 45 2147483647) rfl rfl (jR HT_.out HW_.out (by kernel_rfl)) hHeld qV ?_;refine pD (i:=31) (N:=some 41) (lA 45 4294967295) rfl rfl (mT HT_.out (by kernel_rfl)) (by decide) (fun K hK=>?_);refine qU Try.func73 (by kernel_rfl) rfl #[.int .i64 a1_3,.int .i64 a1_1,.int .i64 (l1_0.length:Int)] (by rfl) rfl rfl qD ?_;(with_reducible refine (cZ a1_3 a1_1 (l1_0.length:Int) false _ A14.out).mono ?_);rintro e w' ⟨rfl,⟨nd,rfl⟩⟩;refine ⟨_,rfl,?_⟩;refine hK.out _ _ (xO BK163.out) (fun hHeld=>?_);clear hK K;refine nS 41 ?_;refine mC 32 ?_;refine mC 33 ?_;refine mC 34 ?_;refine nZ 35 ?_;refine nZ 36 ?_;refine nZ 37 ?_;refine nZ 38 ?_;refine nZ 39 ?_;refine nZ 40 ?_;refine nZ 41 ?_;refine nZ 42 ?_;refine nZ 43 ?_;refine mC 44 ?_;refine gT (vH HT_.out (by kernel_rfl)) ?_;try go_wp2
       go_meet
       case rel=>exact ⟨_,(true),nR,H',⟨by first|omega|exact bV _⟩,⟨by (with_reducible repeat (first|refine bX ?_ _|refine bY ?_|refine bQ ?_ _));exact BK163.out⟩,⟨by repeat (first|(with_reducible first|exact HB.out|apply bJ|apply bI|apply bG|refine cE ?_ GE163.out)|exact HB.out)⟩⟩
     ·replace c13 := Bool.eq_false_iff.mpr c13
      subst c13;rw [if_neg (show¬(false=true) by decide)] at H;have H':=aK H;clear H;try go_wp2
      have n0_:=aK (bY BK163.out);have n1_:=aK (bG HB.out);clear BK163;clear HB;have BK163:=n0_;have HB:=n1_;clear n0_ n1_;refine sT 45 (S:=fun w'=>w'.cell? ⟨gb163,0,none⟩=some (.slice A1_0 l1_0.length c1_0)∧w'.cell? ⟨gb163,1,none⟩=some (.int .i64 a1_1)∧w'.cell? ⟨gb163,2,none⟩=some (.int .i64 a1_2)∧w'.cell? ⟨gb163,3,none⟩=some (.int .i64 a1_3)∧w'.cell? ⟨gb163,4,none⟩=some (.slice A1_4 l1_4.length c1_4)) (ds:=[]) (xO BK163.out) (fun hHeld=>?_);refine qZ nL nB (fun HT_ HW_=>?_);generalize w4.drew=w21 at BK163 HB hHeld ⊢;refine mC 0 ?_;refine pD (i:=1) (N:=some 11) (lA 45 3) rfl rfl (mT HT_.out (by kernel_rfl)) (by decide) (fun K hK=>?_);refine qU Try.func102 (by kernel_rfl) rfl #[.slice A0 l0.length c0] (by rfl) rfl rfl qD ?_;(with_reducible refine (nC k _ _ l0 true _ ?side1 ?side2 A6.out).mono ?_)
      (case side1=>exact bDl)
      (case side2=>exact HC0.out)
      rintro e w22 ⟨rfl,hb⟩;refine ⟨_,rfl,?_⟩;have n0_:=aK (bS (g:=gb163) (o:= .cells #[.slice A1_0 l1_0.length c1_0,.int .i64 a1_1,.int .i64 a1_2,.int .i64 a1_3,.slice A1_4 l1_4.length c1_4] 29 (0,0)) bOv hb);have n1_:=aK (bK bId hb);clear BK163;clear HB;have BK163:=n0_;have HB:=n1_;clear n0_ n1_;(try clear hb);(try clear hb2);(try clear hk);(try clear hi);refine hK.out _ _ (xO BK163.out) (fun hHeld=>?_);clear hK K;refine nS 11 ?_;refine mC 2 ?_;refine mC 3 ?_;refine mC 4 ?_;refine tS 5 15 (lA 45 63) rfl rfl (jR HT_.out HW_.out (by kernel_rfl)) hHeld qV ?_;refine pD (i:=6) (N:=some 16) (lA 45 127) rfl rfl (mT HT_.out (by kernel_rfl)) (by decide) (fun K hK=>?_);refine qU Try.func73 (by kernel_rfl) rfl #[.int .i64 a1_1,.int .i64 0,.int .i64 40] (by rfl) rfl rfl qD ?_;(with_reducible refine (cZ a1_1 0 40 true _ A8.out).mono ?_);rintro e w' ⟨rfl,⟨nd,rfl⟩⟩;refine ⟨_,rfl,?_⟩;refine hK.out _ _ (xO BK163.out) (fun hHeld=>?_);clear hK K;refine nS 16 ?_;refine mC 7 ?_;refine mC 8 ?_;refine mC 9 ?_;refine mC 10 ?_;refine mC 11 ?_;refine tS 12 22 (lA 45 8191) rfl rfl (jR HT_.out HW_.out (by kernel_rfl)) hHeld qV ?_;refine mC 13 ?_;refine pD (i:=14) (N:=some 24) (lA 45 32767) rfl rfl (mT HT_.out (by kernel_rfl)) (by decide) (fun K hK=>?_);refine qU Try.func73 (by kernel_rfl) rfl #[.int .i64 (wrap64 ((l1_0.length:Int) - a1_1)),.int .i64 14,.int .i64 120] (by rfl) rfl rfl qD ?_;(with_reducible refine (cZ (wrap64 ((l1_0.length:Int) - a1_1)) 14 120 true _ A10.out).mono ?_);rintro e w' ⟨rfl,⟨nd,rfl⟩⟩;refine ⟨_,rfl,?_⟩;refine hK.out _ _ (xO BK163.out) (fun hHeld=>?_);clear hK K;refine nS 24 ?_;refine mC 15 ?_;refine mC 16 ?_;refine mC 17 ?_;refine mC 18 ?_;refine mC 20 ?_;refine tS 19 29 (lA 45 2097151) rfl rfl (jR HT_.out HW_.out (by kernel_rfl)) hHeld qV ?_;refine tS 21 31 (lA 45 4194303) rfl rfl (jR HT_.out HW_.out (by kernel_rfl)) hHeld qV ?_;refine pD (i:=22) (N:=some 32) (lA 45 8388607) rfl rfl (mT HT_.out (by kernel_rfl)) (by decide) (fun K hK=>?_);refine qU Try.func73 (by kernel_rfl) rfl #[.int .i64 a1_2,.int .i64 0,.int .i64 a1_1] (by rfl) rfl rfl qD ?_;(with_reducible refine (cZ a1_2 0 a1_1 false _ A12.out).mono ?_);rintro e w' ⟨rfl,⟨nd,rfl⟩⟩;refine ⟨_,rfl,?_⟩;refine hK.out _ _ (xO BK163.out) (fun hHeld=>?_);clear hK K;refine nS 32 ?_;refine mC 23 ?_;refine mC 24 ?_;refine mC 25 ?_;refine nZ 26 ?_;refine nZ 27 ?_;refine nZ 28 ?_;refine nZ 29 ?_;refine nZ 30 ?_;refine nZ 31 ?_;refine nZ 32 ?_;refine mC 33 ?_;refine mC 34 ?_;refine nZ 35 ?_;refine nZ 36 ?_;refine nZ 37 ?_;refine nZ 38 ?_;refine nZ 39 ?_;refine nZ 40 ?_;refine nZ 41 ?_;refine nZ 42 ?_;refine nZ 43 ?_;refine mC 44 ?_;refine gT (vH HT_.out (by kernel_rfl)) ?_;try go_wp2
      go_meet
      case rel=>exact ⟨_,(true),nR,H',⟨by first|omega|exact bV _⟩,⟨by (with_reducible repeat (first|refine bX ?_ _|refine bY ?_|refine bQ ?_ _));exact BK163.out⟩,⟨by repeat (first|(with_reducible first|exact HB.out|apply bJ|apply bI|apply bG|refine cE ?_ GE163.out)|exact HB.out)⟩⟩
    ·replace c11 := Bool.eq_false_iff.mpr c11
     subst c11;rw [if_neg (show¬(false=true) by decide)] at H;have H':=aK H;clear H;try go_wp2
     have n0_:=aK (bY BK163.out);have n1_:=aK (bG HB.out);clear BK163;clear HB;have BK163:=n0_;have HB:=n1_;clear n0_ n1_;refine sT 45 (S:=fun w'=>w'.cell? ⟨gb163,0,none⟩=some (.slice A1_0 l1_0.length c1_0)∧w'.cell? ⟨gb163,1,none⟩=some (.int .i64 a1_1)∧w'.cell? ⟨gb163,2,none⟩=some (.int .i64 a1_2)∧w'.cell? ⟨gb163,3,none⟩=some (.int .i64 a1_3)∧w'.cell? ⟨gb163,4,none⟩=some (.slice A1_4 l1_4.length c1_4)) (ds:=[]) (xO BK163.out) (fun hHeld=>?_);refine qZ nL nB (fun HT_ HW_=>?_);generalize w4.drew=w23 at BK163 HB hHeld ⊢;refine mC 0 ?_;refine pD (i:=1) (N:=some 11) (lA 45 3) rfl rfl (mT HT_.out (by kernel_rfl)) (by decide) (fun K hK=>?_);refine qU Try.func102 (by kernel_rfl) rfl #[.slice A0 l0.length c0] (by rfl) rfl rfl qD ?_;(with_reducible refine (nC k _ _ l0 true _ ?side1 ?side2 A6.out).mono ?_)
     (case side1=>exact bDl)
     (case side2=>exact HC0.out)
     rintro e w24 ⟨rfl,hb⟩;refine ⟨_,rfl,?_⟩;have n0_:=aK (bS (g:=gb163) (o:= .cells #[.slice A1_0 l1_0.length c1_0,.int .i64 a1_1,.int .i64 a1_2,.int .i64 a1_3,.slice A1_4 l1_4.length c1_4] 29 (0,0)) bOv hb);have n1_:=aK (bK bId hb);clear BK163;clear HB;have BK163:=n0_;have HB:=n1_;clear n0_ n1_;(try clear hb);(try clear hb2);(try clear hk);(try clear hi);refine hK.out _ _ (xO BK163.out) (fun hHeld=>?_);clear hK K;refine nS 11 ?_;refine mC 2 ?_;refine mC 3 ?_;refine mC 4 ?_;refine tS 5 15 (lA 45 63) rfl rfl (jR HT_.out HW_.out (by kernel_rfl)) hHeld qV ?_;refine pD (i:=6) (N:=some 16) (lA 45 127) rfl rfl (mT HT_.out (by kernel_rfl)) (by decide) (fun K hK=>?_);refine qU Try.func73 (by kernel_rfl) rfl #[.int .i64 a1_1,.int .i64 0,.int .i64 40] (by rfl) rfl rfl qD ?_;(with_reducible refine (cZ a1_1 0 40 true _ A8.out).mono ?_);rintro e w' ⟨rfl,⟨nd,rfl⟩⟩;refine ⟨_,rfl,?_⟩;refine hK.out _ _ (xO BK163.out) (fun hHeld=>?_);clear hK K;refine nS 16 ?_;refine mC 7 ?_;refine mC 8 ?_;refine mC 9 ?_;refine mC 10 ?_;refine mC 11 ?_;refine tS 12 22 (lA 45 8191) rfl rfl (jR HT_.out HW_.out (by kernel_rfl)) hHeld qV ?_;refine mC 13 ?_;refine pD (i:=14) (N:=some 24) (lA 45 32767) rfl rfl (mT HT_.out (by kernel_rfl)) (by decide) (fun K hK=>?_);refine qU Try.func73 (by kernel_rfl) rfl #[.int .i64 (wrap64 ((l1_0.length:Int) - a1_1)),.int .i64 14,.int .i64 120] (by rfl) rfl rfl qD ?_;(with_reducible refine (cZ (wrap64 ((l1_0.length:Int) - a1_1)) 14 120 false _ A10.out).mono ?_);rintro e w' ⟨rfl,⟨nd,rfl⟩⟩;refine ⟨_,rfl,?_⟩;refine hK.out _ _ (xO BK163.out) (fun hHeld=>?_);clear hK K;refine nS 24 ?_;refine mC 15 ?_;refine mC 16 ?_;refine mC 17 ?_;refine nZ 18 ?_;refine nZ 19 ?_;refine nZ 20 ?_;refine nZ 21 ?_;refine nZ 22 ?_;refine nZ 23 ?_;refine mC 24 ?_;refine mC 25 ?_;refine nZ 26 ?_;refine nZ 27 ?_;refine nZ 28 ?_;refine nZ 29 ?_;refine nZ 30 ?_;refine nZ 31 ?_;refine nZ 32 ?_;refine mC 33 ?_;refine mC 34 ?_;refine nZ 35 ?_;refine nZ 36 ?_;refine nZ 37 ?_;refine nZ 38 ?_;refine nZ 39 ?_;refine nZ 40 ?_;refine nZ 41 ?_;refine nZ 42 ?_;refine nZ 43 ?_;refine mC 44 ?_;refine gT (vH HT_.out (by kernel_rfl)) ?_;try go_wp2
     go_meet
     case rel=>exact ⟨_,(true),nR,H',⟨by first|omega|exact bV _⟩,⟨by (with_reducible repeat (first|refine bX ?_ _|refine bY ?_|refine bQ ?_ _));exact BK163.out⟩,⟨by repeat (first|(with_reducible first|exact HB.out|apply bJ|apply bI|apply bG|refine cE ?_ GE163.out)|exact HB.out)⟩⟩
   ·replace c9 := Bool.eq_false_iff.mpr c9
    subst c9;rw [if_neg (show¬(false=true) by decide)] at H;have H':=aK H;clear H;try go_wp2
    have n0_:=aK (bY BK163.out);have n1_:=aK (bG HB.out);clear BK163;clear HB;have BK163:=n0_;have HB:=n1_;clear n0_ n1_;refine sT 45 (S:=fun w'=>w'.cell? ⟨gb163,0,none⟩=some (.slice A1_0 l1_0.length c1_0)∧w'.cell? ⟨gb163,1,none⟩=some (.int .i64 a1_1)∧w'.cell? ⟨gb163,2,none⟩=some (.int .i64 a1_2)∧w'.cell? ⟨gb163,3,none⟩=some (.int .i64 a1_3)∧w'.cell? ⟨gb163,4,none⟩=some (.slice A1_4 l1_4.length c1_4)) (ds:=[]) (xO BK163.out) (fun hHeld=>?_);refine qZ nL nB (fun HT_ HW_=>?_);generalize w4.drew=w25 at BK163 HB hHeld ⊢;refine mC 0 ?_;refine pD (i:=1) (N:=some 11) (lA 45 3) rfl rfl (mT HT_.out (by kernel_rfl)) (by decide) (fun K hK=>?_);refine qU Try.func102 (by kernel_rfl) rfl #[.slice A0 l0.length c0] (by rfl) rfl rfl qD ?_;(with_reducible refine (nC k _ _ l0 true _ ?side1 ?side2 A6.out).mono ?_)
    (case side1=>exact bDl)
    (case side2=>exact HC0.out)
    rintro e w26 ⟨rfl,hb⟩;refine ⟨_,rfl,?_⟩;have n0_:=aK (bS (g:=gb163) (o:= .cells #[.slice A1_0 l1_0.length c1_0,.int .i64 a1_1,.int .i64 a1_2,.int .i64 a1_3,.slice A1_4 l1_4.length c1_4] 29 (0,0)) bOv hb);have n1_:=aK (bK bId hb);clear BK163;clear HB;have BK163:=n0_;have HB:=n1_;clear n0_ n1_;(try clear hb);(try clear hb2);(try clear hk);(try clear hi);refine hK.out _ _ (xO BK163.out) (fun hHeld=>?_);clear hK K;refine nS 11 ?_;refine mC 2 ?_;refine mC 3 ?_;refine mC 4 ?_;refine tS 5 15 (lA 45 63) rfl rfl (jR HT_.out HW_.out (by kernel_rfl)) hHeld qV ?_;refine pD (i:=6) (N:=some 16) (lA 45 127) rfl rfl (mT HT_.out (by kernel_rfl)) (by decide) (fun K hK=>?_);refine qU Try.func73 (by kernel_rfl) rfl #[.int .i64 a1_1,.int .i64 0,.int .i64 40] (by rfl) rfl rfl qD ?_;(with_reducible refine (cZ a1_1 0 40 false _ A8.out).mono ?_);rintro e w' ⟨rfl,⟨nd,rfl⟩⟩;refine ⟨_,rfl,?_⟩;refine hK.out _ _ (xO BK163.out) (fun hHeld=>?_);clear hK K;refine nS 16 ?_;refine mC 7 ?_;refine mC 8 ?_;refine mC 9 ?_;refine nZ 10 ?_;refine nZ 11 ?_;refine nZ 12 ?_;refine nZ 13 ?_;refine nZ 14 ?_;refine nZ 15 ?_;refine mC 16 ?_;refine mC 17 ?_;refine nZ 18 ?_;refine nZ 19 ?_;refine nZ 20 ?_;refine nZ 21 ?_;refine nZ 22 ?_;refine nZ 23 ?_;refine mC 24 ?_;refine mC 25 ?_;refine nZ 26 ?_;refine nZ 27 ?_;refine nZ 28 ?_;refine nZ 29 ?_;refine nZ 30 ?_;refine nZ 31 ?_;refine nZ 32 ?_;refine mC 33 ?_;refine mC 34 ?_;refine nZ 35 ?_;refine nZ 36 ?_;refine nZ 37 ?_;refine nZ 38 ?_;refine nZ 39 ?_;refine nZ 40 ?_;refine nZ 41 ?_;refine nZ 42 ?_;refine nZ 43 ?_;refine mC 44 ?_;refine gT (vH HT_.out (by kernel_rfl)) ?_;try go_wp2
    go_meet
    case rel=>exact ⟨_,(true),nR,H',⟨by first|omega|exact bV _⟩,⟨by (with_reducible repeat (first|refine bX ?_ _|refine bY ?_|refine bQ ?_ _));exact BK163.out⟩,⟨by repeat (first|(with_reducible first|exact HB.out|apply bJ|apply bI|apply bG|refine cE ?_ GE163.out)|exact HB.out)⟩⟩
  ·replace c7 := Bool.eq_false_iff.mpr c7
   subst c7;rw [if_neg (show¬(false=true) by decide)] at H;have H':=aK H;clear H;try go_wp2
   have n0_:=aK (bY BK163.out);have n1_:=aK (bG HB.out);clear BK163;clear HB;have BK163:=n0_;have HB:=n1_;clear n0_ n1_;refine sT 45 (S:=fun w'=>True) (ds:=[]) dT (fun hHeld=>?_);refine qZ nL nB (fun HT_ HW_=>?_);generalize w4.drew=w27 at BK163 HB hHeld ⊢;refine mC 0 ?_;refine pD (i:=1) (N:=some 11) (lA 45 3) rfl rfl (mT HT_.out (by kernel_rfl)) (by decide) (fun K hK=>?_);refine qU Try.func102 (by kernel_rfl) rfl #[.slice A0 l0.length c0] (by rfl) rfl rfl qD ?_;(with_reducible refine (nC k _ _ l0 false _ ?side1 ?side2 A6.out).mono ?_)
   (case side1=>exact bDl)
   (case side2=>exact HC0.out)
   rintro e w28 ⟨rfl,hb⟩;refine ⟨_,rfl,?_⟩;have n0_:=aK (bS (g:=gb163) (o:= .cells #[.slice A1_0 l1_0.length c1_0,.int .i64 a1_1,.int .i64 a1_2,.int .i64 a1_3,.slice A1_4 l1_4.length c1_4] 29 (0,0)) bOv hb);have n1_:=aK (bK bId hb);clear BK163;clear HB;have BK163:=n0_;have HB:=n1_;clear n0_ n1_;(try clear hb);(try clear hb2);(try clear hk);(try clear hi);refine hK.out _ _ dT (fun hHeld=>?_);clear hK K;refine nS 11 ?_;refine mC 2 ?_;refine mC 3 ?_;refine nZ 4 ?_;refine nZ 5 ?_;refine nZ 6 ?_;refine nZ 7 ?_;refine mC 8 ?_;refine mC 9 ?_;refine nZ 10 ?_;refine nZ 11 ?_;refine nZ 12 ?_;refine nZ 13 ?_;refine nZ 14 ?_;refine nZ 15 ?_;refine mC 16 ?_;refine mC 17 ?_;refine nZ 18 ?_;refine nZ 19 ?_;refine nZ 20 ?_;refine nZ 21 ?_;refine nZ 22 ?_;refine nZ 23 ?_;refine mC 24 ?_;refine mC 25 ?_;refine nZ 26 ?_;refine nZ 27 ?_;refine nZ 28 ?_;refine nZ 29 ?_;refine nZ 30 ?_;refine nZ 31 ?_;refine nZ 32 ?_;refine mC 33 ?_;refine mC 34 ?_;refine nZ 35 ?_;refine nZ 36 ?_;refine nZ 37 ?_;refine nZ 38 ?_;refine nZ 39 ?_;refine nZ 40 ?_;refine nZ 41 ?_;refine nZ 42 ?_;refine nZ 43 ?_;refine mC 44 ?_;refine gT (vH HT_.out (by kernel_rfl)) ?_;try go_wp2
   go_meet
   case rel=>exact ⟨_,(true),nR,H',⟨by first|omega|exact bV _⟩,⟨by (with_reducible repeat (first|refine bX ?_ _|refine bY ?_|refine bQ ?_ _));exact BK163.out⟩,⟨by repeat (first|(with_reducible first|exact HB.out|apply bJ|apply bI|apply bG|refine cE ?_ GE163.out)|exact HB.out)⟩⟩
 case rest =>
  clear HC3;(try clear c1);(try clear p2);(try clear c7);(try clear c9);(try clear c10);obtain ⟨kq,x54_2,rfl,HA,HJ2,BK163,HB⟩:=hcut
  cases kq with
  |zero=>exact absurd HA.out (by simp [fG])
  | succ kj2 =>
   have H:=HA.out;clear HA;simp only [fG] at H;by_cases c29:x54_2=true
   ·subst c29
    rw [if_pos rfl] at H;obtain rfl:=bE H;go_wp2;go_ret;exact ⟨zL,bId⟩
   ·replace c29 := Bool.eq_false_iff.mpr c29
    subst c29;rw [if_neg (show¬(false=true) by decide)] at H;have H':=aK H;clear H;go_wp2
    go_loopg [6] kj2 (fun kq v6 w'=> ∃(x6_2:Int),v6= .int .i64 x6_2∧Aside0 (gM kq (l1_0.length:Int) x6_2 l1_0 a1_1 a1_2 a1_3 l1_4=some r)∧Aside0 (kq≤kj2)∧Aside0 (w'.heap[gb163]? =some (.cells #[(.slice A1_0 l1_0.length c1_0),.int .i64 a1_1,.int .i64 a1_2,.int .i64 a1_3,(.slice A1_4 l1_4.length c1_4)] 29 (0,0)))∧Aside0 (Below w.heap.size w w'))
    case atStart=>exact ⟨(0),nR,H',⟨bV _⟩,⟨by (with_reducible repeat (first|refine bX ?_ _|refine bY ?_|refine bQ ?_ _));exact BK163.out⟩,⟨by repeat (first|(with_reducible first|exact HB.out|apply bJ|apply bI|apply bG|refine cE ?_ GE163.out)|exact HB.out)⟩⟩
    case round =>
     clear H';(try clear c1);(try clear c2);(try clear p2);(try clear c7);(try clear c9);(try clear c10);(try clear c29);(try clear p2);obtain ⟨x6_2,rfl,HA,HK2,BK163,HB⟩:=hrel
     cases gk with
     |zero=>exact absurd HA.out (by simp [gM])
     | succ k2 =>
      have H:=HA.out;clear HA;simp only [gM] at H;by_cases c30:x6_2<(l1_0.length:Int)
      ·rw [if_pos c30] at H
       have c30b0:decide (x6_2<(l1_0.length:Int))=true:=bD c30
       clear c30;replace H:=Option.bind_eq_some_iff.mp H;obtain ⟨t170,A310,H⟩:=H;(try dsimp only at H);have A31:=aK A310;clear A310;by_cases c32:t170=true
       ·subst c32
        rw [if_pos rfl] at H;by_cases c33:0≤x6_2
        ·rw [if_pos c33] at H
         have c33b0:decide (0≤x6_2)=true:=bD c33
         clear c33;by_cases c34:x6_2<(l1_0.length:Int)
         ·rw [if_pos c34] at H
          have c34b0:decide (x6_2<(l1_0.length:Int))=true:=bD c34
          clear c34;by_cases c35:(rd l1_0 x6_2)=0
          ·rw [if_pos c35] at H
           have c35b0:((rd l1_0 x6_2)==0)=true:=zH.mpr c35
           have c35b1:((rd l1_0 x6_2) !=0)=false:=bne_eq_false_iff_eq.mpr c35
           clear c35;have H':=aK H;clear H;obtain ⟨hcz36_0,hcz36_1,hcz36_2,hcz36_3,hcz36_4,hfz36_0,hfz36_1,hfz36_2,hfz36_3,hfz36_4⟩:=nP BK163
           go_wp2_with (first|((with_reducible refine dG (f:=73) rfl ?_);refine gE (some 66) rfl rfl Try.func73 (by kernel_rfl) rfl #[.int .i64 x6_2,.int .i64 a1_2,.int .i64 (wrap64 (a1_1 - 1))] rfl qD ?_;(with_reducible refine (cZ x6_2 a1_2 (wrap64 (a1_1 - 1)) true _ A31.out).mono ?_);rintro e w' ⟨rfl,⟨nd,rfl⟩⟩;refine ⟨_,rfl,?_⟩;have p171:0≤(x6_2:Int):=bB jX;have q171:x6_2<(l1_0.length:Int):=bB jX;obtain ⟨ad171,e171,hx171_0⟩:=dL HR1_0.out x6_2 p171 q171;cases e171;replace hx171_0:=(HB.out.cell (bN w _ hx171_0)).trans hx171_0;replace p171:=bO p171;replace q171:=bO q171))
           go_roundg k2
           case measure=>have:=HJ2.out;have:=HK2.out;omega
           case rel=>exact ⟨(wrap64 (x6_2+1)),nR,H',⟨by have:=HJ2.out;have:=HK2.out;omega⟩,⟨by (with_reducible repeat (first|refine bX ?_ _|refine bY ?_|refine bQ ?_ _));exact BK163.out⟩,⟨by repeat (first|(with_reducible first|exact HB.out|apply bJ|apply bI|apply bG|refine cE ?_ GE163.out)|exact HB.out)⟩⟩
          ·rw [if_neg c35] at H
           have c35b0:((rd l1_0 x6_2)==0)=false:=xP.mpr c35
           have c35b1:((rd l1_0 x6_2) !=0)=true:=bne_iff_ne.mpr c35
           obtain rfl:=bE H;obtain ⟨hcz37_0,hcz37_1,hcz37_2,hcz37_3,hcz37_4,hfz37_0,hfz37_1,hfz37_2,hfz37_3,hfz37_4⟩:=nP BK163
           go_wp2_with (first|((with_reducible refine dG (f:=73) rfl ?_);refine gE (some 66) rfl rfl Try.func73 (by kernel_rfl) rfl #[.int .i64 x6_2,.int .i64 a1_2,.int .i64 (wrap64 (a1_1 - 1))] rfl qD ?_;(with_reducible refine (cZ x6_2 a1_2 (wrap64 (a1_1 - 1)) true _ A31.out).mono ?_);rintro e w' ⟨rfl,⟨nd,rfl⟩⟩;refine ⟨_,rfl,?_⟩;have p171:0≤(x6_2:Int):=bB jX;have q171:x6_2<(l1_0.length:Int):=bB jX;obtain ⟨ad171,e171,hx171_0⟩:=dL HR1_0.out x6_2 p171 q171;cases e171;replace hx171_0:=(HB.out.cell (bN w _ hx171_0)).trans hx171_0;replace p171:=bO p171;replace q171:=bO q171))
           go_ret;exact ⟨zL,bId⟩
         ·rw [if_neg c34] at H
          exact absurd H (by simp)
        ·rw [if_neg c33] at H
         exact absurd H (by simp)
       ·replace c32 := Bool.eq_false_iff.mpr c32
        subst c32;rw [if_neg (show¬(false=true) by decide)] at H;by_cases c38:x6_2≥a1_3
        ·rw [if_pos c38] at H
         have c38b0:decide (a1_3≤x6_2)=true:=bD c38
         clear c38;by_cases c39:0≤x6_2
         ·rw [if_pos c39] at H
          have c39b0:decide (0≤x6_2)=true:=bD c39
          clear c39;by_cases c40:x6_2<(l1_0.length:Int)
          ·rw [if_pos c40] at H
           have c40b0:decide (x6_2<(l1_0.length:Int))=true:=bD c40
           clear c40;by_cases c41:(rd l1_0 x6_2)=0
           ·rw [if_pos c41] at H
            have c41b0:((rd l1_0 x6_2)==0)=true:=zH.mpr c41
            have c41b1:((rd l1_0 x6_2) !=0)=false:=bne_eq_false_iff_eq.mpr c41
            clear c41;have H':=aK H;clear H;obtain ⟨hcz42_0,hcz42_1,hcz42_2,hcz42_3,hcz42_4,hfz42_0,hfz42_1,hfz42_2,hfz42_3,hfz42_4⟩:=nP BK163
            go_wp2_with (first|((with_reducible refine dG (f:=73) rfl ?_);refine gE (some 66) rfl rfl Try.func73 (by kernel_rfl) rfl #[.int .i64 x6_2,.int .i64 a1_2,.int .i64 (wrap64 (a1_1 - 1))] rfl qD ?_;(with_reducible refine (cZ x6_2 a1_2 (wrap64 (a1_1 - 1)) false _ A31.out).mono ?_);rintro e w' ⟨rfl,⟨nd,rfl⟩⟩;refine ⟨_,rfl,?_⟩;have p172:0≤(x6_2:Int):=bB jX;have q172:x6_2<(l1_0.length:Int):=bB jX;obtain ⟨ad172,e172,hx172_0⟩:=dL HR1_0.out x6_2 p172 q172;cases e172;replace hx172_0:=(HB.out.cell (bN w _ hx172_0)).trans hx172_0;replace p172:=bO p172;replace q172:=bO q172))
            go_roundg k2
            case measure=>have:=HJ2.out;have:=HK2.out;omega
            case rel=>exact ⟨(wrap64 (x6_2+1)),nR,H',⟨by have:=HJ2.out;have:=HK2.out;omega⟩,⟨by (with_reducible repeat (first|refine bX ?_ _|refine bY ?_|refine bQ ?_ _));exact BK163.out⟩,⟨by repeat (first|(with_reducible first|exact HB.out|apply bJ|apply bI|apply bG|refine cE ?_ GE163.out)|exact HB.out)⟩⟩
           ·rw [if_neg c41] at H
            have c41b0:((rd l1_0 x6_2)==0)=false:=xP.mpr c41
            have c41b1:((rd l1_0 x6_2) !=0)=true:=bne_iff_ne.mpr c41
            obtain rfl:=bE H;obtain ⟨hcz43_0,hcz43_1,hcz43_2,hcz43_3,hcz43_4,hfz43_0,hfz43_1,hfz43_2,hfz43_3,hfz43_4⟩:=nP BK163
            go_wp2_with (first|((with_reducible refine dG (f:=73) rfl ?_);refine gE (some 66) rfl rfl Try.func73 (by kernel_rfl) rfl #[.int .i64 x6_2,.int .i64 a1_2,.int .i64 (wrap64 (a1_1 - 1))] rfl qD ?_;(with_reducible refine (cZ x6_2 a1_2 (wrap64 (a1_1 - 1)) false _ A31.out).mono ?_);rintro e w' ⟨rfl,⟨nd,rfl⟩⟩;refine ⟨_,rfl,?_⟩;have p172:0≤(x6_2:Int):=bB jX;have q172:x6_2<(l1_0.length:Int):=bB jX;obtain ⟨ad172,e172,hx172_0⟩:=dL HR1_0.out x6_2 p172 q172;cases e172;replace hx172_0:=(HB.out.cell (bN w _ hx172_0)).trans hx172_0;replace p172:=bO p172;replace q172:=bO q172))
            go_ret;exact ⟨zL,bId⟩
          ·rw [if_neg c40] at H
           exact absurd H (by simp)
         ·rw [if_neg c39] at H
          exact absurd H (by simp)
        ·rw [if_neg c38] at H
         have c38b0:decide (a1_3≤x6_2)=false:=bM c38
         clear c38;have H':=aK H;clear H;obtain ⟨hcz44_0,hcz44_1,hcz44_2,hcz44_3,hcz44_4,hfz44_0,hfz44_1,hfz44_2,hfz44_3,hfz44_4⟩:=nP BK163
         go_wp2_with (first|((with_reducible refine dG (f:=73) rfl ?_);refine gE (some 66) rfl rfl Try.func73 (by kernel_rfl) rfl #[.int .i64 x6_2,.int .i64 a1_2,.int .i64 (wrap64 (a1_1 - 1))] rfl qD ?_;(with_reducible refine (cZ x6_2 a1_2 (wrap64 (a1_1 - 1)) false _ A31.out).mono ?_);rintro e w' ⟨rfl,⟨nd,rfl⟩⟩;refine ⟨_,rfl,?_⟩))
         go_roundg k2
         case measure=>have:=HJ2.out;have:=HK2.out;omega
         case rel=>exact ⟨(wrap64 (x6_2+1)),nR,H',⟨by have:=HJ2.out;have:=HK2.out;omega⟩,⟨by (with_reducible repeat (first|refine bX ?_ _|refine bY ?_|refine bQ ?_ _));exact BK163.out⟩,⟨by repeat (first|(with_reducible first|exact HB.out|apply bJ|apply bI|apply bG|refine cE ?_ GE163.out)|exact HB.out)⟩⟩
      ·rw [if_neg c30] at H
       have c30b0:decide (x6_2<(l1_0.length:Int))=false:=bM c30
       clear c30;obtain rfl:=bE H;go_wp2;go_ret;exact ⟨zL,bId⟩
end Go.Proofs.Ytbaklikaoleplaa.K
namespace Go.Proofs.Ytbaklikaoleplaa.K
open Go.RowKit Go.Proofs.YtbaklikaoleplaaW.PrintWords Go.Proofs.YtbaklikaoleplaaW.PrintLast Go.Proofs.YtbaklikaoleplaaW.PrintMore
attribute [local go_sem] gD gB gY gW fR fQ gC gA
set_option linter.unusedVariables false
set_option linter.unusedSimpArgs false
def sX (a0:Int):Option (Bool):=(fK a0 (-128) 127).bind fun t188=>(some t188)
theorem bEl (a0:Int) (r:Bool) (w:World) (h:sX a0=some r):
  Calls Try.prog 105 #[.int .i64 a0] w fun e w'=>e= .returned (.bool r)∧Drawn0 w w':=by
 have H:((fK a0 (-128) 127).bind fun t188=>(some t188))=some r:=h
 clear h;replace H:=Option.bind_eq_some_iff.mp H;obtain ⟨t188,A20,H⟩:=H;(try dsimp only at H);have A2:=aK A20;clear A20;obtain rfl:=bE H;go_enter Try.func105,Try.ntmps105
 go_wp2_with (first|((with_reducible refine dG (f:=73) rfl ?_);refine gE (some 4) rfl rfl Try.func73 (by kernel_rfl) rfl #[.int .i64 a0,.int .i64 (-128),.int .i64 127] rfl qD ?_;(with_reducible refine (cZ a0 (-128) 127 t188 _ A2.out).mono ?_);rintro e w' ⟨rfl,⟨nd,rfl⟩⟩;refine ⟨_,rfl,?_⟩))
 go_ret;exact ⟨nR,sF⟩
end Go.Proofs.Ytbaklikaoleplaa.K
namespace Go.Proofs.Ytbaklikaoleplaa.K
open Go.RowKit Go.Proofs.YtbaklikaoleplaaW.PrintWords Go.Proofs.YtbaklikaoleplaaW.PrintLast Go.Proofs.YtbaklikaoleplaaW.PrintMore
attribute [local go_sem] gD gB gY gW fR fQ gC gA
set_option linter.unusedVariables false
set_option linter.unusedSimpArgs false
def pW (l0:List Bool) (a1:Int):Option (Bool):=if a1=0 then (some true) else ((fK a1 1 (l0.length:Int)).bind fun t173=>(if t173=true then (if 0≤(wrap64 (a1 - 1)) then (if (wrap64 (a1 - 1))<(l0.length:Int) then (some (kK false l0 (wrap64 (a1 - 1)))) else (none)) else (none)) else (some false)))
theorem rJ (A0:Option Addr) (c0:Nat) (l0:List Bool) (a1:Int) (r:Bool) (w:World) (hr0:Kd.C Kd.bool w A0 l0.length l0) (hc0:l0.length≤c0) (h:pW l0 a1=some r):
  Calls Try.prog 43 #[.slice A0 l0.length c0,.int .i64 a1] w fun e w'=>e= .returned (.bool r)∧Drawn0 w w':=by
 have HR0:=aK hr0;have HC0:=aK hc0;clear hr0 hc0;have H:(if a1=0 then (some true) else ((fK a1 1 (l0.length:Int)).bind fun t173=>(if t173=true then (if 0≤(wrap64 (a1 - 1)) then (if (wrap64 (a1 - 1))<(l0.length:Int) then (some (kK false l0 (wrap64 (a1 - 1)))) else (none)) else (none)) else (some false))))=some r:=h
 clear h;by_cases c3:a1=0
 ·rw [if_pos c3] at H
  have c3b0:(a1==0)=true:=zH.mpr c3
  have c3b1:(a1 !=0)=false:=bne_eq_false_iff_eq.mpr c3
  clear c3;obtain rfl:=bE H;go_enter Try.func43,Try.ntmps43;go_wp2;go_ret;exact ⟨nR,sF⟩
 ·rw [if_neg c3] at H
  have c3b0:(a1==0)=false:=xP.mpr c3
  have c3b1:(a1 !=0)=true:=bne_iff_ne.mpr c3
  replace H:=Option.bind_eq_some_iff.mp H;obtain ⟨t173,A40,H⟩:=H;(try dsimp only at H);have A4:=aK A40;clear A40;by_cases c5:t173=true
  ·subst c5
   rw [if_pos rfl] at H;obtain ⟨ji6,hji6⟩: ∃j_:Int,(wrap64 (a1 - 1))=j_:=⟨_,rfl⟩;replace H:(if 0≤(ji6) then (if (ji6)<(l0.length:Int) then (some (kK false l0 (ji6))) else (none)) else (none))=some r:=by first|(rw [hji6] at H;exact H)|(simp only [hji6] at H ⊢;exact H)
   (try rw [hji6] at A4)
   have hji6w:(IntKind.i64.wrap (a1 - 1))=ji6:=(mN _).trans hji6
   by_cases c7:0≤(ji6)
   ·rw [if_pos c7] at H
    have c7b0:decide (0≤(ji6))=true:=bD c7
    clear c7;by_cases c8:(ji6)<(l0.length:Int)
    ·rw [if_pos c8] at H
     have c8b0:decide ((ji6)<(l0.length:Int))=true:=bD c8
     clear c8;obtain rfl:=bE H;go_enter Try.func43,Try.ntmps43
     go_wp2_with (first|(go_at_call 73;(with_reducible refine (cZ a1 1 (l0.length:Int) true _ A4.out).mono ?_);rintro e w' ⟨rfl,⟨nd,rfl⟩⟩;have p174:0≤((ji6):Int):=bB jX;have q174:(ji6)<(l0.length:Int):=bB jX;obtain ⟨ad174,e174,hx174_0⟩:=kN HR0.out (ji6) p174 q174;cases e174;replace p174:=bO p174;replace q174:=bO q174))
     go_ret;exact ⟨(by first|rfl|(simp;done)|(simp only [←hji6]<;>(first|rfl|simp))|(simp [*];done)),sF⟩
    ·rw [if_neg c8] at H
     exact absurd H (by simp)
   ·rw [if_neg c7] at H
    exact absurd H (by simp)
  ·replace c5 := Bool.eq_false_iff.mpr c5
   subst c5;rw [if_neg (show¬(false=true) by decide)] at H;obtain rfl:=bE H;go_enter Try.func43,Try.ntmps43
   go_wp2_with (first|(go_at_call 73;(with_reducible refine (cZ a1 1 (l0.length:Int) false _ A4.out).mono ?_);rintro e w' ⟨rfl,⟨nd,rfl⟩⟩))
   go_ret;exact ⟨nR,sF⟩
end Go.Proofs.Ytbaklikaoleplaa.K
