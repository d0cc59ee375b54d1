import Derived.Test.YtbaklikaoleplaaGreatPl24
import Derived.Test.YtbaklikaoleplaaGreatPl25
set_option maxHeartbeats 8000000
set_option maxRecDepth 100000
namespace Go.Proofs.YtbaklikaoleplaaGreat.K
open Go.RowKit Go.Proofs.YtbaklikaoleplaaGreatW.PrintWords Go.Proofs.YtbaklikaoleplaaGreatW.PrintLast Go.Proofs.YtbaklikaoleplaaGreatW.PrintMore
attribute [local go_sem] gV gT jT jS fY fX gU gR
set_option linter.unusedVariables false
set_option linter.unusedSimpArgs false
def fH:Nat→List (S78)→List Bool→Int→Int→Option (List Bool)
  |0,_,_,_,_=>none
  |k+1,x0,x7,x8,x9=>if x9<(x7.length:Int) then (if x8=(-2) then (if 0≤x9 then (fH k x0 (x7.set (x9:Int).toNat true) x8 (wrap64 (x9+1))) else (none)) else (if x8≥0 then ((jE k x0 x8).bind fun t182=>(if 0≤(wrap64 (x9 - 1)) then (if (wrap64 (x9 - 1))<(t182.length:Int) then (if 0≤x9 then (fH k x0 (x7.set (x9:Int).toNat ((rd t182 (wrap64 (x9 - 1))) !=1)) x8 (wrap64 (x9+1))) else (none)) else (none)) else (none))) else (if 0≤x9 then (fH k x0 (x7.set (x9:Int).toNat false) x8 (wrap64 (x9+1))) else (none)))) else (some x7)
def kO (k:Nat) (l0:List (S78)) (l1:List Int) (a2:Int):Option (List Bool):=(kN k l0 l1 a2 (l1.length:Int)).bind fun t175=>(if 0≤t175 then (if (t175:Int).toNat≤281474976710656 then (if 0≤a2 then (if a2<(l1.length:Int) then ((jH (rd l1 a2)).bind fun t180=>(fH k l0 (List.replicate (t175:Int).toNat false) (rd l1 a2) t180)) else (none)) else (none)) else (none)) else (none))
theorem vN (k : Nat) (A0 : Option Addr) (c0 : Nat) (l0 : List (S78)) (A1 : Option Addr) (c1 : Nat) (l1 : List Int) (a2 : Int) (r : List Bool) (w : World) (hr0 : Kd.C yD w A0 l0.length l0) (hc0 : l0.length ≤ c0) (hr1 : Kd.C (Kd.int .i64) w A1 l1.length l1) (hc1 : l1.length ≤ c1) (h : kO k l0 l1 a2 = some r) :
  Calls Tryz.prog 96 #[.slice A0 l0.length c0,.slice A1 l1.length c1,.int .i64 a2] w fun e w'=> ∃v0_:Value,e= .returned (v0_)∧Kd.R Kd.bool 4 w' w.heap.size (fun _=>True) v0_ r∧Below w.heap.size w w':=by
 have HR0:=aK hr0;have HC0:=aK hc0;clear hr0 hc0;have HR1:=aK hr1;have HC1:=aK hc1;clear hr1 hc1;have HB:=aK (bQ w.heap.size w);have H:((kN k l0 l1 a2 (l1.length:Int)).bind fun t175=>(if 0≤t175 then (if (t175:Int).toNat≤281474976710656 then (if 0≤a2 then (if a2<(l1.length:Int) then ((jH (rd l1 a2)).bind fun t180=>(fH k l0 (List.replicate (t175:Int).toNat false) (rd l1 a2) t180)) else (none)) else (none)) else (none)) else (none)))=some r:=h
 clear h;replace H:=Option.bind_eq_some_iff.mp H;obtain ⟨t175,A40,H⟩:=H;(try dsimp only at H);have A4:=aK A40;clear A40;by_cases c5:0≤t175
 ·rw [if_pos c5] at H
  have c5b0:=bL c5;have c5b1:decide (0≤t175)=true:=bB c5
  clear c5;by_cases c6:(t175:Int).toNat≤281474976710656
  ·rw [if_pos c6] at H
   have c6b0:=bL c6;have c6b1:decide ((t175:Int).toNat≤281474976710656)=true:=bB c6
   clear c6;obtain ⟨y176,hy176⟩: ∃y_:List Bool,y_=(List.replicate (t175:Int).toNat false):=⟨_,rfl⟩;replace H:(if 0≤a2 then (if a2<(l1.length:Int) then ((jH (rd l1 a2)).bind fun t180=>(fH k l0 y176 (rd l1 a2) t180)) else (none)) else (none))=some r:=by first|(rw [hy176];with_reducible exact H)|(have H2_:=(bD _ _).symm.trans H;rw [hy176];with_reducible exact H2_)|(have H2_:=(bD _ _).symm.trans H;with_reducible exact H2_)|with_reducible exact H|(rw [hy176];exact H)|exact H
   have Ny176:=aK hy176;clear hy176;by_cases c7:0≤a2
   ·rw [if_pos c7] at H
    have c7b0:decide (0≤a2)=true:=bB c7
    clear c7;by_cases c8:a2<(l1.length:Int)
    ·rw [if_pos c8] at H
     have c8b0:decide (a2<(l1.length:Int))=true:=bB c8
     clear c8;replace H:=Option.bind_eq_some_iff.mp H;obtain ⟨t180,A90,H⟩:=H;(try dsimp only at H);have A9:=aK A90;clear A90;have H':=aK H;clear H;go_enter Tryz.func96,Tryz.ntmps96
     go_wp2_with (first|((with_reducible refine cD (f:=85) rfl ?_);refine dT (some 15) rfl rfl Tryz.func85 (by kernel_rfl) rfl #[.slice A0 l0.length c0,.slice A1 l1.length c1,.int .i64 a2,.int .i64 (l1.length:Int)] rfl mO ?_;(with_reducible refine (rH k _ _ l0 _ _ l1 a2 (l1.length:Int) t175 _ ?side1 ?side2 ?side3 ?side4 A4.out).mono ?_);(case side1=>exact (by repeat (first|exact HR0.out|(with_reducible refine Kd.C_alloc ?_ _)|(with_reducible refine Kd.C_drewN ?_ _)|(with_reducible refine Kd.C_drew ?_))));(case side2=>exact HC0.out);(case side3=>exact (by repeat (first|exact HR1.out|(with_reducible refine Kd.C_alloc ?_ _)|(with_reducible refine Kd.C_drewN ?_ _)|(with_reducible refine Kd.C_drew ?_))));(case side4=>exact HC1.out);rintro e w10 ⟨rfl,hb⟩;refine ⟨_,rfl,?_⟩;replace HB:=aK (bG jR hb);(try clear hb);(try clear hb2);(try clear hk);(try clear hi))|((with_reducible refine dG (N:=16) rfl ?_);refine Kd.R_make Kd.bool _ 4 rfl (N:=16) rfl 25 _ _ rfl t175 rfl rfl Tryz.underlying25 (.bool false) 1 bFi rfl (by decide) (by omega) false (ok:=fun _=>True) (okp:=fun _=>True) rfl (fun _ hk=>hk) gG (bA fU) (dW (dU _ (bA fU:t175.toNat≤281474976710656)) (by omega)) (bQ _ _) (bV _) ?_;intro v177 w11 ho12 hb hg_ hnew_;clear hg_ hnew_;(first|rw [←Ny176.out] at ho12|(simp only [Int.reduceToNat] at ho12;rw [←Ny176.out] at ho12));have HO178:=aK (dR ho12 (bN jR));replace HB:=aK (bG jR hb);clear hb ho12;have p179:0≤(a2:Int):=bA fU;have q179:a2<(l1.length:Int):=bA fU;obtain ⟨ad179,e179,hx179_0⟩:=dA HR1.out a2 p179 q179;cases e179;replace hx179_0:=(HB.out.cell (bE w _ hx179_0)).trans hx179_0;replace p179:=bL p179;replace q179:=bL q179)|((with_reducible refine cD (f:=142) rfl ?_);refine dT (some 22) rfl rfl Tryz.func142 (by kernel_rfl) rfl #[.int .i64 (rd l1 a2)] rfl mO ?_;(with_reducible refine (vO (rd l1 a2) t180 _ A9.out).mono ?_);rintro e w' ⟨rfl,⟨nd,rfl⟩⟩;refine ⟨_,rfl,?_⟩))
     go_loopg [9] k (fun kq v9 w'=> ∃(x7_1:List Bool) (x9_1:Int),v9= .int .i64 x9_1∧Aside0 (fH kq l0 x7_1 (rd l1 a2) x9_1=some r)∧Aside0 (kq≤k)∧Aside0 (Kd.R Kd.bool 4 w' w.heap.size (fun _=>True) v177 x7_1)∧Aside0 (Below w.heap.size w w'))
     case atStart=>exact ⟨(y176),(t180),kG,H',⟨bV _⟩,⟨by (with_reducible repeat (first|apply Kd.R_alloc|apply bZ|apply cE));exact HO178.out⟩,⟨by repeat (first|(with_reducible first|exact HB.out|apply bI|apply bF|apply bH)|exact HB.out)⟩⟩
     case round =>
      clear H';(try clear c1);(try clear p1);(try clear q1);(try clear hx1);(try clear p2);(try clear c5);(try clear c5b0);(try clear c5b1);(try clear c6);(try clear c6b0);(try clear c6b1);(try clear c7);(try clear c7b0);(try clear c8);(try clear c8b0);(try clear c9);(try clear hx179_0);(try clear p179);(try clear q179);obtain ⟨x7_1,x9_1,rfl,HA,HK1,HO_7,HB⟩:=hrel
      cases gk with
      |zero=>exact absurd HA.out (by simp [fH])
      | succ k1 =>
       have H:=HA.out;clear HA;simp only [fH] at H;by_cases c13:x9_1<(x7_1.length:Int)
       ·rw [if_pos c13] at H
        have c13b0:decide (x9_1<(x7_1.length:Int))=true:=bB c13
        clear c13;by_cases c14:(rd l1 a2)=(-2)
        ·rw [if_pos c14] at H
         have c14b0:((rd l1 a2)==(-2))=true:=beq_iff_eq.mpr c14
         have c14b1:((rd l1 a2) !=(-2))=false:=bne_eq_false_iff_eq.mpr c14
         clear c14;by_cases c15:0≤x9_1
         ·rw [if_pos c15] at H
          have c15b0:decide (0≤x9_1)=true:=bB c15
          clear c15;obtain ⟨y181,hy181⟩: ∃y_:List Bool,y_=(x7_1.set (x9_1:Int).toNat true):=⟨_,rfl⟩;replace H:(fH k1 l0 y181 (rd l1 a2) (wrap64 (x9_1+1)))=some r:=by first|(rw [hy181];with_reducible exact H)|(have H2_:=(bD _ _).symm.trans H;rw [hy181];with_reducible exact H2_)|(have H2_:=(bD _ _).symm.trans H;with_reducible exact H2_)|with_reducible exact H|(rw [hy181];exact H)|exact H
          have Ny181:=aK hy181;clear hy181;have H':=aK H;clear H;obtain ⟨Ao17,co17,eo17⟩:=cH HO_7.out;subst eo17;have p16:0≤(x9_1:Int):=bA fU
          have q16:(x9_1:Int)<((x7_1.length:Int):Int):=bA fU
          obtain ⟨go16,co16,eo16,gb16,gl16,cl16,HG16⟩:=rT HO_7.out (by omega)
          (first|cases eo16|(injection eo16 with ea_ en_ ec_;(first|subst ea_|(injection ea_ with ea_;subst ea_));subst ec_;clear en_))
          have GB16:=aK gb16;have GG16:=aK HG16;clear gb16 gl16 HG16;obtain ⟨hx16_0,hf16_0⟩:=sV false HO_7.out (x9_1:Int) p16 q16;replace p16:=bL p16;replace q16:=bL q16;have HP18:=Kd.R_putg HO_7.out (x9_1:Int) true
          go_wp2_with (first|((with_reducible refine kS (t:=4) (p:=47) rfl ?_);refine jU (t:=4) (p:=47) (v:=?vo_w19) (w1:=(wr.setCell ⟨go16,(x9_1:Int).toNat,none⟩ (.bool true))) ?hg ?ho ?hn ?hr ?_;(case ho=>rfl);(case hg=>rfl);(case hn=>rfl);(case hr=>first|(go_simp;done)|(go_simp;rfl)|((try (first|(obtain ⟨_,_,rfl⟩:=cH HO_7.out)|(obtain ⟨_,_,rfl⟩:=jX HO_7.out)));first|(go_simp;done)|(go_simp;rfl)));intro w19 hw;have hg:wr.grownBy w19 (some go16):=(by rw [hw];exact HP18.2);have hp_:Kd.R Kd.bool 4 w19 w.heap.size (fun _=>True) (.slice (some ⟨go16,0,none⟩) x7_1.length co17) y181:=(by rw [hw,Ny181.out];exact HP18.1);clear HP18;replace HO_7:=aK (hp_);replace HB:=aK ((by rw [hw];exact bY (HB.out) GB16.out:Below w.heap.size w w19));clear hg hw hp_))
          go_roundg k1
          case measure=>have:=HK1.out;omega
          case rel=>exact ⟨(y181),(wrap64 (x9_1+1)),kG,H',⟨by have:=HK1.out;omega⟩,⟨by (with_reducible repeat (first|apply Kd.R_alloc|apply bZ|apply cE));exact HO_7.out⟩,⟨by repeat (first|(with_reducible first|exact HB.out|apply bI|apply bF|apply bH)|exact HB.out)⟩⟩
         ·rw [if_neg c15] at H
          exact absurd H (by simp)
        ·rw [if_neg c14] at H
         have c14b0:((rd l1 a2)==(-2))=false:=tP.mpr c14
         have c14b1:((rd l1 a2) !=(-2))=true:=bne_iff_ne.mpr c14
         by_cases c20:(rd l1 a2)≥0
         ·rw [if_pos c20] at H
          have c20b0:decide (0≤(rd l1 a2))=true:=bB c20
          clear c20;replace H:=Option.bind_eq_some_iff.mp H;obtain ⟨t182,A210,H⟩:=H;(try dsimp only at H);have A21:=aK A210;clear A210;obtain ⟨ji22,hji22⟩: ∃j_:Int,(wrap64 (x9_1 - 1))=j_:=⟨_,rfl⟩;replace H:(if 0≤(ji22) then (if (ji22)<(t182.length:Int) then (if 0≤x9_1 then (fH k1 l0 (x7_1.set (x9_1:Int).toNat ((rd t182 (ji22)) !=1)) (rd l1 a2) (wrap64 (x9_1+1))) else (none)) else (none)) else (none))=some r:=by first|(rw [hji22] at H;exact H)|(simp only [hji22] at H ⊢;exact H)
          (try rw [hji22] at A21)
          have hji22w:(IntKind.i64.wrap (x9_1 - 1))=ji22:=(mC _).trans hji22
          by_cases c23:0≤(ji22)
          ·rw [if_pos c23] at H
           have c23b0:decide (0≤(ji22))=true:=bB c23
           clear c23;by_cases c24:(ji22)<(t182.length:Int)
           ·rw [if_pos c24] at H
            have c24b0:decide ((ji22)<(t182.length:Int))=true:=bB c24
            clear c24;by_cases c25:0≤x9_1
            ·rw [if_pos c25] at H
             have c25b0:decide (0≤x9_1)=true:=bB c25
             clear c25;obtain ⟨y186,hy186⟩: ∃y_:List Bool,y_=(x7_1.set (x9_1:Int).toNat ((rd t182 (ji22)) !=1)):=⟨_,rfl⟩;replace H:(fH k1 l0 y186 (rd l1 a2) (wrap64 (x9_1+1)))=some r:=by first|(rw [hy186];with_reducible exact H)|(have H2_:=(bD _ _).symm.trans H;rw [hy186];with_reducible exact H2_)|(have H2_:=(bD _ _).symm.trans H;with_reducible exact H2_)|with_reducible exact H|(rw [hy186];exact H)|exact H
             have Ny186:=aK hy186;clear hy186;have H':=aK H;clear H;obtain ⟨Ao27,co27,eo27⟩:=cH HO_7.out;subst eo27
             go_wp2_with (first|(go_at_call 130;(with_reducible refine (qY k1 _ _ l0 (rd l1 a2) t182 _ ?side1 ?side2 A21.out).mono ?_);(case side1=>exact zF);(case side2=>exact HC0.out);rintro e w28 ⟨v183,rfl,ho0,hb⟩;have HO184:=aK (dR ho0 (bN jR));replace HO_7:=aK (cA bGm hb);replace HB:=aK (bG jR hb);(try clear hb);(try clear hb2);(try clear hk);(try clear hi);(try clear ho0);obtain ⟨Ao29,co29,eo29⟩:=cH HO184.out;subst eo29;have p185:0≤((ji22):Int):=bA fU;have q185:(ji22)<(t182.length:Int):=bA fU;obtain ⟨ad185,e185,hx185_0⟩:=dA (bR HO184.out).2.2 (ji22) p185 q185;cases e185;replace p185:=bL p185;replace q185:=bL q185;have p26:0≤(x9_1:Int):=bA fU;have q26:(x9_1:Int)<((x7_1.length:Int):Int):=bA fU;obtain ⟨go26,co26,eo26,gb26,gl26,cl26,HG26⟩:=rT HO_7.out (by omega);(first|cases eo26|(injection eo26 with ea_ en_ ec_;(first|subst ea_|(injection ea_ with ea_;subst ea_));subst ec_;clear en_));have GB26:=aK gb26;have GG26:=aK HG26;clear gb26 gl26 HG26;obtain ⟨hx26_0,hf26_0⟩:=sV false HO_7.out (x9_1:Int) p26 q26;replace p26:=bL p26;replace q26:=bL q26;obtain ⟨hy30_,hz30_⟩:=sV false HO_7.out (x9_1:Int) (bA fU) (bA fU);have HP30:=Kd.R_putg HO_7.out (x9_1:Int) ((rd t182 (ji22)) !=1))|((with_reducible refine kS (t:=4) (p:=47) rfl ?_);refine jU (t:=4) (p:=47) (v:=?vo_w31) (w1:=(w28.setCell ⟨go26,(x9_1:Int).toNat,none⟩ (.bool ((rd t182 (ji22)) !=1)))) ?hg ?ho ?hn ?hr ?_;(case ho=>rfl);(case hg=>rfl);(case hn=>rfl);(case hr=>first|(go_simp;done)|(go_simp;rfl)|((try (first|(obtain ⟨_,_,rfl⟩:=cH HO184.out)|(obtain ⟨_,_,rfl⟩:=jX HO184.out)));(try (first|(obtain ⟨_,_,rfl⟩:=cH HO_7.out)|(obtain ⟨_,_,rfl⟩:=jX HO_7.out)));first|(go_simp;done)|(go_simp;rfl)));intro w31 hw;have hg:w28.grownBy w31 (some go26):=(by rw [hw];exact HP30.2);have hp_:Kd.R Kd.bool 4 w31 w.heap.size (fun _=>True) (.slice (some ⟨go26,0,none⟩) x7_1.length co27) y186:=(by rw [hw,Ny186.out];exact HP30.1);clear HP30;replace HO184:=aK (Kd.R_over' (v:=(.slice (some ⟨go26,0,none⟩) x7_1.length co27)) (by (with_reducible repeat (first|apply Kd.R_alloc|apply bZ|apply cE));exact HO184.out) (Kd.R_typed HO_7.out) (by decide) hg);replace HO_7:=aK (hp_);replace HB:=aK ((by rw [hw];exact bY (HB.out) GB26.out:Below w.heap.size w w31));clear hg hw hp_))
             go_roundg k1
             case measure=>have:=HK1.out;omega
             case rel=>exact ⟨(y186),(wrap64 (x9_1+1)),kG,H',⟨by have:=HK1.out;omega⟩,⟨by (with_reducible repeat (first|apply Kd.R_alloc|apply bZ|apply cE));exact HO_7.out⟩,⟨by repeat (first|(with_reducible first|exact HB.out|apply bI|apply bF|apply bH)|exact HB.out)⟩⟩
            ·rw [if_neg c25] at H
             exact absurd H (by simp)
           ·rw [if_neg c24] at H
            exact absurd H (by simp)
          ·rw [if_neg c23] at H
           exact absurd H (by simp)
         ·rw [if_neg c20] at H
          have c20b0:decide (0≤(rd l1 a2))=false:=bJ c20
          clear c20;by_cases c32:0≤x9_1
          ·rw [if_pos c32] at H
           have c32b0:decide (0≤x9_1)=true:=bB c32
           clear c32;obtain ⟨y187,hy187⟩: ∃y_:List Bool,y_=(x7_1.set (x9_1:Int).toNat false):=⟨_,rfl⟩;replace H:(fH k1 l0 y187 (rd l1 a2) (wrap64 (x9_1+1)))=some r:=by first|(rw [hy187];with_reducible exact H)|(have H2_:=(bD _ _).symm.trans H;rw [hy187];with_reducible exact H2_)|(have H2_:=(bD _ _).symm.trans H;with_reducible exact H2_)|with_reducible exact H|(rw [hy187];exact H)|exact H
           have Ny187:=aK hy187;clear hy187;have H':=aK H;clear H;obtain ⟨Ao34,co34,eo34⟩:=cH HO_7.out;subst eo34;have p33:0≤(x9_1:Int):=bA fU
           have q33:(x9_1:Int)<((x7_1.length:Int):Int):=bA fU
           obtain ⟨go33,co33,eo33,gb33,gl33,cl33,HG33⟩:=rT HO_7.out (by omega)
           (first|cases eo33|(injection eo33 with ea_ en_ ec_;(first|subst ea_|(injection ea_ with ea_;subst ea_));subst ec_;clear en_))
           have GB33:=aK gb33;have GG33:=aK HG33;clear gb33 gl33 HG33;obtain ⟨hx33_0,hf33_0⟩:=sV false HO_7.out (x9_1:Int) p33 q33;replace p33:=bL p33;replace q33:=bL q33;have HP35:=Kd.R_putg HO_7.out (x9_1:Int) false
           go_wp2_with (first|((with_reducible refine kS (t:=4) (p:=47) rfl ?_);refine jU (t:=4) (p:=47) (v:=?vo_w36) (w1:=(wr.setCell ⟨go33,(x9_1:Int).toNat,none⟩ (.bool false))) ?hg ?ho ?hn ?hr ?_;(case ho=>rfl);(case hg=>rfl);(case hn=>rfl);(case hr=>first|(go_simp;done)|(go_simp;rfl)|((try (first|(obtain ⟨_,_,rfl⟩:=cH HO_7.out)|(obtain ⟨_,_,rfl⟩:=jX HO_7.out)));first|(go_simp;done)|(go_simp;rfl)));intro w36 hw;have hg:wr.grownBy w36 (some go33):=(by rw [hw];exact HP35.2);have hp_:Kd.R Kd.bool 4 w36 w.heap.size (fun _=>True) (.slice (some ⟨go33,0,none⟩) x7_1.length co34) y187:=(by rw [hw,Ny187.out];exact HP35.1);clear HP35;replace HO_7:=aK (hp_);replace HB:=aK ((by rw [hw];exact bY (HB.out) GB33.out:Below w.heap.size w w36));clear hg hw hp_))
           go_roundg k1
           case measure=>have:=HK1.out;omega
           case rel=>exact ⟨(y187),(wrap64 (x9_1+1)),kG,H',⟨by have:=HK1.out;omega⟩,⟨by (with_reducible repeat (first|apply Kd.R_alloc|apply bZ|apply cE));exact HO_7.out⟩,⟨by repeat (first|(with_reducible first|exact HB.out|apply bI|apply bF|apply bH)|exact HB.out)⟩⟩
          ·rw [if_neg c32] at H
           exact absurd H (by simp)
       ·rw [if_neg c13] at H
        have c13b0:decide (x9_1<(x7_1.length:Int))=false:=bJ c13
        clear c13;obtain rfl:=bC H;obtain ⟨Ao37,co37,eo37⟩:=cH HO_7.out;subst eo37;go_wp2;go_ret;exact ⟨_,by first|rfl|(simp [dF,dE]<;>rfl)|(simp [*,dF,dE]<;>rfl),by (with_reducible repeat (first|apply Kd.R_alloc|apply bZ|apply cE));exact HO_7.out,by repeat (first|(with_reducible first|exact HB.out|apply bI|apply bF|apply bH)|exact HB.out)⟩
    ·rw [if_neg c8] at H
     exact absurd H (by simp)
   ·rw [if_neg c7] at H
    exact absurd H (by simp)
  ·rw [if_neg c6] at H
   exact absurd H (by simp)
 ·rw [if_neg c5] at H
  exact absurd H (by simp)
mutual
def dC:Nat→List Bool→Int→List Bool→Int→List Int→Int→Int→Int→List Bool→Option (Bool)
 |0,_,_,_,_,_,_,_,_,_=>none
 |k+1,x2,x3,x9,x10,x190000,x190001,x190002,x190003,x190004=>if x10<(x9.length:Int) then (if 0≤(wrap64 (x3+x10)) then (if (wrap64 (x3+x10))<(x190000.length:Int) then (if 0≤x10 then (if fW false x9 x10=true then ((nE x2 (rd x190000 (wrap64 (x3+x10)))).bind fun t197=>(if t197=true then (fF k x2 x3 x9 x10 (rd x190000 (wrap64 (x3+x10))) false x190000 x190001 x190002 x190003 x190004) else (fF k x2 x3 x9 x10 (rd x190000 (wrap64 (x3+x10))) true x190000 x190001 x190002 x190003 x190004))) else ((rA (rd x190000 (wrap64 (x3+x10)))).bind fun t200=>(fF k x2 x3 x9 x10 (rd x190000 (wrap64 (x3+x10))) (!t200) x190000 x190001 x190002 x190003 x190004))) else (none)) else (none)) else (none)) else (some true)
def fF:Nat→List Bool→Int→List Bool→Int→Int→Bool→List Int→Int→Int→Int→List Bool→Option (Bool)
 |0,_,_,_,_,_,_,_,_,_,_,_=>none
 |k+1,x2,x3,x9,x10,x11,x57,x190000,x190001,x190002,x190003,x190004=>if x57=true then (some false) else (if 0≤x10 then (if x10<(x9.length:Int) then (if fW false x9 x10=true then (if x3≥x190001 then ((fC x11 1 x190001).bind fun t202=>(if t202=true then (if 0≤(wrap64 (Int.tdiv (wrap64 ((wrap64 (x3+x10)) - x190001)) 4)) then (if (wrap64 (Int.tdiv (wrap64 ((wrap64 (x3+x10)) - x190001)) 4))<(x190004.length:Int) then (if (fW false x190004 (wrap64 (Int.tdiv (wrap64 ((wrap64 (x3+x10)) - x190001)) 4))=true) then (dC k x2 x3 x9 (wrap64 (x10+1)) x190000 x190001 x190002 x190003 x190004) else (some false)) else (none)) else (none)) else (dC k x2 x3 x9 (wrap64 (x10+1)) x190000 x190001 x190002 x190003 x190004))) else (dC k x2 x3 x9 (wrap64 (x10+1)) x190000 x190001 x190002 x190003 x190004)) else (dC k x2 x3 x9 (wrap64 (x10+1)) x190000 x190001 x190002 x190003 x190004)) else (none)) else (none))
end
def rD (k:Nat) (l0:List (S78)) (l1_0:List Int) (a1_1:Int) (a1_2:Int) (a1_3:Int) (l1_4:List Bool) (l2:List Bool) (a3:Int):Option (Bool):=(kO k l0 l1_0 a3).bind fun t190=>(if 0≤a3 then (if a3<(l1_0.length:Int) then ((jH (rd l1_0 a3)).bind fun t194=>(dC k l2 a3 t190 t194 l1_0 a1_1 a1_2 a1_3 l1_4)) else (none)) else (none))
theorem tV (k : Nat) (A0 : Option Addr) (c0 : Nat) (l0 : List (S78)) (A1_0 : Option Addr) (c1_0 : Nat) (l1_0 : List Int) (a1_1 : Int) (a1_2 : Int) (a1_3 : Int) (A1_4 : Option Addr) (c1_4 : Nat) (l1_4 : List Bool) (A2 : Option Addr) (c2 : Nat) (l2 : List Bool) (a3 : Int) (r : Bool) (w : World) (hr0 : Kd.C yD w A0 l0.length l0) (hc0 : l0.length ≤ c0) (hr1_0 : Kd.C (Kd.int .i64) w A1_0 l1_0.length l1_0) (hc1_0 : l1_0.length ≤ c1_0) (hr1_4 : Kd.C Kd.bool w A1_4 l1_4.length l1_4) (hc1_4 : l1_4.length ≤ c1_4) (hr2 : Kd.C Kd.bool w A2 l2.length l2) (hc2 : l2.length ≤ c2) (h : rD k l0 l1_0 a1_1 a1_2 a1_3 l1_4 l2 a3 = some r) :
  Calls Tryz.prog 101 #[.slice A0 l0.length c0,.agg #[.slice A1_0 l1_0.length c1_0,.int .i64 a1_1,.int .i64 a1_2,.int .i64 a1_3,.slice A1_4 l1_4.length c1_4],.slice A2 l2.length c2,.int .i64 a3] w fun e w'=>e= .returned (.bool r)∧Below w.heap.size w w':=by
 have hu27:=Tryz.underlying27;have HR0:=aK hr0;have HC0:=aK hc0;clear hr0 hc0;have HR1_0:=aK hr1_0;have HC1_0:=aK hc1_0;clear hr1_0 hc1_0;have HR1_4:=aK hr1_4;have HC1_4:=aK hc1_4;clear hr1_4 hc1_4;have HR2:=aK hr2;have HC2:=aK hc2;clear hr2 hc2;have HB:=aK (bQ w.heap.size w);have H:((kO k l0 l1_0 a3).bind fun t190=>(if 0≤a3 then (if a3<(l1_0.length:Int) then ((jH (rd l1_0 a3)).bind fun t194=>(dC k l2 a3 t190 t194 l1_0 a1_1 a1_2 a1_3 l1_4)) else (none)) else (none)))=some r:=h
 clear h;replace H:=Option.bind_eq_some_iff.mp H;obtain ⟨t190,A50,H⟩:=H;(try dsimp only at H);have A5:=aK A50;clear A50;by_cases c6:0≤a3
 ·rw [if_pos c6] at H
  have c6b0:decide (0≤a3)=true:=bB c6
  clear c6;by_cases c7:a3<(l1_0.length:Int)
  ·rw [if_pos c7] at H
   have c7b0:decide (a3<(l1_0.length:Int))=true:=bB c7
   clear c7;replace H:=Option.bind_eq_some_iff.mp H;obtain ⟨t194,A80,H⟩:=H;(try dsimp only at H);have A8:=aK A80;clear A80;have H':=aK H;clear H;go_enter Tryz.func101,Tryz.ntmps101
   go_wp2_with (first|((with_reducible refine dG (N:=5) rfl ?_);refine dN ?hg (N:=5) ?hd (cs:= #[.slice A1_0 l1_0.length c1_0,.int .i64 a1_1,.int .i64 a1_2,.int .i64 a1_3,.slice A1_4 l1_4.length c1_4]) (t:=27) ?hr ?_;(case hd=>rfl);(case hg=>rfl);(case hr=>first|(go_simp;done)|(go_simp;rfl));intro gb189 hg w9 hbox hb;have BK189:=aK (hbox);have GW189:=aK ((by rw [hg];exact (bN jR):w.heap.size≤gb189));have GE189:=aK ((by rw [hg];exact (bN jR):w.heap.size≤gb189));replace HB:=aK (bG jR hb);clear hb hbox hg;obtain ⟨hcz10_0,hcz10_1,hcz10_2,hcz10_3,hcz10_4,hfz10_0,hfz10_1,hfz10_2,hfz10_3,hfz10_4⟩:=mG BK189)|((with_reducible refine cD (f:=96) rfl ?_);refine dT (some 16) rfl rfl Tryz.func96 (by kernel_rfl) rfl #[.slice A0 l0.length c0,.slice A1_0 l1_0.length c1_0,.int .i64 a3] rfl mO ?_;(with_reducible refine (vN k _ _ l0 _ _ l1_0 a3 t190 _ ?side1 ?side2 ?side3 ?side4 A5.out).mono ?_);(case side1=>exact zF);(case side2=>exact HC0.out);(case side3=>exact bCx);(case side4=>exact HC1_0.out);rintro e w11 ⟨v191,rfl,ho0,hb⟩;refine ⟨_,rfl,?_⟩;have HO192:=aK (dR ho0 (bN bLd));replace BK189:=aK (cJ (g:=gb189) (o:= .cells #[.slice A1_0 l1_0.length c1_0,.int .i64 a1_1,.int .i64 a1_2,.int .i64 a1_3,.slice A1_4 l1_4.length c1_4] 27 (0,0)) (by (with_reducible repeat (first|refine bU ?_ _|refine bW ?_|refine bT ?_ _));exact BK189.out) hb);replace HB:=aK (bG bLd hb);(try clear hb);(try clear hb2);(try clear hk);(try clear hi);(try clear ho0);obtain ⟨hcz12_0,hcz12_1,hcz12_2,hcz12_3,hcz12_4,hfz12_0,hfz12_1,hfz12_2,hfz12_3,hfz12_4⟩:=mG BK189;have p193:0≤(a3:Int):=bA fU;have q193:a3<(l1_0.length:Int):=bA fU;obtain ⟨ad193,e193,hx193_0⟩:=dA HR1_0.out a3 p193 q193;cases e193;replace hx193_0:=(HB.out.cell (bE w _ hx193_0)).trans hx193_0;replace p193:=bL p193;replace q193:=bL q193)|((with_reducible refine cD (f:=142) rfl ?_);refine dT (some 22) rfl rfl Tryz.func142 (by kernel_rfl) rfl #[.int .i64 (rd l1_0 a3)] rfl mO ?_;(with_reducible refine (vO (rd l1_0 a3) t194 _ A8.out).mono ?_);rintro e w' ⟨rfl,⟨nd,rfl⟩⟩;refine ⟨_,rfl,?_⟩))
   go_loopg [10] k (fun kq v10 w'=> ∃(x10_1:Int),v10= .int .i64 x10_1∧Aside0 (dC kq l2 a3 t190 x10_1 l1_0 a1_1 a1_2 a1_3 l1_4=some r)∧Aside0 (kq≤k)∧Aside0 (Kd.R Kd.bool 4 w' w.heap.size (fun _=>True) v191 t190)∧Aside0 (w'.heap[gb189]? =some (.cells #[(.slice (some ad193) l1_0.length c1_0),.int .i64 a1_1,.int .i64 a1_2,.int .i64 a1_3,(.slice A1_4 l1_4.length c1_4)] 27 (0,0)))∧Aside0 (Below w.heap.size w w'))
   case atStart=>exact ⟨(t194),kG,H',⟨bV _⟩,⟨by (with_reducible repeat (first|apply Kd.R_alloc|apply bZ|apply cE));exact HO192.out⟩,⟨by (with_reducible repeat (first|refine bU ?_ _|refine bW ?_|refine bT ?_ _));exact BK189.out⟩,⟨by repeat (first|(with_reducible first|exact HB.out|apply bI|apply bF|apply bH|refine bY ?_ GE189.out)|exact HB.out)⟩⟩
   case round =>
    clear H';(try clear c1);(try clear p1);(try clear q1);(try clear hx1);(try clear c2);(try clear p2);(try clear c6);(try clear c6b0);(try clear c7);(try clear c7b0);(try clear c9);(try clear c10);(try clear hcz10_0);(try clear hcz10_1);(try clear hcz10_2);(try clear hcz10_3);(try clear hcz10_4);(try clear hcz12_0);(try clear hcz12_1);(try clear hcz12_2);(try clear hcz12_3);(try clear hcz12_4);(try clear hfz10_0);(try clear hfz10_1);(try clear hfz10_2);(try clear hfz10_3);(try clear hfz10_4);(try clear hfz12_0);(try clear hfz12_1);(try clear hfz12_2);(try clear hfz12_3);(try clear hfz12_4);(try clear hx193_0);(try clear p193);(try clear q193);obtain ⟨x10_1,rfl,HA,HK1,HO_9,BK189,HB⟩:=hrel
    cases gk with
    |zero=>exact absurd HA.out (by simp [dC])
    | succ k1 =>
     have H:=HA.out;clear HA;simp only [dC] at H;by_cases c13:x10_1<(t190.length:Int)
     ·rw [if_pos c13] at H
      have c13b0:decide (x10_1<(t190.length:Int))=true:=bB c13
      clear c13;obtain ⟨ji14,hji14⟩: ∃j_:Int,(wrap64 (a3+x10_1))=j_:=⟨_,rfl⟩;replace H:(if 0≤(ji14) then (if (ji14)<(l1_0.length:Int) then (if 0≤x10_1 then (if fW false t190 x10_1=true then ((nE l2 (rd l1_0 (ji14))).bind fun t197=>(if t197=true then (fF k1 l2 a3 t190 x10_1 (rd l1_0 (ji14)) false l1_0 a1_1 a1_2 a1_3 l1_4) else (fF k1 l2 a3 t190 x10_1 (rd l1_0 (ji14)) true l1_0 a1_1 a1_2 a1_3 l1_4))) else ((rA (rd l1_0 (ji14))).bind fun t200=>(fF k1 l2 a3 t190 x10_1 (rd l1_0 (ji14)) (!t200) l1_0 a1_1 a1_2 a1_3 l1_4))) else (none)) else (none)) else (none))=some r:=by first|(rw [hji14] at H;exact H)|(simp only [hji14] at H ⊢;exact H)
      have hji14w:(IntKind.i64.wrap (a3+x10_1))=ji14:=(mC _).trans hji14
      by_cases c15:0≤(ji14)
      ·rw [if_pos c15] at H
       have c15b0:decide (0≤(ji14))=true:=bB c15
       clear c15;by_cases c16:(ji14)<(l1_0.length:Int)
       ·rw [if_pos c16] at H
        have c16b0:decide ((ji14)<(l1_0.length:Int))=true:=bB c16
        clear c16;have HC17:=aK H;clear H;obtain ⟨Ao18,co18,eo18⟩:=cH HO_9.out;subst eo18;obtain ⟨hcz19_0,hcz19_1,hcz19_2,hcz19_3,hcz19_4,hfz19_0,hfz19_1,hfz19_2,hfz19_3,hfz19_4⟩:=mG BK189;have p195:0≤((ji14):Int):=bA fU
        have q195:(ji14)<(l1_0.length:Int):=bA fU
        obtain ⟨ad195,e195,hx195_0⟩:=dA HR1_0.out (ji14) p195 q195;obtain rfl:ad193=ad195:=(by injection e195);replace hx195_0:=(HB.out.cell (bE w _ hx195_0)).trans hx195_0;replace p195:=bL p195;replace q195:=bL q195
        go_upto_region 6 with (fail)
        go_cut [57] (fun v57 wc=> ∃(kq:Nat) (x57_16:Bool),v57= .bool x57_16∧Aside0 (fF kq l2 a3 t190 x10_1 (rd l1_0 (ji14)) x57_16 l1_0 a1_1 a1_2 a1_3 l1_4=some r)∧Aside0 (kq≤k1)∧Aside0 (Kd.R Kd.bool 4 wc w.heap.size (fun _=>True) (.slice Ao18 t190.length co18) t190)∧Aside0 (wc.heap[gb189]? =some (.cells #[(.slice (some ad193) l1_0.length c1_0),.int .i64 a1_1,.int .i64 a1_2,.int .i64 a1_3,(.slice A1_4 l1_4.length c1_4)] 27 (0,0)))∧Aside0 (Below w.heap.size w wc))
        case first=>
         have H:=HC17.out;clear HC17;by_cases c20:0≤x10_1
         ·rw [if_pos c20] at H
          have c20b0:decide (0≤x10_1)=true:=bB c20
          clear c20
          (first|rw [c20b0]|(simp only [mC,qF];rw [c20b0])|skip)
          obtain ⟨bq21,hbq21⟩: ∃b_:Bool,b_=(fW false t190 x10_1):=⟨_,rfl⟩;replace H:(if bq21=true then ((nE l2 (rd l1_0 (ji14))).bind fun t197=>(if t197=true then (fF k1 l2 a3 t190 x10_1 (rd l1_0 (ji14)) false l1_0 a1_1 a1_2 a1_3 l1_4) else (fF k1 l2 a3 t190 x10_1 (rd l1_0 (ji14)) true l1_0 a1_1 a1_2 a1_3 l1_4))) else ((rA (rd l1_0 (ji14))).bind fun t200=>(fF k1 l2 a3 t190 x10_1 (rd l1_0 (ji14)) (!t200) l1_0 a1_1 a1_2 a1_3 l1_4)))=some r:=by rw [←hbq21] at H;exact H
          have Nbq21:=aK hbq21;clear hbq21;by_cases c22:bq21=true
          ·subst c22
           rw [if_pos rfl] at H;replace H:=Option.bind_eq_some_iff.mp H;obtain ⟨t197,A230,H⟩:=H;(try dsimp only at H);have A23:=aK A230;clear A230;by_cases c24:t197=true
           ·subst c24
            rw [if_pos rfl] at H;have H':=aK H;clear H;have p196:0≤(x10_1:Int):=bA fU
            have q196:x10_1<(t190.length:Int):=bA fU
            obtain ⟨ad196,e196,hx196_0⟩:=gQ (bR HO_9.out).2.2 x10_1 p196 q196
            (try rw [←Nbq21.out] at hx196_0)
            cases e196
            replace p196:=bL p196;replace q196:=bL q196
            go_wp2_with (first|(go_at_call 80;(with_reducible refine (pP _ _ l2 (rd l1_0 (ji14)) true _ ?side1 ?side2 A23.out).mono ?_);(case side1=>exact bLf);(case side2=>exact HC2.out);rintro e w' ⟨rfl,⟨nd,rfl⟩⟩;have p198:0≤(x10_1:Int):=bA fU;have q198:x10_1<(t190.length:Int):=bA fU;obtain ⟨ad198,e198,hx198_0⟩:=gQ (bR HO_9.out).2.2 x10_1 p198 q198;(try rw [←Nbq21.out] at hx198_0);obtain rfl:ad196=ad198:=(by injection e198);replace p198:=bL p198;replace q198:=bL q198))
            go_meet
            case rel=>exact ⟨_,(false),kG,H',⟨by have:=HK1.out;first|omega|exact bV _⟩,⟨by (with_reducible repeat (first|apply Kd.R_alloc|apply bZ|apply cE));exact HO_9.out⟩,⟨by (with_reducible repeat (first|refine bU ?_ _|refine bW ?_|refine bT ?_ _));exact BK189.out⟩,⟨by repeat (first|(with_reducible first|exact HB.out|apply bI|apply bF|apply bH|refine bY ?_ GE189.out)|exact HB.out)⟩⟩
           ·replace c24 := Bool.eq_false_iff.mpr c24
            subst c24;rw [if_neg (show¬(false=true) by decide)] at H;have H':=aK H;clear H;have p196:0≤(x10_1:Int):=bA fU
            have q196:x10_1<(t190.length:Int):=bA fU
            obtain ⟨ad196,e196,hx196_0⟩:=gQ (bR HO_9.out).2.2 x10_1 p196 q196
            (try rw [←Nbq21.out] at hx196_0)
            cases e196
            replace p196:=bL p196;replace q196:=bL q196
            go_wp2_with (first|(go_at_call 80;(with_reducible refine (pP _ _ l2 (rd l1_0 (ji14)) false _ ?side1 ?side2 A23.out).mono ?_);(case side1=>exact bLf);(case side2=>exact HC2.out);rintro e w' ⟨rfl,⟨nd,rfl⟩⟩))
            go_meet
            case rel=>exact ⟨_,(true),kG,H',⟨by have:=HK1.out;first|omega|exact bV _⟩,⟨by (with_reducible repeat (first|apply Kd.R_alloc|apply bZ|apply cE));exact HO_9.out⟩,⟨by (with_reducible repeat (first|refine bU ?_ _|refine bW ?_|refine bT ?_ _));exact BK189.out⟩,⟨by repeat (first|(with_reducible first|exact HB.out|apply bI|apply bF|apply bH|refine bY ?_ GE189.out)|exact HB.out)⟩⟩
          ·replace c22 := Bool.eq_false_iff.mpr c22
           subst c22;rw [if_neg (show¬(false=true) by decide)] at H;replace H:=Option.bind_eq_some_iff.mp H;obtain ⟨t200,A250,H⟩:=H;(try dsimp only at H);have A25:=aK A250;clear A250;have H':=aK H;clear H;have p196:0≤(x10_1:Int):=bA fU
           have q196:x10_1<(t190.length:Int):=bA fU
           obtain ⟨ad196,e196,hx196_0⟩:=gQ (bR HO_9.out).2.2 x10_1 p196 q196
           (try rw [←Nbq21.out] at hx196_0)
           cases e196
           replace p196:=bL p196;replace q196:=bL q196;have p199:0≤(x10_1:Int):=bA fU
           have q199:x10_1<(t190.length:Int):=bA fU
           obtain ⟨ad199,e199,hx199_0⟩:=gQ (bR HO_9.out).2.2 x10_1 p199 q199
           (try rw [←Nbq21.out] at hx199_0)
           obtain rfl:ad196=ad199:=(by injection e199);replace p199:=bL p199;replace q199:=bL q199
           go_wp2_with (first|(go_at_call 147;(with_reducible refine (bBh (rd l1_0 (ji14)) t200 _ A25.out).mono ?_);rintro e w' ⟨rfl,⟨nd,rfl⟩⟩))
           go_meet
           case rel=>exact ⟨_,(!t200),kG,H',⟨by have:=HK1.out;first|omega|exact bV _⟩,⟨by (with_reducible repeat (first|apply Kd.R_alloc|apply bZ|apply cE));exact HO_9.out⟩,⟨by (with_reducible repeat (first|refine bU ?_ _|refine bW ?_|refine bT ?_ _));exact BK189.out⟩,⟨by repeat (first|(with_reducible first|exact HB.out|apply bI|apply bF|apply bH|refine bY ?_ GE189.out)|exact HB.out)⟩⟩
         ·rw [if_neg c20] at H
          exact absurd H (by simp)
        case rest =>
         clear HC17;(try clear c1);(try clear p1);(try clear q1);(try clear hx1);(try clear c2);(try clear p2);(try clear q2);(try clear c6);(try clear c6b0);(try clear p6);(try clear c7);(try clear c7b0);(try clear c9);(try clear c10);(try clear c13);(try clear c13b0);(try clear c14);(try clear c15);(try clear c15b0);(try clear c16);(try clear c16b0);(try clear p19);(try clear q19);(try clear hx19);(try clear c20);(try clear c20b0);(try clear q21);(try clear c22);(try clear c24);(try clear hcz10_0);(try clear hcz10_1);(try clear hcz10_2);(try clear hcz10_3);(try clear hcz10_4);(try clear hcz12_0);(try clear hcz12_1);(try clear hcz12_2);(try clear hcz12_3);(try clear hcz12_4);(try clear hcz19_0);(try clear hcz19_1);(try clear hcz19_2);(try clear hcz19_3);(try clear hcz19_4);(try clear hfz10_0);(try clear hfz10_1);(try clear hfz10_2);(try clear hfz10_3);(try clear hfz10_4);(try clear hfz12_0);(try clear hfz12_1);(try clear hfz12_2);(try clear hfz12_3);(try clear hfz12_4);(try clear hfz19_0);(try clear hfz19_1);(try clear hfz19_2);(try clear hfz19_3);(try clear hfz19_4);(try clear hx193_0);(try clear hx195_0);(try clear hx196_0);(try clear hx198_0);(try clear hx199_0);(try clear p1);(try clear p193);(try clear p195);(try clear p196);(try clear p198);(try clear p199);(try clear p2);(try clear q1);(try clear q193);(try clear q195);(try clear q196);(try clear q198);(try clear q199);obtain ⟨kq,x57_16,rfl,HA,HJ16,HO_9,BK189,HB⟩:=hcut
         cases kq with
         |zero=>exact absurd HA.out (by simp [fF])
         | succ kj16 =>
          have H:=HA.out;clear HA;simp only [fF] at H;by_cases c26:x57_16=true
          ·subst c26
           rw [if_pos rfl] at H;obtain rfl:=bC H;go_wp2;go_ret;exact ⟨(by first|rfl|(simp [dF,dE]<;>rfl)|(simp only [←hji14];first|rfl|(simp [dF,dE]<;>rfl))|(simp [*,dF,dE]<;>rfl)),bLd⟩
          ·replace c26 := Bool.eq_false_iff.mpr c26
           subst c26;rw [if_neg (show¬(false=true) by decide)] at H;by_cases c27:0≤x10_1
           ·rw [if_pos c27] at H
            have c27b0:decide (0≤x10_1)=true:=bB c27
            clear c27;by_cases c28:x10_1<(t190.length:Int)
            ·rw [if_pos c28] at H
             have c28b0:decide (x10_1<(t190.length:Int))=true:=bB c28
             clear c28;obtain ⟨bq29,hbq29⟩: ∃b_:Bool,b_=(fW false t190 x10_1):=⟨_,rfl⟩;replace H:(if bq29=true then (if a3≥a1_1 then ((fC (rd l1_0 (ji14)) 1 a1_1).bind fun t202=>(if t202=true then (if 0≤(wrap64 (Int.tdiv (wrap64 ((wrap64 (a3+x10_1)) - a1_1)) 4)) then (if (wrap64 (Int.tdiv (wrap64 ((wrap64 (a3+x10_1)) - a1_1)) 4))<(l1_4.length:Int) then (if (fW false l1_4 (wrap64 (Int.tdiv (wrap64 ((wrap64 (a3+x10_1)) - a1_1)) 4))=true) then (dC kj16 l2 a3 t190 (wrap64 (x10_1+1)) l1_0 a1_1 a1_2 a1_3 l1_4) else (some false)) else (none)) else (none)) else (dC kj16 l2 a3 t190 (wrap64 (x10_1+1)) l1_0 a1_1 a1_2 a1_3 l1_4))) else (dC kj16 l2 a3 t190 (wrap64 (x10_1+1)) l1_0 a1_1 a1_2 a1_3 l1_4)) else (dC kj16 l2 a3 t190 (wrap64 (x10_1+1)) l1_0 a1_1 a1_2 a1_3 l1_4))=some r:=by rw [←hbq29] at H;exact H
             have Nbq29:=aK hbq29;clear hbq29;by_cases c30:bq29=true
             ·subst c30
              rw [if_pos rfl] at H;by_cases c31:a3≥a1_1
              ·rw [if_pos c31] at H
               have c31b0:decide (a1_1≤a3)=true:=bB c31
               clear c31;replace H:=Option.bind_eq_some_iff.mp H;obtain ⟨t202,A320,H⟩:=H;(try dsimp only at H);have A32:=aK A320;clear A320;by_cases c33:t202=true
               ·subst c33
                rw [if_pos rfl] at H;obtain ⟨ji34,hji34⟩: ∃j_:Int,(wrap64 (Int.tdiv (wrap64 ((wrap64 (a3+x10_1)) - a1_1)) 4))=j_:=⟨_,rfl⟩;replace H:(if 0≤(ji34) then (if (ji34)<(l1_4.length:Int) then (if (fW false l1_4 (ji34)=true) then (dC kj16 l2 a3 t190 (wrap64 (x10_1+1)) l1_0 a1_1 a1_2 a1_3 l1_4) else (some false)) else (none)) else (none))=some r:=by first|(rw [hji34] at H;exact H)|(simp only [hji34] at H ⊢;exact H)
                (try rw [hji34] at A32)
                have hji34w:(IntKind.i64.wrap (Int.tdiv (wrap64 ((wrap64 (a3+x10_1)) - a1_1)) 4))=ji34:=(mC _).trans hji34
                (try rw [hji14] at hji34w)
                by_cases c35:0≤(ji34)
                ·rw [if_pos c35] at H
                 have c35b0:decide (0≤(ji34))=true:=bB c35
                 clear c35;by_cases c36:(ji34)<(l1_4.length:Int)
                 ·rw [if_pos c36] at H
                  have c36b0:decide ((ji34)<(l1_4.length:Int))=true:=bB c36
                  clear c36;obtain ⟨bq37,hbq37⟩: ∃b_:Bool,b_=(fW false l1_4 (ji34)):=⟨_,rfl⟩;replace H:(if (bq37=true) then (dC kj16 l2 a3 t190 (wrap64 (x10_1+1)) l1_0 a1_1 a1_2 a1_3 l1_4) else (some false))=some r:=by rw [←hbq37] at H;exact H
                  have Nbq37:=aK hbq37;clear hbq37;by_cases c38:(bq37=true)
                  ·subst c38
                   rw [if_pos rfl] at H;have H':=aK H;clear H;have p201:0≤(x10_1:Int):=bA fU
                   have q201:x10_1<(t190.length:Int):=bA fU
                   obtain ⟨ad201,e201,hx201_0⟩:=gQ (bR HO_9.out).2.2 x10_1 p201 q201
                   (try rw [←Nbq29.out] at hx201_0)
                   (try rw [←Nbq37.out] at hx201_0)
                   cases e201
                   replace p201:=bL p201;replace q201:=bL q201;obtain ⟨hcz39_0,hcz39_1,hcz39_2,hcz39_3,hcz39_4,hfz39_0,hfz39_1,hfz39_2,hfz39_3,hfz39_4⟩:=mG BK189
                   go_wp2_with (first|(go_at_call 129;(with_reducible refine (cZ (rd l1_0 (ji14)) 1 a1_1 true _ A32.out).mono ?_);rintro e w' ⟨rfl,⟨nd,rfl⟩⟩;have p203:0≤((ji34):Int):=bA fU;have q203:(ji34)<(l1_4.length:Int):=bA fU;obtain ⟨ad203,e203,hx203_0⟩:=gQ HR1_4.out (ji34) p203 q203;(try rw [←Nbq29.out] at hx203_0);(try rw [←Nbq37.out] at hx203_0);cases e203;replace hx203_0:=(HB.out.cell (bE w _ hx203_0)).trans hx203_0;replace p203:=bL p203;replace q203:=bL q203))
                   go_roundg kj16
                   case measure=>have:=HK1.out;have:=HJ16.out;omega
                   case rel=>exact ⟨(wrap64 (x10_1+1)),kG,H',⟨by have:=HK1.out;have:=HJ16.out;omega⟩,⟨by (with_reducible repeat (first|apply Kd.R_alloc|apply bZ|apply cE));exact HO_9.out⟩,⟨by (with_reducible repeat (first|refine bU ?_ _|refine bW ?_|refine bT ?_ _));exact BK189.out⟩,⟨by repeat (first|(with_reducible first|exact HB.out|apply bI|apply bF|apply bH|refine bY ?_ GE189.out)|exact HB.out)⟩⟩
                  ·replace c38 := Bool.eq_false_iff.mpr c38
                   subst c38;rw [if_neg (show¬(false=true) by decide)] at H;obtain rfl:=bC H;have p201:0≤(x10_1:Int):=bA fU
                   have q201:x10_1<(t190.length:Int):=bA fU
                   obtain ⟨ad201,e201,hx201_0⟩:=gQ (bR HO_9.out).2.2 x10_1 p201 q201
                   (try rw [←Nbq29.out] at hx201_0)
                   (try rw [←Nbq37.out] at hx201_0)
                   cases e201
                   replace p201:=bL p201;replace q201:=bL q201;obtain ⟨hcz40_0,hcz40_1,hcz40_2,hcz40_3,hcz40_4,hfz40_0,hfz40_1,hfz40_2,hfz40_3,hfz40_4⟩:=mG BK189
                   go_wp2_with (first|(go_at_call 129;(with_reducible refine (cZ (rd l1_0 (ji14)) 1 a1_1 true _ A32.out).mono ?_);rintro e w' ⟨rfl,⟨nd,rfl⟩⟩;have p203:0≤((ji34):Int):=bA fU;have q203:(ji34)<(l1_4.length:Int):=bA fU;obtain ⟨ad203,e203,hx203_0⟩:=gQ HR1_4.out (ji34) p203 q203;(try rw [←Nbq29.out] at hx203_0);(try rw [←Nbq37.out] at hx203_0);cases e203;replace hx203_0:=(HB.out.cell (bE w _ hx203_0)).trans hx203_0;replace p203:=bL p203;replace q203:=bL q203))
                   go_ret;exact ⟨(by first|rfl|(simp [dF,dE]<;>rfl)|(simp only [←hji14,←hji34];first|rfl|(simp [dF,dE]<;>rfl))|(simp [*,dF,dE]<;>rfl)),bLd⟩
                 ·rw [if_neg c36] at H
                  exact absurd H (by simp)
                ·rw [if_neg c35] at H
                 exact absurd H (by simp)
               ·replace c33 := Bool.eq_false_iff.mpr c33
                subst c33;rw [if_neg (show¬(false=true) by decide)] at H;have H':=aK H;clear H;have p201:0≤(x10_1:Int):=bA fU
                have q201:x10_1<(t190.length:Int):=bA fU
                obtain ⟨ad201,e201,hx201_0⟩:=gQ (bR HO_9.out).2.2 x10_1 p201 q201
                (try rw [←Nbq29.out] at hx201_0)
                cases e201
                replace p201:=bL p201;replace q201:=bL q201;obtain ⟨hcz41_0,hcz41_1,hcz41_2,hcz41_3,hcz41_4,hfz41_0,hfz41_1,hfz41_2,hfz41_3,hfz41_4⟩:=mG BK189
                go_wp2_with (first|(go_at_call 129;(with_reducible refine (cZ (rd l1_0 (ji14)) 1 a1_1 false _ A32.out).mono ?_);rintro e w' ⟨rfl,⟨nd,rfl⟩⟩))
                go_roundg kj16
                case measure=>have:=HK1.out;have:=HJ16.out;omega
                case rel=>exact ⟨(wrap64 (x10_1+1)),kG,H',⟨by have:=HK1.out;have:=HJ16.out;omega⟩,⟨by (with_reducible repeat (first|apply Kd.R_alloc|apply bZ|apply cE));exact HO_9.out⟩,⟨by (with_reducible repeat (first|refine bU ?_ _|refine bW ?_|refine bT ?_ _));exact BK189.out⟩,⟨by repeat (first|(with_reducible first|exact HB.out|apply bI|apply bF|apply bH|refine bY ?_ GE189.out)|exact HB.out)⟩⟩
              ·rw [if_neg c31] at H
               have c31b0:decide (a1_1≤a3)=false:=bJ c31
               clear c31;have H':=aK H;clear H;have p201:0≤(x10_1:Int):=bA fU
               have q201:x10_1<(t190.length:Int):=bA fU
               obtain ⟨ad201,e201,hx201_0⟩:=gQ (bR HO_9.out).2.2 x10_1 p201 q201
               (try rw [←Nbq29.out] at hx201_0)
               cases e201
               replace p201:=bL p201;replace q201:=bL q201;obtain ⟨hcz42_0,hcz42_1,hcz42_2,hcz42_3,hcz42_4,hfz42_0,hfz42_1,hfz42_2,hfz42_3,hfz42_4⟩:=mG BK189;go_wp2
               go_roundg kj16
               case measure=>have:=HK1.out;have:=HJ16.out;omega
               case rel=>exact ⟨(wrap64 (x10_1+1)),kG,H',⟨by have:=HK1.out;have:=HJ16.out;omega⟩,⟨by (with_reducible repeat (first|apply Kd.R_alloc|apply bZ|apply cE));exact HO_9.out⟩,⟨by (with_reducible repeat (first|refine bU ?_ _|refine bW ?_|refine bT ?_ _));exact BK189.out⟩,⟨by repeat (first|(with_reducible first|exact HB.out|apply bI|apply bF|apply bH|refine bY ?_ GE189.out)|exact HB.out)⟩⟩
             ·replace c30 := Bool.eq_false_iff.mpr c30
              subst c30;rw [if_neg (show¬(false=true) by decide)] at H;have H':=aK H;clear H;have p201:0≤(x10_1:Int):=bA fU
              have q201:x10_1<(t190.length:Int):=bA fU
              obtain ⟨ad201,e201,hx201_0⟩:=gQ (bR HO_9.out).2.2 x10_1 p201 q201
              (try rw [←Nbq29.out] at hx201_0)
              cases e201
              replace p201:=bL p201;replace q201:=bL q201;go_wp2
              go_roundg kj16
              case measure=>have:=HK1.out;have:=HJ16.out;omega
              case rel=>exact ⟨(wrap64 (x10_1+1)),kG,H',⟨by have:=HK1.out;have:=HJ16.out;omega⟩,⟨by (with_reducible repeat (first|apply Kd.R_alloc|apply bZ|apply cE));exact HO_9.out⟩,⟨by (with_reducible repeat (first|refine bU ?_ _|refine bW ?_|refine bT ?_ _));exact BK189.out⟩,⟨by repeat (first|(with_reducible first|exact HB.out|apply bI|apply bF|apply bH|refine bY ?_ GE189.out)|exact HB.out)⟩⟩
            ·rw [if_neg c28] at H
             exact absurd H (by simp)
           ·rw [if_neg c27] at H
            exact absurd H (by simp)
       ·rw [if_neg c16] at H
        exact absurd H (by simp)
      ·rw [if_neg c15] at H
       exact absurd H (by simp)
     ·rw [if_neg c13] at H
      have c13b0:decide (x10_1<(t190.length:Int))=false:=bJ c13
      clear c13;obtain rfl:=bC H;obtain ⟨Ao43,co43,eo43⟩:=cH HO_9.out;subst eo43;go_wp2;go_ret;exact ⟨sL,bLd⟩
  ·rw [if_neg c7] at H
   exact absurd H (by simp)
 ·rw [if_neg c6] at H
  exact absurd H (by simp)
end Go.Proofs.YtbaklikaoleplaaGreat.K
namespace Go.Proofs.YtbaklikaoleplaaGreat.K
open Go.RowKit Go.Proofs.YtbaklikaoleplaaGreatW.PrintWords Go.Proofs.YtbaklikaoleplaaGreatW.PrintLast Go.Proofs.YtbaklikaoleplaaGreatW.PrintMore
attribute [local go_sem] gV gT jT jS fY fX gU gR
set_option linter.unusedVariables false
set_option linter.unusedSimpArgs false
def jG:Nat→List (S78)→List Int→Int→Int→List Int→Option (List Int×Bool)
  |0,_,_,_,_,_=>none
  |k+1,x0,x1,x2,x3,x10=>if x2<x3 then ((kN k x0 x1 x2 x3).bind fun t133=>(if t133=0 then (some (x10,false)) else (if x10.length<17592186044416 then (jG k x0 x1 (wrap64 (x2+t133)) x3 (x10++[x2])) else (none)))) else (some (x10,true))
def nD (k:Nat) (l0:List (S78)) (l1:List Int) (a2:Int) (a3:Int):Option (List Int×Bool):=jG k l0 l1 a2 a3 (([]:List Int))
theorem pO (k:Nat) (A0:Option Addr) (c0:Nat) (l0:List (S78)) (A1:Option Addr) (c1:Nat) (l1:List Int) (a2:Int) (a3:Int) (r1:List Int) (r2:Bool) (w:World) (hr0:Kd.C yD w A0 l0.length l0) (hc0:l0.length≤c0) (hr1:Kd.C (Kd.int .i64) w A1 l1.length l1) (hc1:l1.length≤c1) (h:nD k l0 l1 a2 a3=some (r1,r2)):
  Calls Tryz.prog 82 #[.slice A0 l0.length c0,.slice A1 l1.length c1,.int .i64 a2,.int .i64 a3] w fun e w'=> ∃v0_:Value,e= .returned (.tuple #[v0_,.bool r2])∧Kd.R (Kd.int .i64) 3 w' w.heap.size (fun _=>True) v0_ r1∧Below w.heap.size w w':=by
 have HR0:=aK hr0;have HC0:=aK hc0;clear hr0 hc0;have HR1:=aK hr1;have HC1:=aK hc1;clear hr1 hc1;have HB:=aK (bQ w.heap.size w);have H:(jG k l0 l1 a2 a3 (([]:List Int)))=some (r1,r2):=h
 clear h;obtain ⟨y130,hy130⟩: ∃y_:List Int,y_=(([]:List Int)):=⟨_,rfl⟩;replace H:(jG k l0 l1 a2 a3 y130)=some (r1,r2):=by first|(rw [hy130];with_reducible exact H)|(have H2_:=(bD _ _).symm.trans H;rw [hy130];with_reducible exact H2_)|(have H2_:=(bD _ _).symm.trans H;with_reducible exact H2_)|with_reducible exact H|(rw [hy130];exact H)|exact H
 have Ny130:=aK hy130;clear hy130;have H':=aK H;clear H;go_enter Tryz.func82,Tryz.ntmps82
 go_wp2_with (first|((with_reducible refine dG (N:=12) rfl ?_);refine Kd.R_lit (Kd.int .i64) _ 3 ?hg (N:=12) ?hd (xs:=([]:List Int)) (inner:=[]) (ok:=fun _=>True) (okp:=fun _=>True) ?hr ?hp (fun _ hk=>hk) gG (bQ _ _) (bV _) (by simp) ?_;(case hd=>rfl);(case hg=>rfl);(case hr=>first|(go_simp;done)|(go_simp;rfl));(case hp=>exact (pB.none _ _));intro v131 w5 ho6 hb hg_ hnew_;clear hg_ hnew_;(first|rw [←Ny130.out] at ho6|(simp only [Int.reduceToNat] at ho6;rw [←Ny130.out] at ho6));have HO132:=aK (dR ho6 (bN jR));replace HB:=aK (bG jR hb);clear hb ho6))
 go_loopg [2,10] k (fun kq v2 v10 w'=> ∃(x2_1:Int) (x10_1:List Int),v2= .int .i64 x2_1∧Aside0 (jG kq l0 l1 x2_1 a3 x10_1=some (r1,r2))∧Aside0 (kq≤k)∧Aside0 (Kd.R (Kd.int .i64) 3 w' w.heap.size (fun _=>True) v10 x10_1)∧Aside0 (Below w.heap.size w w'))
 case atStart=>exact ⟨(a2),(y130),kG,H',⟨bV _⟩,⟨by (with_reducible repeat (first|apply Kd.R_alloc|apply bZ|apply cE));exact HO132.out⟩,⟨by repeat (first|(with_reducible first|exact HB.out|apply bI|apply bF|apply bH)|exact HB.out)⟩⟩
 case round =>
  clear H';(try clear c1);(try clear p2);obtain ⟨x2_1,x10_1,rfl,HA,HK1,HO_10,HB⟩:=hrel
  cases gk with
  |zero=>exact absurd HA.out (by simp [jG])
  | succ k1 =>
   have H:=HA.out;clear HA;simp only [jG] at H;by_cases c7:x2_1<a3
   ·rw [if_pos c7] at H
    have c7b0:decide (x2_1<a3)=true:=bB c7
    clear c7;replace H:=Option.bind_eq_some_iff.mp H;obtain ⟨t133,A80,H⟩:=H;(try dsimp only at H);have A8:=aK A80;clear A80;by_cases c9:t133=0
    ·rw [if_pos c9] at H
     have c9b0:(t133==0)=true:=beq_iff_eq.mpr c9
     have c9b1:(t133 !=0)=false:=bne_eq_false_iff_eq.mpr c9
     clear c9;simp only [fE,Prod.mk.injEq] at H;obtain ⟨rfl,rfl⟩:=H
     go_wp2_with (first|((with_reducible refine cD (f:=85) rfl ?_);refine dT (some 20) rfl rfl Tryz.func85 (by kernel_rfl) rfl #[.slice A0 l0.length c0,.slice A1 l1.length c1,.int .i64 x2_1,.int .i64 a3] rfl mO ?_;(with_reducible refine (rH k1 _ _ l0 _ _ l1 x2_1 a3 t133 _ ?side1 ?side2 ?side3 ?side4 A8.out).mono ?_);(case side1=>exact zF);(case side2=>exact HC0.out);(case side3=>exact (by repeat (first|exact (bS HR1.out HB.out)|(with_reducible refine Kd.C_alloc ?_ _)|(with_reducible refine Kd.C_drewN ?_ _)|(with_reducible refine Kd.C_drew ?_))));(case side4=>exact HC1.out);rintro e w10 ⟨rfl,hb⟩;refine ⟨_,rfl,?_⟩;replace HO_10:=aK (cA (by (with_reducible repeat (first|apply Kd.R_alloc|apply bZ|apply cE));exact HO_10.out) hb);replace HB:=aK (bG jR hb);(try clear hb);(try clear hb2);(try clear hk);(try clear hi)))
     go_ret2
     exact ⟨_,by first|rfl|(simp [dF,dE]<;>rfl)|(simp [*,dF,dE]<;>rfl),by (with_reducible repeat (first|apply Kd.R_alloc|apply bZ|apply cE));exact HO_10.out,by repeat (first|(with_reducible first|exact HB.out|apply bI|apply bF|apply bH)|exact HB.out)⟩
    ·rw [if_neg c9] at H
     have c9b0:(t133==0)=false:=tP.mpr c9
     have c9b1:(t133 !=0)=true:=bne_iff_ne.mpr c9
     by_cases c11:x10_1.length<17592186044416
     ·rw [if_pos c11] at H
      have LMc11:=aK c11;clear c11;obtain ⟨y134,hy134⟩: ∃y_:List Int,y_=(x10_1++[x2_1]):=⟨_,rfl⟩;replace H:(jG k1 l0 l1 (wrap64 (x2_1+t133)) a3 y134)=some (r1,r2):=by first|(rw [hy134];with_reducible exact H)|(have H2_:=(bD _ _).symm.trans H;rw [hy134];with_reducible exact H2_)|(have H2_:=(bD _ _).symm.trans H;with_reducible exact H2_)|with_reducible exact H|(rw [hy134];exact H)|exact H
      have Ny134:=aK hy134;clear hy134;have H':=aK H;clear H
      go_wp2_with (first|((with_reducible refine cD (f:=85) rfl ?_);refine dT (some 20) rfl rfl Tryz.func85 (by kernel_rfl) rfl #[.slice A0 l0.length c0,.slice A1 l1.length c1,.int .i64 x2_1,.int .i64 a3] rfl mO ?_;(with_reducible refine (rH k1 _ _ l0 _ _ l1 x2_1 a3 t133 _ ?side1 ?side2 ?side3 ?side4 A8.out).mono ?_);(case side1=>exact zF);(case side2=>exact HC0.out);(case side3=>exact (by repeat (first|exact (bS HR1.out HB.out)|(with_reducible refine Kd.C_alloc ?_ _)|(with_reducible refine Kd.C_drewN ?_ _)|(with_reducible refine Kd.C_drew ?_))));(case side4=>exact HC1.out);rintro e w12 ⟨rfl,hb⟩;refine ⟨_,rfl,?_⟩;replace HO_10:=aK (cA (by (with_reducible repeat (first|apply Kd.R_alloc|apply bZ|apply cE));exact HO_10.out) hb);replace HB:=aK (bG jR hb);(try clear hb);(try clear hb2);(try clear hk);(try clear hi))|((with_reducible refine kR (b:= .append) (xs:= #[.tmp 24,.tmp 26]) rfl ?_);at_builtin;refine Kd.R_append (Kd.int .i64) (w0:=w) w.heap.size rfl (.tmp 24) (.tmp 26) 24 3 (.int .i64 0) 8 rfl Tryz.underlying24 tB rfl (by decide) (by omega) u10 x10_1 x2_1 [.int .i64 x2_1] (fun _=>True) (fun _=>False) rfl rfl ?aP (fun _ hk=>hk.elim) ?aF ?aO ?aB ?aS ?aL ?_;(case aP=>exact rfl);(case aB=>exact jR);(case aF=>exact (fun _ _=>trivial));(case aO=>exact (by (with_reducible repeat (first|apply Kd.R_alloc|apply bZ|apply cE));exact HO_10.out));(case aS=>exact (bN jR));(case aL=>have:=LMc11.out;omega);intro v135 w13 ho hb hg hat;rw [←Ny134.out] at ho;have n0_:=aK (hb);have n1_:=aK (ho);clear HB;clear HO_10;have HB:=n0_;have HO136:=n1_;clear n0_ n1_;clear ho hb hg hat))
      go_roundg k1
      case measure=>have:=HK1.out;omega
      case rel=>exact ⟨(wrap64 (x2_1+t133)),(y134),kG,H',⟨by have:=HK1.out;omega⟩,⟨by (with_reducible repeat (first|apply Kd.R_alloc|apply bZ|apply cE));exact HO136.out⟩,⟨by repeat (first|(with_reducible first|exact HB.out|apply bI|apply bF|apply bH)|exact HB.out)⟩⟩
     ·rw [if_neg c11] at H
      exact absurd H (by simp)
   ·rw [if_neg c7] at H
    have c7b0:decide (x2_1<a3)=false:=bJ c7
    clear c7;simp only [fE,Prod.mk.injEq] at H;obtain ⟨rfl,rfl⟩:=H;go_wp2
    go_ret2
    exact ⟨_,by first|rfl|(simp [dF,dE]<;>rfl)|(simp [*,dF,dE]<;>rfl),by (with_reducible repeat (first|apply Kd.R_alloc|apply bZ|apply cE));exact HO_10.out,by repeat (first|(with_reducible first|exact HB.out|apply bI|apply bF|apply bH)|exact HB.out)⟩
end Go.Proofs.YtbaklikaoleplaaGreat.K
namespace Go.Proofs.YtbaklikaoleplaaGreat.K
open Go.RowKit Go.Proofs.YtbaklikaoleplaaGreatW.PrintWords Go.Proofs.YtbaklikaoleplaaGreatW.PrintLast Go.Proofs.YtbaklikaoleplaaGreatW.PrintMore
attribute [local go_sem] gV gT jT jS fY fX gU gR
set_option linter.unusedVariables false
set_option linter.unusedSimpArgs false
def jF (k:Nat) (l0:List (S78)) (l1_0:List Int) (a1_1:Int) (a1_2:Int) (a1_3:Int) (l1_4:List Bool):Option (List Int×Bool):=(nD k l0 l1_0 0 a1_2).bind fun bt138=>((nD k l0 l1_0 a1_1 a1_3).bind fun bt142=>(if bt138.1.length+bt142.1.length<17592186044416 then ((some (bt138.1++bt142.1:List Int)).bind fun y146=>(if bt138.2=true then (some (y146,bt142.2)) else (some (y146,false)))) else (none)))
theorem rG (k:Nat) (A0:Option Addr) (c0:Nat) (l0:List (S78)) (A1_0:Option Addr) (c1_0:Nat) (l1_0:List Int) (a1_1:Int) (a1_2:Int) (a1_3:Int) (A1_4:Option Addr) (c1_4:Nat) (l1_4:List Bool) (r1:List Int) (r2:Bool) (w:World) (hr0:Kd.C yD w A0 l0.length l0) (hc0:l0.length≤c0) (hr1_0:Kd.C (Kd.int .i64) w A1_0 l1_0.length l1_0) (hc1_0:l1_0.length≤c1_0) (hr1_4:Kd.C Kd.bool w A1_4 l1_4.length l1_4) (hc1_4:l1_4.length≤c1_4) (h:jF k l0 l1_0 a1_1 a1_2 a1_3 l1_4=some (r1,r2)):
  Calls Tryz.prog 78 #[.slice A0 l0.length c0,.agg #[.slice A1_0 l1_0.length c1_0,.int .i64 a1_1,.int .i64 a1_2,.int .i64 a1_3,.slice A1_4 l1_4.length c1_4]] w fun e w'=> ∃v0_:Value,e= .returned (.tuple #[v0_,.bool r2])∧Kd.R (Kd.int .i64) 3 w' w.heap.size (fun _=>True) v0_ r1∧Below w.heap.size w w':=by
 have hu27:=Tryz.underlying27;have HR0:=aK hr0;have HC0:=aK hc0;clear hr0 hc0;have HR1_0:=aK hr1_0;have HC1_0:=aK hc1_0;clear hr1_0 hc1_0;have HR1_4:=aK hr1_4;have HC1_4:=aK hc1_4;clear hr1_4 hc1_4;have HB:=aK (bQ w.heap.size w);have H:((nD k l0 l1_0 0 a1_2).bind fun bt138=>((nD k l0 l1_0 a1_1 a1_3).bind fun bt142=>(if bt138.1.length+bt142.1.length<17592186044416 then ((some (bt138.1++bt142.1:List Int)).bind fun y146=>(if bt138.2=true then (some (y146,bt142.2)) else (some (y146,false)))) else (none))))=some (r1,r2):=h
 clear h;replace H:=Option.bind_eq_some_iff.mp H;obtain ⟨⟨t138,t139⟩,A30,H⟩:=H;(try dsimp only at H);have A3:=aK A30;clear A30;replace H:=Option.bind_eq_some_iff.mp H;obtain ⟨⟨t142,t143⟩,A40,H⟩:=H;(try dsimp only at H);have A4:=aK A40;clear A40;by_cases c5:t138.length+t142.length<17592186044416
 ·rw [if_pos c5] at H
  have LMc5:=aK c5;clear c5;obtain ⟨y146,hy146⟩: ∃y_:List Int,y_=(t138++t142):=⟨_,rfl⟩;replace H:(if t139=true then (some (y146,t143)) else (some (y146,false)))=some (r1,r2):=by first|(rw [hy146];with_reducible exact H)|(have H2_:=(bD _ _).symm.trans H;rw [hy146];with_reducible exact H2_)|(have H2_:=(bD _ _).symm.trans H;with_reducible exact H2_)|with_reducible exact H|(rw [hy146];exact H)|exact H
  have Ny146:=aK hy146;clear hy146;by_cases c6:t139=true
  ·subst c6
   rw [if_pos rfl] at H;simp only [fE,Prod.mk.injEq] at H;obtain ⟨rfl,rfl⟩:=H;go_enter Tryz.func78,Tryz.ntmps78
   go_wp2_with (first|((with_reducible refine dG (N:=3) rfl ?_);refine dN ?hg (N:=3) ?hd (cs:= #[.slice A1_0 l1_0.length c1_0,.int .i64 a1_1,.int .i64 a1_2,.int .i64 a1_3,.slice A1_4 l1_4.length c1_4]) (t:=27) ?hr ?_;(case hd=>rfl);(case hg=>rfl);(case hr=>first|(go_simp;done)|(go_simp;rfl));intro gb137 hg w7 hbox hb;have BK137:=aK (hbox);have GW137:=aK ((by rw [hg];exact (bN jR):w.heap.size≤gb137));have GE137:=aK ((by rw [hg];exact (bN jR):w.heap.size≤gb137));replace HB:=aK (bG jR hb);clear hb hbox hg;obtain ⟨hcz8_0,hcz8_1,hcz8_2,hcz8_3,hcz8_4,hfz8_0,hfz8_1,hfz8_2,hfz8_3,hfz8_4⟩:=mG BK137)|((with_reducible refine cD (f:=82) rfl ?_);refine dT (some 16) rfl rfl Tryz.func82 (by kernel_rfl) rfl #[.slice A0 l0.length c0,.slice A1_0 l1_0.length c1_0,.int .i64 0,.int .i64 a1_2] rfl mO ?_;(with_reducible refine (pO k _ _ l0 _ _ l1_0 0 a1_2 t138 true _ ?side1 ?side2 ?side3 ?side4 A3.out).mono ?_);(case side1=>exact zF);(case side2=>exact HC0.out);(case side3=>exact bCx);(case side4=>exact HC1_0.out);rintro e w9 ⟨v140,rfl,ho0,hb⟩;refine ⟨_,rfl,?_⟩;have HO141:=aK (dR ho0 (bN bDa));replace BK137:=aK (cJ (g:=gb137) (o:= .cells #[.slice A1_0 l1_0.length c1_0,.int .i64 a1_1,.int .i64 a1_2,.int .i64 a1_3,.slice A1_4 l1_4.length c1_4] 27 (0,0)) bJz hb);replace HB:=aK (bG bDa hb);(try clear hb);(try clear hb2);(try clear hk);(try clear hi);(try clear ho0);obtain ⟨hcz10_0,hcz10_1,hcz10_2,hcz10_3,hcz10_4,hfz10_0,hfz10_1,hfz10_2,hfz10_3,hfz10_4⟩:=mG BK137)|((with_reducible refine cD (f:=82) rfl ?_);refine dT (some 27) rfl rfl Tryz.func82 (by kernel_rfl) rfl #[.slice A0 l0.length c0,.slice A1_0 l1_0.length c1_0,.int .i64 a1_1,.int .i64 a1_3] rfl mO ?_;(with_reducible refine (pO k _ _ l0 _ _ l1_0 a1_1 a1_3 t142 t143 _ ?side1 ?side2 ?side3 ?side4 A4.out).mono ?_);(case side1=>exact zF);(case side2=>exact HC0.out);(case side3=>exact bCx);(case side4=>exact HC1_0.out);rintro e w11 ⟨v144,rfl,ho0,hb⟩;refine ⟨_,rfl,?_⟩;have HO145:=aK (dR (Kd.R_new' ho0 (rN (by (with_reducible repeat (first|apply Kd.R_alloc|apply bZ|apply cE));exact HO141.out))) (bN bDa));replace HO141:=aK (Kd.R_elder' (by (with_reducible repeat (first|apply Kd.R_alloc|apply bZ|apply cE));exact HO141.out) (rU ho0) hb);replace BK137:=aK (cJ (g:=gb137) (o:= .cells #[.slice A1_0 l1_0.length c1_0,.int .i64 a1_1,.int .i64 a1_2,.int .i64 a1_3,.slice A1_4 l1_4.length c1_4] 27 (0,0)) bJz hb);replace HB:=aK (bG bDa hb);(try clear hb);(try clear hb2);(try clear hk);(try clear hi);(try clear ho0);obtain ⟨Ao13,co13,eo13⟩:=cH HO145.out;subst eo13)|((with_reducible refine kR (b:= .append) (xs:= #[.tmp 30,.tmp 31]) rfl ?_);at_builtin;refine Kd.R_append_rows (Kd.int .i64) (w0:=w) w.heap.size rfl (.tmp 30) (.tmp 31) 24 3 (.int .i64 0) 8 rfl Tryz.underlying24 tB rfl (by decide) (by omega) v140 t138 t142 _ _ _ (fun k_=>some k_≠(.slice Ao13 t142.length co13:Value).ownBlock) (fun _=>False) rfl rfl ?aO ?aR (fun _ _ h=>h) (fun _ h=>h.elim) ?aF ?aB ?aS ?aL ?_;(case aR=>repeat (first|exact (bR HO145.out).2.2|(with_reducible refine Kd.C_alloc ?_ _)|(with_reducible refine Kd.C_drewN ?_ _)|(with_reducible refine Kd.C_drew ?_)));(case aB=>exact bDa);(case aF=>exact (fun k_ hk=>Kd.fresh' (rN (by (with_reducible repeat (first|apply Kd.R_alloc|apply bZ|apply cE));exact HO145.out)) k_ hk));(case aO=>exact (by (with_reducible repeat (first|apply Kd.R_alloc|apply bZ|apply cE));exact fG HO141.out (fun _ hk=>hk.2)));(case aS=>exact (bN bDa));(case aL=>have:=LMc5.out;omega);intro v147 w12 ho hb hg hat;rw [←Ny146.out] at ho;have n0_:=aK (qJ (g:=gb137) (o:= .cells #[.slice A1_0 l1_0.length c1_0,.int .i64 a1_1,.int .i64 a1_2,.int .i64 a1_3,.slice A1_4 l1_4.length c1_4] 27 (0,0)) bJz hg (Kd.R_ne HO141.out BK137.out (by decide)));have n1_:=aK (Kd.R_after (ok:=(fun _=>True)) (by (with_reducible repeat (first|apply Kd.R_alloc|apply bZ|apply cE));exact HO145.out) hg hat);have n2_:=aK (hb);have n3_:=aK (ho);clear BK137;clear HO145;clear HB;clear HO141;have BK137:=n0_;have HO145:=n1_;have HB:=n2_;have HO148:=n3_;clear n0_ n1_ n2_ n3_;clear ho hb hg hat))
   go_ret2
   exact ⟨_,by first|rfl|(simp [dF,dE]<;>rfl)|(simp [*,dF,dE]<;>rfl),by (with_reducible repeat (first|apply Kd.R_alloc|apply bZ|apply cE));exact fG HO148.out (fun _ hk=>trivial),by repeat (first|(with_reducible first|exact HB.out|apply bI|apply bF|apply bH|refine bY ?_ GE137.out)|exact HB.out)⟩
  ·replace c6 := Bool.eq_false_iff.mpr c6
   subst c6;rw [if_neg (show¬(false=true) by decide)] at H;simp only [fE,Prod.mk.injEq] at H;obtain ⟨rfl,rfl⟩:=H;go_enter Tryz.func78,Tryz.ntmps78
   go_wp2_with (first|((with_reducible refine dG (N:=3) rfl ?_);refine dN ?hg (N:=3) ?hd (cs:= #[.slice A1_0 l1_0.length c1_0,.int .i64 a1_1,.int .i64 a1_2,.int .i64 a1_3,.slice A1_4 l1_4.length c1_4]) (t:=27) ?hr ?_;(case hd=>rfl);(case hg=>rfl);(case hr=>first|(go_simp;done)|(go_simp;rfl));intro gb137 hg w14 hbox hb;have BK137:=aK (hbox);have GW137:=aK ((by rw [hg];exact (bN jR):w.heap.size≤gb137));have GE137:=aK ((by rw [hg];exact (bN jR):w.heap.size≤gb137));replace HB:=aK (bG jR hb);clear hb hbox hg;obtain ⟨hcz15_0,hcz15_1,hcz15_2,hcz15_3,hcz15_4,hfz15_0,hfz15_1,hfz15_2,hfz15_3,hfz15_4⟩:=mG BK137)|((with_reducible refine cD (f:=82) rfl ?_);refine dT (some 16) rfl rfl Tryz.func82 (by kernel_rfl) rfl #[.slice A0 l0.length c0,.slice A1_0 l1_0.length c1_0,.int .i64 0,.int .i64 a1_2] rfl mO ?_;(with_reducible refine (pO k _ _ l0 _ _ l1_0 0 a1_2 t138 false _ ?side1 ?side2 ?side3 ?side4 A3.out).mono ?_);(case side1=>exact zF);(case side2=>exact HC0.out);(case side3=>exact bCx);(case side4=>exact HC1_0.out);rintro e w16 ⟨v140,rfl,ho0,hb⟩;refine ⟨_,rfl,?_⟩;have HO141:=aK (dR ho0 (bN bDa));replace BK137:=aK (cJ (g:=gb137) (o:= .cells #[.slice A1_0 l1_0.length c1_0,.int .i64 a1_1,.int .i64 a1_2,.int .i64 a1_3,.slice A1_4 l1_4.length c1_4] 27 (0,0)) bJz hb);replace HB:=aK (bG bDa hb);(try clear hb);(try clear hb2);(try clear hk);(try clear hi);(try clear ho0);obtain ⟨hcz17_0,hcz17_1,hcz17_2,hcz17_3,hcz17_4,hfz17_0,hfz17_1,hfz17_2,hfz17_3,hfz17_4⟩:=mG BK137)|((with_reducible refine cD (f:=82) rfl ?_);refine dT (some 27) rfl rfl Tryz.func82 (by kernel_rfl) rfl #[.slice A0 l0.length c0,.slice A1_0 l1_0.length c1_0,.int .i64 a1_1,.int .i64 a1_3] rfl mO ?_;(with_reducible refine (pO k _ _ l0 _ _ l1_0 a1_1 a1_3 t142 t143 _ ?side1 ?side2 ?side3 ?side4 A4.out).mono ?_);(case side1=>exact zF);(case side2=>exact HC0.out);(case side3=>exact bCx);(case side4=>exact HC1_0.out);rintro e w18 ⟨v144,rfl,ho0,hb⟩;refine ⟨_,rfl,?_⟩;have HO145:=aK (dR (Kd.R_new' ho0 (rN (by (with_reducible repeat (first|apply Kd.R_alloc|apply bZ|apply cE));exact HO141.out))) (bN bDa));replace HO141:=aK (Kd.R_elder' (by (with_reducible repeat (first|apply Kd.R_alloc|apply bZ|apply cE));exact HO141.out) (rU ho0) hb);replace BK137:=aK (cJ (g:=gb137) (o:= .cells #[.slice A1_0 l1_0.length c1_0,.int .i64 a1_1,.int .i64 a1_2,.int .i64 a1_3,.slice A1_4 l1_4.length c1_4] 27 (0,0)) bJz hb);replace HB:=aK (bG bDa hb);(try clear hb);(try clear hb2);(try clear hk);(try clear hi);(try clear ho0);obtain ⟨Ao20,co20,eo20⟩:=cH HO145.out;subst eo20)|((with_reducible refine kR (b:= .append) (xs:= #[.tmp 30,.tmp 31]) rfl ?_);at_builtin;refine Kd.R_append_rows (Kd.int .i64) (w0:=w) w.heap.size rfl (.tmp 30) (.tmp 31) 24 3 (.int .i64 0) 8 rfl Tryz.underlying24 tB rfl (by decide) (by omega) v140 t138 t142 _ _ _ (fun k_=>some k_≠(.slice Ao20 t142.length co20:Value).ownBlock) (fun _=>False) rfl rfl ?aO ?aR (fun _ _ h=>h) (fun _ h=>h.elim) ?aF ?aB ?aS ?aL ?_;(case aR=>repeat (first|exact (bR HO145.out).2.2|(with_reducible refine Kd.C_alloc ?_ _)|(with_reducible refine Kd.C_drewN ?_ _)|(with_reducible refine Kd.C_drew ?_)));(case aB=>exact bDa);(case aF=>exact (fun k_ hk=>Kd.fresh' (rN (by (with_reducible repeat (first|apply Kd.R_alloc|apply bZ|apply cE));exact HO145.out)) k_ hk));(case aO=>exact (by (with_reducible repeat (first|apply Kd.R_alloc|apply bZ|apply cE));exact fG HO141.out (fun _ hk=>hk.2)));(case aS=>exact (bN bDa));(case aL=>have:=LMc5.out;omega);intro v147 w19 ho hb hg hat;rw [←Ny146.out] at ho;have n0_:=aK (qJ (g:=gb137) (o:= .cells #[.slice A1_0 l1_0.length c1_0,.int .i64 a1_1,.int .i64 a1_2,.int .i64 a1_3,.slice A1_4 l1_4.length c1_4] 27 (0,0)) bJz hg (Kd.R_ne HO141.out BK137.out (by decide)));have n1_:=aK (Kd.R_after (ok:=(fun _=>True)) (by (with_reducible repeat (first|apply Kd.R_alloc|apply bZ|apply cE));exact HO145.out) hg hat);have n2_:=aK (hb);have n3_:=aK (ho);clear BK137;clear HO145;clear HB;clear HO141;have BK137:=n0_;have HO145:=n1_;have HB:=n2_;have HO148:=n3_;clear n0_ n1_ n2_ n3_;clear ho hb hg hat))
   go_ret2
   exact ⟨_,by first|rfl|(simp [dF,dE]<;>rfl)|(simp [*,dF,dE]<;>rfl),by (with_reducible repeat (first|apply Kd.R_alloc|apply bZ|apply cE));exact fG HO148.out (fun _ hk=>trivial),by repeat (first|(with_reducible first|exact HB.out|apply bI|apply bF|apply bH|refine bY ?_ GE137.out)|exact HB.out)⟩
 ·rw [if_neg c5] at H
  exact absurd H (by simp)
end Go.Proofs.YtbaklikaoleplaaGreat.K
namespace Go.Proofs.YtbaklikaoleplaaGreat.K
open Go.RowKit Go.Proofs.YtbaklikaoleplaaGreatW.PrintWords Go.Proofs.YtbaklikaoleplaaGreatW.PrintLast Go.Proofs.YtbaklikaoleplaaGreatW.PrintMore
attribute [local go_sem] gV gT jT jS fY fX gU gR
set_option linter.unusedVariables false
set_option linter.unusedSimpArgs false
def gK:Nat→List Int→List Bool→Int→Option (List Bool)
  |0,_,_,_=>none
  |k+1,x1,x5,x6=>if x6<(x1.length:Int) then (if 0≤x6 then (if 0≤(rd x1 x6) then (if (rd x1 x6)<(x5.length:Int) then (gK k x1 (x5.set ((rd x1 x6):Int).toNat true) (wrap64 (x6+1))) else (none)) else (none)) else (none)) else (some x5)
def kE (k:Nat) (a0:Int) (l1:List Int):Option (List Bool):=if 0≤a0 then (if (a0:Int).toNat≤281474976710656 then (gK k l1 (List.replicate (a0:Int).toNat false) 0) else (none)) else (none)
theorem sW (k : Nat) (a0 : Int) (A1 : Option Addr) (c1 : Nat) (l1 : List Int) (r : List Bool) (w : World) (hr1 : Kd.C (Kd.int .i64) w A1 l1.length l1) (hc1 : l1.length ≤ c1) (h : kE k a0 l1 = some r) :
  Calls Tryz.prog 79 #[.int .i64 a0,.slice A1 l1.length c1] w fun e w'=> ∃v0_:Value,e= .returned (v0_)∧Kd.R Kd.bool 4 w' w.heap.size (fun _=>True) v0_ r∧Below w.heap.size w w':=by
 have HR1:=aK hr1;have HC1:=aK hc1;clear hr1 hc1;have HB:=aK (bQ w.heap.size w);have H:(if 0≤a0 then (if (a0:Int).toNat≤281474976710656 then (gK k l1 (List.replicate (a0:Int).toNat false) 0) else (none)) else (none))=some r:=h
 clear h;by_cases c3:0≤a0
 ·rw [if_pos c3] at H
  have c3b0:=bL c3;have c3b1:decide (0≤a0)=true:=bB c3
  clear c3;by_cases c4:(a0:Int).toNat≤281474976710656
  ·rw [if_pos c4] at H
   have c4b0:=bL c4;have c4b1:decide ((a0:Int).toNat≤281474976710656)=true:=bB c4
   clear c4;obtain ⟨y149,hy149⟩: ∃y_:List Bool,y_=(List.replicate (a0:Int).toNat false):=⟨_,rfl⟩;replace H:(gK k l1 y149 0)=some r:=by first|(rw [hy149];with_reducible exact H)|(have H2_:=(bD _ _).symm.trans H;rw [hy149];with_reducible exact H2_)|(have H2_:=(bD _ _).symm.trans H;with_reducible exact H2_)|with_reducible exact H|(rw [hy149];exact H)|exact H
   have Ny149:=aK hy149;clear hy149;have H':=aK H;clear H;go_enter Tryz.func79,Tryz.ntmps79
   go_wp2_with (first|((with_reducible refine dG (N:=8) rfl ?_);refine Kd.R_make Kd.bool _ 4 rfl (N:=8) rfl 25 _ _ rfl a0 rfl rfl Tryz.underlying25 (.bool false) 1 bFi rfl (by decide) (by omega) false (ok:=fun _=>True) (okp:=fun _=>True) rfl (fun _ hk=>hk) gG (bA fU) (dW (dU _ (bA fU:a0.toNat≤281474976710656)) (by omega)) (bQ _ _) (bV _) ?_;intro v150 w5 ho6 hb hg_ hnew_;clear hg_ hnew_;(first|rw [←Ny149.out] at ho6|(simp only [Int.reduceToNat] at ho6;rw [←Ny149.out] at ho6));have HO151:=aK (dR ho6 (bN jR));replace HB:=aK (bG jR hb);clear hb ho6))
   go_loopg [6] k (fun kq v6 w'=> ∃(x5_1:List Bool) (x6_1:Int),v6= .int .i64 x6_1∧Aside0 (gK kq l1 x5_1 x6_1=some r)∧Aside0 (kq≤k)∧Aside0 (Kd.R Kd.bool 4 w' w.heap.size (fun _=>True) v150 x5_1)∧Aside0 (Below w.heap.size w w'))
   case atStart=>exact ⟨(y149),(0),kG,H',⟨bV _⟩,⟨by (with_reducible repeat (first|apply Kd.R_alloc|apply bZ|apply cE));exact HO151.out⟩,⟨by repeat (first|(with_reducible first|exact HB.out|apply bI|apply bF|apply bH)|exact HB.out)⟩⟩
   case round =>
    clear H';(try clear c1);(try clear p2);(try clear c3);(try clear c3b0);(try clear c3b1);(try clear c4);(try clear c4b0);(try clear c4b1);obtain ⟨x5_1,x6_1,rfl,HA,HK1,HO_5,HB⟩:=hrel
    cases gk with
    |zero=>exact absurd HA.out (by simp [gK])
    | succ k1 =>
     have H:=HA.out;clear HA;simp only [gK] at H;by_cases c7:x6_1<(l1.length:Int)
     ·rw [if_pos c7] at H
      have c7b0:decide (x6_1<(l1.length:Int))=true:=bB c7
      clear c7;by_cases c8:0≤x6_1
      ·rw [if_pos c8] at H
       have c8b0:decide (0≤x6_1)=true:=bB c8
       clear c8;by_cases c9:0≤(rd l1 x6_1)
       ·rw [if_pos c9] at H
        have c9b0:decide (0≤(rd l1 x6_1))=true:=bB c9
        clear c9;by_cases c10:(rd l1 x6_1)<(x5_1.length:Int)
        ·rw [if_pos c10] at H
         have c10b0:decide ((rd l1 x6_1)<(x5_1.length:Int))=true:=bB c10
         clear c10;obtain ⟨y153,hy153⟩: ∃y_:List Bool,y_=(x5_1.set ((rd l1 x6_1):Int).toNat true):=⟨_,rfl⟩;replace H:(gK k1 l1 y153 (wrap64 (x6_1+1)))=some r:=by first|(rw [hy153];with_reducible exact H)|(have H2_:=(bD _ _).symm.trans H;rw [hy153];with_reducible exact H2_)|(have H2_:=(bD _ _).symm.trans H;with_reducible exact H2_)|with_reducible exact H|(rw [hy153];exact H)|exact H
         have Ny153:=aK hy153;clear hy153;have H':=aK H;clear H;have p152:0≤(x6_1:Int):=bA fU
         have q152:x6_1<(l1.length:Int):=bA fU
         obtain ⟨ad152,e152,hx152_0⟩:=dA HR1.out x6_1 p152 q152
         cases e152
         replace hx152_0:=(HB.out.cell (bE w _ hx152_0)).trans hx152_0;replace p152:=bL p152;replace q152:=bL q152;have p11:0≤((rd l1 x6_1):Int):=bA fU
         have q11:((rd l1 x6_1):Int)<((x5_1.length:Int):Int):=bA fU
         obtain ⟨go11,co11,eo11,gb11,gl11,cl11,HG11⟩:=rT HO_5.out (by omega)
         (first|cases eo11|(injection eo11 with ea_ en_ ec_;(first|subst ea_|(injection ea_ with ea_;subst ea_));subst ec_;clear en_))
         have GB11:=aK gb11;have GG11:=aK HG11;clear gb11 gl11 HG11;obtain ⟨hx11_0,hf11_0⟩:=sV false HO_5.out ((rd l1 x6_1):Int) p11 q11;replace p11:=bL p11;replace q11:=bL q11;have HP12:=Kd.R_putg HO_5.out ((rd l1 x6_1):Int) true
         go_wp2_with (first|((with_reducible refine kS (t:=4) (p:=20) rfl ?_);refine jU (t:=4) (p:=20) (v:=?vo_w13) (w1:=(wr.setCell ⟨go11,((rd l1 x6_1):Int).toNat,none⟩ (.bool true))) ?hg ?ho ?hn ?hr ?_;(case ho=>rfl);(case hg=>rfl);(case hn=>rfl);(case hr=>first|(go_simp;done)|(go_simp;rfl)|((try (first|(obtain ⟨_,_,rfl⟩:=cH HO_5.out)|(obtain ⟨_,_,rfl⟩:=jX HO_5.out)));first|(go_simp;done)|(go_simp;rfl)));intro w13 hw;have hg:wr.grownBy w13 (some go11):=(by rw [hw];exact HP12.2);have hp_:Kd.R Kd.bool 4 w13 w.heap.size (fun _=>True) (.slice (some ⟨go11,0,none⟩) x5_1.length co11) y153:=(by rw [hw,Ny153.out];exact HP12.1);clear HP12;replace HO_5:=aK (hp_);replace HB:=aK ((by rw [hw];exact bY (HB.out) GB11.out:Below w.heap.size w w13));clear hg hw hp_))
         go_roundg k1
         case measure=>have:=HK1.out;omega
         case rel=>exact ⟨(y153),(wrap64 (x6_1+1)),kG,H',⟨by have:=HK1.out;omega⟩,⟨by (with_reducible repeat (first|apply Kd.R_alloc|apply bZ|apply cE));exact HO_5.out⟩,⟨by repeat (first|(with_reducible first|exact HB.out|apply bI|apply bF|apply bH)|exact HB.out)⟩⟩
        ·rw [if_neg c10] at H
         exact absurd H (by simp)
       ·rw [if_neg c9] at H
        exact absurd H (by simp)
      ·rw [if_neg c8] at H
       exact absurd H (by simp)
     ·rw [if_neg c7] at H
      have c7b0:decide (x6_1<(l1.length:Int))=false:=bJ c7
      clear c7;obtain rfl:=bC H;go_wp2;go_ret;exact ⟨_,by first|rfl|(simp [dF,dE]<;>rfl)|(simp [*,dF,dE]<;>rfl),by (with_reducible repeat (first|apply Kd.R_alloc|apply bZ|apply cE));exact HO_5.out,by repeat (first|(with_reducible first|exact HB.out|apply bI|apply bF|apply bH)|exact HB.out)⟩
  ·rw [if_neg c4] at H
   exact absurd H (by simp)
 ·rw [if_neg c3] at H
  exact absurd H (by simp)
end Go.Proofs.YtbaklikaoleplaaGreat.K
