import Derived.Test.YtbaklikaoleplaaPh24
import Derived.Test.YtbaklikaoleplaaPh32
import Derived.Test.YtbaklikaoleplaaPh31
import Derived.Test.YtbaklikaoleplaaPh28
import Derived.Test.YtbaklikaoleplaaPh26
import Derived.Test.YtbaklikaoleplaaPh29
import Derived.Test.YtbaklikaoleplaaPh25
import Derived.Laws.Bits64
set_option maxHeartbeats 64000000
set_option maxRecDepth 100000
namespace Go.Proofs.Ytbaklikaoleplaa.K
open Go.RowKit Go.Proofs.YtbaklikaoleplaaW.PrintWords Go.Proofs.YtbaklikaoleplaaW.PrintLast Go.Proofs.YtbaklikaoleplaaW.PrintMore
attribute [local go_sem] gD gB gY gW fR fQ gC gA
set_option linter.unusedVariables false
set_option linter.unusedSimpArgs false
mutual
def kJ:Nat→Int→List Int→Int→Int→Int→List Bool→Option (List Int×Int×Int×Int×List Bool)
 |0,_,_,_,_,_,_=>none
 |k+1,x3,x242000,x242001,x242002,x242003,x242004=>if x3<x242001 then (if 0≤x3 then (if x3<(x242000.length:Int) then (kJ k (wrap64 (x3+1)) (x242000.set (x3:Int).toNat 0) x242001 x242002 x242003 x242004) else (none)) else (none)) else (mF k 0 x242000 x242001 x242002 x242003 x242004)
def mF:Nat→Int→List Int→Int→Int→Int→List Bool→Option (List Int×Int×Int×Int×List Bool)
 |0,_,_,_,_,_,_=>none
 |k+1,x4,x242000,x242001,x242002,x242003,x242004=>if x4<(x242004.length:Int) then (if 0≤x4 then (mF k (wrap64 (x4+1)) x242000 x242001 x242002 x242003 (x242004.set (x4:Int).toNat false)) else (none)) else (some (x242000,x242001,0,x242003,x242004))
end
def rT (k:Nat) (l0_0:List Int) (a0_1:Int) (a0_2:Int) (a0_3:Int) (l0_4:List Bool):Option (List Int×Int×Int×Int×List Bool):=kJ k 0 l0_0 a0_1 a0_2 a0_3 l0_4
theorem bDb (k : Nat) (P0_0_ : Nat → Prop) (u9000_ : Value) (l0_0 : List Int) (a0_1 : Int) (a0_2 : Int) (a0_3 : Int) (P0_4_ : Nat → Prop) (u9001_ : Value) (l0_4 : List Bool) (r1 : List Int) (r2 : Int) (r3 : Int) (r4 : Int) (r5 : List Bool) (w0 w : World) (hB : Below w0.heap.size w0 w) (ho0_0 : Kd.R (Kd.int .i64) 3 w w0.heap.size P0_0_ u9000_ l0_0) (ho0_4 : Kd.R Kd.bool 4 w w0.heap.size P0_4_ u9001_ l0_4) (h : rT k l0_0 a0_1 a0_2 a0_3 l0_4 = some (r1, r2, r3, r4, r5)) :
  Calls Try.prog 49 #[.agg #[u9000_,.int .i64 a0_1,.int .i64 a0_2,.int .i64 a0_3,u9001_]] w fun e w'=> ∃v0_ v4_:Value,e= .returned (.agg #[v0_,.int .i64 r2,.int .i64 r3,.int .i64 r4,v4_])∧Kd.R (Kd.int .i64) 3 w' w0.heap.size (fun k_=>((P0_0_ k_∨P0_4_ k_)∨w.heap.size≤k_)) v0_ r1∧Kd.R Kd.bool 4 w' w0.heap.size (fun k_=>((P0_0_ k_∨P0_4_ k_)∨w.heap.size≤k_)) v4_ r5∧Below w0.heap.size w0 w'∧Kept w w' (fun k_=>P0_0_ k_∨P0_4_ k_):=by
 have hu29:=Try.underlying29;have HO0_0:=aK (show Kd.R (Kd.int .i64) 3 w w0.heap.size (fun k_=>((P0_0_ k_∨P0_4_ k_)∨w.heap.size≤k_)) u9000_ l0_0 from cI ho0_0 (fun k_ hk=>(.inl (.inl hk))));have HO0_4:=aK (show Kd.R Kd.bool 4 w w0.heap.size (fun k_=>((P0_0_ k_∨P0_4_ k_)∨w.heap.size≤k_)) u9001_ l0_4 from cI ho0_4 (fun k_ hk=>(.inl (.inr hk))));have HK:=aK (Kept.refl w (fun k_=>P0_0_ k_∨P0_4_ k_));have HW0:=aK hB.size;have HB:=aK hB;clear hB;have H:(kJ k 0 l0_0 a0_1 a0_2 a0_3 l0_4)=some (r1,r2,r3,r4,r5):=h
 clear h;have H':=aK H;clear H;obtain ⟨Ao2,co2,eo2⟩:=cL HO0_0.out;subst eo2;obtain ⟨Ao3,co3,eo3⟩:=cL HO0_4.out;subst eo3;go_enter Try.func49,Try.ntmps49
 go_wp2_with (first|((with_reducible refine dK (N:=1) rfl ?_);refine dM ?hg (N:=1) ?hd (cs:= #[.slice Ao2 l0_0.length co2,.int .i64 a0_1,.int .i64 a0_2,.int .i64 a0_3,.slice Ao3 l0_4.length co3]) (t:=29) ?hr ?_;(case hd=>rfl);(case hg=>rfl);(case hr=>first|(go_simp;done)|(go_simp;rfl));intro gb241 hg w4 hbox hb;have BK241:=aK (hbox);have GW241:=aK ((by rw [hg];exact (by first|exact HK.out.1|exact (show Kept w _ (fun k_=>P0_0_ k_∨P0_4_ k_) from by repeat (first|(with_reducible first|exact HK.out|apply Kept.alloc|apply Kept.drewN|apply Kept.drew)|exact HK.out)).1):w.heap.size≤gb241));have GE241:=aK ((by rw [hg];exact (bW nQ):w0.heap.size≤gb241));replace HO0_0:=aK (bZ (by (with_reducible repeat (first|apply Kd.R_alloc|apply dA|apply dC));exact HO0_0.out) hb);replace HO0_4:=aK (bZ (by (with_reducible repeat (first|apply Kd.R_alloc|apply dA|apply dC));exact HO0_4.out) hb);replace HK:=aK (Kept.below (S:=(fun k_=>P0_0_ k_∨P0_4_ k_)) (by repeat (first|(with_reducible first|exact HK.out|apply Kept.alloc|apply Kept.drewN|apply Kept.drew)|exact HK.out)) hb);replace HB:=aK (bK nQ hb);clear hb hbox hg)|((with_reducible refine dK (N:=2) rfl ?_);refine dM ?hg (N:=2) ?hd (cs:= #[.slice none 0 0,.int .i64 0,.int .i64 0,.int .i64 0,.slice none 0 0]) (t:=29) ?hr ?_;(case hd=>rfl);(case hg=>rfl);(case hr=>first|(go_simp;done)|(go_simp;rfl));intro gb242 hg w5 hbox hb;have BK242:=aK (hbox);have GW242:=aK ((by rw [hg];exact (by first|exact HK.out.1|exact (show Kept w _ (fun k_=>P0_0_ k_∨P0_4_ k_) from by repeat (first|(with_reducible first|exact HK.out|apply Kept.alloc|apply Kept.drewN|apply Kept.drew|refine Kept.setCell ?_ (.inr GW241.out) _)|exact HK.out)).1):w.heap.size≤gb242));have GE242:=aK ((by rw [hg];exact (bW (by repeat (first|(with_reducible first|exact HB.out|apply bJ|apply bI|apply bG|refine cE ?_ GE241.out)|exact HB.out))):w0.heap.size≤gb242));have NB241_242:=aK ((by rw [hg];exact xD (dN (g:=gb241) (o:= .cells #[.slice Ao2 l0_0.length co2,.int .i64 a0_1,.int .i64 a0_2,.int .i64 a0_3,.slice Ao3 l0_4.length co3] 29 (0,0)) bQl):gb241≠gb242));have NB242_241:=aK ((by rw [hg];exact Nat.ne_of_gt (dN (g:=gb241) (o:= .cells #[.slice Ao2 l0_0.length co2,.int .i64 a0_1,.int .i64 a0_2,.int .i64 a0_3,.slice Ao3 l0_4.length co3] 29 (0,0)) bQl):gb242≠gb241));replace HO0_0:=aK (bZ (by (with_reducible repeat (first|apply Kd.R_alloc|apply dA|apply dC));exact HO0_0.out) hb);replace HO0_4:=aK (bZ (by (with_reducible repeat (first|apply Kd.R_alloc|apply dA|apply dC));exact HO0_4.out) hb);replace BK241:=aK (bS (g:=gb241) (o:= .cells #[.slice Ao2 l0_0.length co2,.int .i64 a0_1,.int .i64 a0_2,.int .i64 a0_3,.slice Ao3 l0_4.length co3] 29 (0,0)) bQl hb);replace HK:=aK (Kept.below (S:=(fun k_=>P0_0_ k_∨P0_4_ k_)) (by repeat (first|(with_reducible first|exact HK.out|apply Kept.alloc|apply Kept.drewN|apply Kept.drew|refine Kept.setCell ?_ (.inr GW241.out) _)|exact HK.out)) hb);replace HB:=aK (bK (by repeat (first|(with_reducible first|exact HB.out|apply bJ|apply bI|apply bG|refine cE ?_ GE241.out)|exact HB.out)) hb);clear hb hbox hg))
 go_loopg [3] k (fun kq v3 w'=> ∃(x3_1:Int) (x242000_1:List Int) (u242000:Value),v3= .int .i64 x3_1∧Aside0 (kJ kq x3_1 x242000_1 a0_1 a0_2 a0_3 l0_4=some (r1,r2,r3,r4,r5))∧Aside0 (kq≤k)∧Aside0 (Kd.R (Kd.int .i64) 3 w' w0.heap.size (fun k_=>((P0_0_ k_∨P0_4_ k_)∨w.heap.size≤k_)) u242000 x242000_1)∧Aside0 (Kd.R Kd.bool 4 w' w0.heap.size (fun k_=>((P0_0_ k_∨P0_4_ k_)∨w.heap.size≤k_)) (.slice Ao3 l0_4.length co3) l0_4)∧Aside0 (w'.heap[gb241]? =some (.cells #[u242000,.int .i64 a0_1,.int .i64 a0_2,.int .i64 a0_3,(.slice Ao3 l0_4.length co3)] 29 (0,0)))∧Aside0 (w'.heap[gb242]? =some (.cells #[(.slice none 0 0),.int .i64 0,.int .i64 0,.int .i64 0,(.slice none 0 0)] 29 (0,0)))∧Aside0 (Kept w w' (fun k_=>P0_0_ k_∨P0_4_ k_))∧Aside0 (Below w0.heap.size w0 w'))
 case atStart=>exact ⟨(0),(l0_0),(.slice Ao2 l0_0.length co2),nR,H',⟨bV _⟩,⟨by (with_reducible repeat (first|apply Kd.R_alloc|apply dA|apply dC));exact HO0_0.out⟩,⟨by (with_reducible repeat (first|apply Kd.R_alloc|apply dA|apply dC));exact HO0_4.out⟩,⟨by (with_reducible repeat (first|refine bX ?_ _|refine bY ?_|refine bQ ?_ _));exact BK241.out⟩,⟨by (with_reducible repeat (first|refine bX ?_ _|refine bY ?_|refine bQ ?_ _));exact BK242.out⟩,⟨by repeat (first|(with_reducible first|exact HK.out|apply Kept.alloc|apply Kept.drewN|apply Kept.drew|refine Kept.setCell ?_ (.inr GW241.out) _|refine Kept.setCell ?_ (.inr GW242.out) _)|exact HK.out)⟩,⟨by repeat (first|(with_reducible first|exact HB.out|apply bJ|apply bI|apply bG|refine cE ?_ GE241.out|refine cE ?_ GE242.out)|exact HB.out)⟩⟩
 case round =>
  clear H';(try clear p2);(try clear c4);obtain ⟨x3_1,x242000_1,u242000,rfl,HA,HK1,HO_242000,HO_242004,BK241,BK242,HK,HB⟩:=hrel
  cases gk with
  |zero=>exact absurd HA.out (by simp [kJ])
  | succ k1 =>
   have H:=HA.out;clear HA;simp only [kJ] at H;by_cases c6:x3_1<a0_1
   ·rw [if_pos c6] at H
    have c6b0:decide (x3_1<a0_1)=true:=bD c6
    clear c6;by_cases c7:0≤x3_1
    ·rw [if_pos c7] at H
     have c7b0:decide (0≤x3_1)=true:=bD c7
     clear c7;by_cases c8:x3_1<(x242000_1.length:Int)
     ·rw [if_pos c8] at H
      have c8b0:decide (x3_1<(x242000_1.length:Int))=true:=bD c8
      clear c8;obtain ⟨y243,hy243⟩: ∃y_:List Int,y_=(x242000_1.set (x3_1:Int).toNat 0):=⟨_,rfl⟩;replace H:(kJ k1 (wrap64 (x3_1+1)) y243 a0_1 a0_2 a0_3 l0_4)=some (r1,r2,r3,r4,r5):=by first|(rw [hy243];with_reducible exact H)|(have H2_:=(bC _ _).symm.trans H;rw [hy243];with_reducible exact H2_)|(have H2_:=(bC _ _).symm.trans H;with_reducible exact H2_)|with_reducible exact H|(rw [hy243];exact H)|exact H
      have Ny243:=aK hy243;clear hy243;have H':=aK H;clear H;have hnb10:=NB241_242.out;have hnc10:=NB242_241.out;obtain ⟨hcz11_0,hcz11_1,hcz11_2,hcz11_3,hcz11_4,hfz11_0,hfz11_1,hfz11_2,hfz11_3,hfz11_4⟩:=nP BK241;have p9:0≤(x3_1:Int):=bB jX
      have q9:(x3_1:Int)<((x242000_1.length:Int):Int):=bB jX
      obtain ⟨go9,co9,eo9,gb9,gl9,cl9,HG9⟩:=pG HO_242000.out (by omega)
      (first|cases eo9|(injection eo9 with ea_ en_ ec_;(first|subst ea_|(injection ea_ with ea_;subst ea_));subst ec_;clear en_))
      have GB9:=aK gb9;have GG9:=aK HG9;clear gb9 gl9 HG9;have HMgo9:=aK (show ((P0_0_ go9∨P0_4_ go9)∨w.heap.size≤go9) from (HO_242000.out.1 _ rfl));obtain ⟨hx9_0,hf9_0⟩:=Kd.R_celln 0 HO_242000.out (x3_1:Int) p9 q9;replace p9:=bO p9;replace q9:=bO q9;have HP12:=Kd.R_putg HO_242000.out (x3_1:Int) 0
      go_wp2_with (first|((with_reducible refine fX (t:=3) (p:=14) rfl ?_);refine fN (t:=3) (p:=14) (v:=?vo_w13) (w1:=(wr.setCell ⟨go9,(x3_1:Int).toNat,none⟩ (.int .i64 0))) ?hg ?ho ?hn ?hr ?_;(case ho=>rfl);(case hg=>rfl);(case hn=>rfl);(case hr=>first|(go_simp;done)|(go_simp;rfl)|((try (first|(obtain ⟨_,_,rfl⟩:=cL HO_242000.out)|(obtain ⟨_,_,rfl⟩:=vV HO_242000.out)));(try (first|(obtain ⟨_,_,rfl⟩:=cL HO_242004.out)|(obtain ⟨_,_,rfl⟩:=vV HO_242004.out)));first|(go_simp;done)|(go_simp;rfl)));intro w13 hw;have hg:wr.grownBy w13 (some go9):=(by rw [hw];exact HP12.2);have hp_:Kd.R (Kd.int .i64) 3 w13 w0.heap.size (fun k_=>((P0_0_ k_∨P0_4_ k_)∨w.heap.size≤k_)) (.slice (some ⟨go9,0,none⟩) x242000_1.length co9) y243:=(by rw [hw,Ny243.out];exact HP12.1);clear HP12;replace HO_242004:=aK (Kd.R_over' (v:=(.slice (some ⟨go9,0,none⟩) x242000_1.length co9)) (by (with_reducible repeat (first|apply Kd.R_alloc|apply dA|apply dC));exact HO_242004.out) (Kd.R_typed HO_242000.out) (by decide) hg);replace BK241:=aK (nE (g:=gb241) (o:= .cells #[.slice (some ⟨go9,0,none⟩) x242000_1.length co9,.int .i64 a0_1,.int .i64 a0_2,.int .i64 a0_3,.slice Ao3 l0_4.length co3] 29 (0,0)) bQl hg (qP HO_242000.out BK241.out (by decide)));replace BK242:=aK (nE (g:=gb242) (o:= .cells #[.slice none 0 0,.int .i64 0,.int .i64 0,.int .i64 0,.slice none 0 0] 29 (0,0)) (by (with_reducible repeat (first|refine bX ?_ _|refine bY ?_|refine bQ ?_ _));exact BK242.out) hg (qP HO_242000.out BK242.out (by decide)));replace HB:=aK ((by rw [hw];exact cE (HB.out) GB9.out:Below w0.heap.size w0 w13));replace HK:=aK (Kept.of_grown (S:=(fun k_=>P0_0_ k_∨P0_4_ k_)) hg (by repeat (first|(with_reducible first|exact HK.out|apply Kept.alloc|apply Kept.drewN|apply Kept.drew|refine Kept.setCell ?_ (.inr GW241.out) _|refine Kept.setCell ?_ (.inr GW242.out) _)|exact HK.out)) (fun k_ e_=>(HO_242000.out.1 k_ e_)));replace HO_242000:=aK (hp_);clear hg hw hp_))
      go_roundg k1
      case measure=>have:=HK1.out;omega
      case rel=>exact ⟨(wrap64 (x3_1+1)),(y243),(.slice (some ⟨go9,0,none⟩) x242000_1.length co9),nR,H',⟨by have:=HK1.out;omega⟩,⟨by (with_reducible repeat (first|apply Kd.R_alloc|apply dA|apply dC));exact HO_242000.out⟩,⟨by (with_reducible repeat (first|apply Kd.R_alloc|apply dA|apply dC));exact HO_242004.out⟩,⟨by (with_reducible repeat (first|refine bX ?_ _|refine bY ?_|refine bQ ?_ _));exact BK241.out⟩,⟨by (with_reducible repeat (first|refine bX ?_ _|refine bY ?_|refine bQ ?_ _));exact BK242.out⟩,⟨by repeat (first|(with_reducible first|exact HK.out|apply Kept.alloc|apply Kept.drewN|apply Kept.drew|refine Kept.setCell ?_ (.inr GW241.out) _|refine Kept.setCell ?_ (.inr GW242.out) _)|exact HK.out)⟩,⟨by repeat (first|(with_reducible first|exact HB.out|apply bJ|apply bI|apply bG|refine cE ?_ GE241.out|refine cE ?_ GE242.out)|exact HB.out)⟩⟩
     ·rw [if_neg c8] at H
      exact absurd H (by simp)
    ·rw [if_neg c7] at H
     exact absurd H (by simp)
   ·rw [if_neg c6] at H
    have c6b0:decide (x3_1<a0_1)=false:=bM c6
    clear c6;have H':=aK H;clear H;have hnb14:=NB241_242.out;have hnc14:=NB242_241.out;obtain ⟨hcz15_0,hcz15_1,hcz15_2,hcz15_3,hcz15_4,hfz15_0,hfz15_1,hfz15_2,hfz15_3,hfz15_4⟩:=nP BK241;go_wp2
    go_loopg [4] k1 (fun kq v4 w'=> ∃(x4_2:Int) (x242004_2:List Bool) (u242004:Value),v4= .int .i64 x4_2∧Aside0 (mF kq x4_2 x242000_1 a0_1 a0_2 a0_3 x242004_2=some (r1,r2,r3,r4,r5))∧Aside0 (kq≤k1)∧Aside0 (Kd.R (Kd.int .i64) 3 w' w0.heap.size (fun k_=>((P0_0_ k_∨P0_4_ k_)∨w.heap.size≤k_)) u242000 x242000_1)∧Aside0 (Kd.R Kd.bool 4 w' w0.heap.size (fun k_=>((P0_0_ k_∨P0_4_ k_)∨w.heap.size≤k_)) u242004 x242004_2)∧Aside0 (w'.heap[gb241]? =some (.cells #[u242000,.int .i64 a0_1,.int .i64 a0_2,.int .i64 a0_3,u242004] 29 (0,0)))∧Aside0 (w'.heap[gb242]? =some (.cells #[(.slice none 0 0),.int .i64 0,.int .i64 0,.int .i64 0,(.slice none 0 0)] 29 (0,0)))∧Aside0 (Kept w w' (fun k_=>P0_0_ k_∨P0_4_ k_))∧Aside0 (Below w0.heap.size w0 w'))
    case atStart=>exact ⟨(0),(l0_4),(.slice Ao3 l0_4.length co3),nR,H',⟨bV _⟩,⟨by (with_reducible repeat (first|apply Kd.R_alloc|apply dA|apply dC));exact HO_242000.out⟩,⟨by (with_reducible repeat (first|apply Kd.R_alloc|apply dA|apply dC));exact HO_242004.out⟩,⟨by (with_reducible repeat (first|refine bX ?_ _|refine bY ?_|refine bQ ?_ _));exact BK241.out⟩,⟨by (with_reducible repeat (first|refine bX ?_ _|refine bY ?_|refine bQ ?_ _));exact BK242.out⟩,⟨by repeat (first|(with_reducible first|exact HK.out|apply Kept.alloc|apply Kept.drewN|apply Kept.drew|refine Kept.setCell ?_ (.inr GW241.out) _|refine Kept.setCell ?_ (.inr GW242.out) _)|exact HK.out)⟩,⟨by repeat (first|(with_reducible first|exact HB.out|apply bJ|apply bI|apply bG|refine cE ?_ GE241.out|refine cE ?_ GE242.out)|exact HB.out)⟩⟩
    case round=>
     clear H';(try clear c1);(try clear p2);(try clear c4);(try clear c6);(try clear c6b0);(try clear p6);(try clear c7);(try clear c7b0);(try clear c8);(try clear c8b0);(try clear p9);(try clear q9);(try clear hx9);(try clear hf9);(try clear c10);(try clear c14);(try clear hcz11_0);(try clear hcz11_1);(try clear hcz11_2);(try clear hcz11_3);(try clear hcz11_4);(try clear hcz15_0);(try clear hcz15_1);(try clear hcz15_2);(try clear hcz15_3);(try clear hcz15_4);(try clear hfz11_0);(try clear hfz11_1);(try clear hfz11_2);(try clear hfz11_3);(try clear hfz11_4);(try clear hfz15_0);(try clear hfz15_1);(try clear hfz15_2);(try clear hfz15_3);(try clear hfz15_4);(try clear hx9_0);(try clear p2);(try clear p9);(try clear q9);obtain ⟨x4_2,x242004_2,u242004,rfl,HA,HK2,HO_242000,HO_242004,BK241,BK242,HK,HB⟩:=hrel
     cases gk with
     |zero=>exact absurd HA.out (by simp [mF])
     | succ k2 =>
      have H:=HA.out;clear HA;simp only [mF] at H;by_cases c16:x4_2<(x242004_2.length:Int)
      ·rw [if_pos c16] at H
       have c16b0:decide (x4_2<(x242004_2.length:Int))=true:=bD c16
       clear c16;by_cases c17:0≤x4_2
       ·rw [if_pos c17] at H
        have c17b0:decide (0≤x4_2)=true:=bD c17
        clear c17;obtain ⟨y244,hy244⟩: ∃y_:List Bool,y_=(x242004_2.set (x4_2:Int).toNat false):=⟨_,rfl⟩;replace H:(mF k2 (wrap64 (x4_2+1)) x242000_1 a0_1 a0_2 a0_3 y244)=some (r1,r2,r3,r4,r5):=by first|(rw [hy244];with_reducible exact H)|(have H2_:=(bC _ _).symm.trans H;rw [hy244];with_reducible exact H2_)|(have H2_:=(bC _ _).symm.trans H;with_reducible exact H2_)|with_reducible exact H|(rw [hy244];exact H)|exact H
        have Ny244:=aK hy244;clear hy244;have H':=aK H;clear H;have hnb19:=NB241_242.out;have hnc19:=NB242_241.out;obtain ⟨hcz20_0,hcz20_1,hcz20_2,hcz20_3,hcz20_4,hfz20_0,hfz20_1,hfz20_2,hfz20_3,hfz20_4⟩:=nP BK241;obtain ⟨Ao21,co21,eo21⟩:=cL HO_242004.out;subst eo21;have p18:0≤(x4_2:Int):=bB jX
        have q18:(x4_2:Int)<((x242004_2.length:Int):Int):=bB jX
        obtain ⟨go18,co18,eo18,gb18,gl18,cl18,HG18⟩:=pG HO_242004.out (by omega)
        (first|cases eo18|(injection eo18 with ea_ en_ ec_;(first|subst ea_|(injection ea_ with ea_;subst ea_));subst ec_;clear en_))
        have GB18:=aK gb18;have GG18:=aK HG18;clear gb18 gl18 HG18;have HMgo18:=aK (show ((P0_0_ go18∨P0_4_ go18)∨w.heap.size≤go18) from (HO_242004.out.1 _ rfl));obtain ⟨hx18_0,hf18_0⟩:=Kd.R_celln false HO_242004.out (x4_2:Int) p18 q18;replace p18:=bO p18;replace q18:=bO q18;have HP22:=Kd.R_putg HO_242004.out (x4_2:Int) false
        go_wp2_with (first|((with_reducible refine fX (t:=4) (p:=25) rfl ?_);refine fN (t:=4) (p:=25) (v:=?vo_w23) (w1:=(wr.setCell ⟨go18,(x4_2:Int).toNat,none⟩ (.bool false))) ?hg ?ho ?hn ?hr ?_;(case ho=>rfl);(case hg=>rfl);(case hn=>rfl);(case hr=>first|(go_simp;done)|(go_simp;rfl)|((try (first|(obtain ⟨_,_,rfl⟩:=cL HO_242000.out)|(obtain ⟨_,_,rfl⟩:=vV HO_242000.out)));(try (first|(obtain ⟨_,_,rfl⟩:=cL HO_242004.out)|(obtain ⟨_,_,rfl⟩:=vV HO_242004.out)));first|(go_simp;done)|(go_simp;rfl)));intro w23 hw;have hg:wr.grownBy w23 (some go18):=(by rw [hw];exact HP22.2);have hp_:Kd.R Kd.bool 4 w23 w0.heap.size (fun k_=>((P0_0_ k_∨P0_4_ k_)∨w.heap.size≤k_)) (.slice (some ⟨go18,0,none⟩) x242004_2.length co21) y244:=(by rw [hw,Ny244.out];exact HP22.1);clear HP22;replace HO_242000:=aK (Kd.R_over' (v:=(.slice (some ⟨go18,0,none⟩) x242004_2.length co21)) (by (with_reducible repeat (first|apply Kd.R_alloc|apply dA|apply dC));exact HO_242000.out) (Kd.R_typed HO_242004.out) (by decide) hg);replace BK241:=aK (nE (g:=gb241) (o:= .cells #[u242000,.int .i64 a0_1,.int .i64 a0_2,.int .i64 a0_3,.slice (some ⟨go18,0,none⟩) x242004_2.length co21] 29 (0,0)) bQl hg (qP HO_242004.out BK241.out (by decide)));replace BK242:=aK (nE (g:=gb242) (o:= .cells #[.slice none 0 0,.int .i64 0,.int .i64 0,.int .i64 0,.slice none 0 0] 29 (0,0)) (by (with_reducible repeat (first|refine bX ?_ _|refine bY ?_|refine bQ ?_ _));exact BK242.out) hg (qP HO_242004.out BK242.out (by decide)));replace HB:=aK ((by rw [hw];exact cE (HB.out) GB18.out:Below w0.heap.size w0 w23));replace HK:=aK (Kept.of_grown (S:=(fun k_=>P0_0_ k_∨P0_4_ k_)) hg (by repeat (first|(with_reducible first|exact HK.out|apply Kept.alloc|apply Kept.drewN|apply Kept.drew|refine Kept.setCell ?_ (.inr GW241.out) _|refine Kept.setCell ?_ (.inr GW242.out) _)|exact HK.out)) (fun k_ e_=>(HO_242004.out.1 k_ e_)));replace HO_242004:=aK (hp_);clear hg hw hp_))
        go_roundg k2
        case measure=>have:=HK1.out;have:=HK2.out;omega
        case rel=>exact ⟨(wrap64 (x4_2+1)),(y244),(.slice (some ⟨go18,0,none⟩) x242004_2.length co21),nR,H',⟨by have:=HK1.out;have:=HK2.out;omega⟩,⟨by (with_reducible repeat (first|apply Kd.R_alloc|apply dA|apply dC));exact HO_242000.out⟩,⟨by (with_reducible repeat (first|apply Kd.R_alloc|apply dA|apply dC));exact HO_242004.out⟩,⟨by (with_reducible repeat (first|refine bX ?_ _|refine bY ?_|refine bQ ?_ _));exact BK241.out⟩,⟨by (with_reducible repeat (first|refine bX ?_ _|refine bY ?_|refine bQ ?_ _));exact BK242.out⟩,⟨by repeat (first|(with_reducible first|exact HK.out|apply Kept.alloc|apply Kept.drewN|apply Kept.drew|refine Kept.setCell ?_ (.inr GW241.out) _|refine Kept.setCell ?_ (.inr GW242.out) _)|exact HK.out)⟩,⟨by repeat (first|(with_reducible first|exact HB.out|apply bJ|apply bI|apply bG|refine cE ?_ GE241.out|refine cE ?_ GE242.out)|exact HB.out)⟩⟩
       ·rw [if_neg c17] at H
        exact absurd H (by simp)
      ·rw [if_neg c16] at H
       have c16b0:decide (x4_2<(x242004_2.length:Int))=false:=bM c16
       clear c16;simp only [fB,Prod.mk.injEq] at H;obtain ⟨rfl,rfl,rfl,rfl,rfl⟩:=H;have hnb24:=NB241_242.out;have hnc24:=NB242_241.out;obtain ⟨hcz25_0,hcz25_1,hcz25_2,hcz25_3,hcz25_4,hfz25_0,hfz25_1,hfz25_2,hfz25_3,hfz25_4⟩:=nP BK241;obtain ⟨Ao26,co26,eo26⟩:=cL HO_242004.out;subst eo26;obtain ⟨Ao27,co27,eo27⟩:=cL HO_242000.out;subst eo27;obtain ⟨hcz28_0,hcz28_1,hcz28_2,hcz28_3,hcz28_4,hfz28_0,hfz28_1,hfz28_2,hfz28_3,hfz28_4⟩:=nP BK242;go_wp2;refine fM (jY rfl _ _ gb242 29 #[.slice Ao27 x242000_1.length co27,.int .i64 a0_1,.int .i64 0,.int .i64 a0_3,.slice Ao26 x242004_2.length co26] (0,0) _ rfl (by (with_reducible repeat (first|refine bX ?_ _|refine bY ?_|refine bQ ?_ _));refine fF (cs:= #[.slice Ao27 x242000_1.length co27,.int .i64 a0_1,.int .i64 0,.int .i64 a0_3,.slice none 0 0]) ?_ 4 _ rfl;(with_reducible repeat (first|refine bX ?_ _|refine bY ?_|refine bQ ?_ _));refine fF (cs:= #[.slice Ao27 x242000_1.length co27,.int .i64 a0_1,.int .i64 0,.int .i64 0,.slice none 0 0]) ?_ 3 _ rfl;(with_reducible repeat (first|refine bX ?_ _|refine bY ?_|refine bQ ?_ _));refine fF (cs:= #[.slice Ao27 x242000_1.length co27,.int .i64 a0_1,.int .i64 0,.int .i64 0,.slice none 0 0]) ?_ 2 _ rfl;(with_reducible repeat (first|refine bX ?_ _|refine bY ?_|refine bQ ?_ _));refine fF (cs:= #[.slice Ao27 x242000_1.length co27,.int .i64 0,.int .i64 0,.int .i64 0,.slice none 0 0]) ?_ 1 _ rfl;(with_reducible repeat (first|refine bX ?_ _|refine bY ?_|refine bQ ?_ _));refine fF (cs:= #[.slice none 0 0,.int .i64 0,.int .i64 0,.int .i64 0,.slice none 0 0]) ?_ 0 _ rfl;(with_reducible repeat (first|refine bX ?_ _|refine bY ?_|refine bQ ?_ _));refine jG ?_ NB242_241.out _;(with_reducible repeat (first|refine bX ?_ _|refine bY ?_|refine bQ ?_ _));exact BK242.out) Try.underlying29 rfl (by kernel_rfl)) rfl ?_;exact ⟨_,_,by first|rfl|(simp [dS,dR]<;>rfl)|(simp [*,dS,dR]<;>rfl),by (with_reducible repeat (first|apply Kd.R_alloc|apply dA|apply dC));exact cI (jA (p:=⟨gb242,4,none⟩) (jA (p:=⟨gb242,3,none⟩) (jA (p:=⟨gb242,2,none⟩) (jA (p:=⟨gb242,1,none⟩) (jA (p:=⟨gb242,0,none⟩) (jA (p:=⟨gb241,2,none⟩) (nJ (nJ HO_242000.out BK241.out (by decide)) BK242.out (by decide)) (fun _ hk=>hk.1.2) (.int .i64 0)) (fun _ hk=>hk.2) (.slice Ao27 x242000_1.length co27)) (fun _ hk=>hk.2) (.int .i64 a0_1)) (fun _ hk=>hk.2) (.int .i64 0)) (fun _ hk=>hk.2) (.int .i64 a0_3)) (fun _ hk=>hk.2) (.slice Ao26 x242004_2.length co26)) (fun _ hk=>hk.1.1),by (with_reducible repeat (first|apply Kd.R_alloc|apply dA|apply dC));exact cI (jA (p:=⟨gb242,4,none⟩) (jA (p:=⟨gb242,3,none⟩) (jA (p:=⟨gb242,2,none⟩) (jA (p:=⟨gb242,1,none⟩) (jA (p:=⟨gb242,0,none⟩) (jA (p:=⟨gb241,2,none⟩) (nJ (nJ HO_242004.out BK241.out (by decide)) BK242.out (by decide)) (fun _ hk=>hk.1.2) (.int .i64 0)) (fun _ hk=>hk.2) (.slice Ao27 x242000_1.length co27)) (fun _ hk=>hk.2) (.int .i64 a0_1)) (fun _ hk=>hk.2) (.int .i64 0)) (fun _ hk=>hk.2) (.int .i64 a0_3)) (fun _ hk=>hk.2) (.slice Ao26 x242004_2.length co26)) (fun _ hk=>hk.1.1),by repeat (first|(with_reducible first|exact HB.out|apply bJ|apply bI|apply bG|refine cE ?_ GE241.out|refine cE ?_ GE242.out)|exact HB.out),by repeat (first|(with_reducible first|exact HK.out|apply Kept.alloc|apply Kept.drewN|apply Kept.drew|refine Kept.setCell ?_ (.inr GW241.out) _|refine Kept.setCell ?_ (.inr GW242.out) _)|exact HK.out)⟩
end Go.Proofs.Ytbaklikaoleplaa.K
namespace Go.Proofs.Ytbaklikaoleplaa.K
open Go.RowKit Go.Proofs.YtbaklikaoleplaaW.PrintWords Go.Proofs.YtbaklikaoleplaaW.PrintLast Go.Proofs.YtbaklikaoleplaaW.PrintMore
attribute [local go_sem] gD gB gY gW fR fQ gC gA
set_option linter.unusedVariables false
set_option linter.unusedSimpArgs false
def bBr (kf:Nat) (l0:List S53):Xv→List Int→List Int→Option (Xv×List Int)
  |s,out,[]=>some (s,out)
  |s,out,v::r=>(bFw kf l0 s v).bind fun p=>bBr kf l0 p.2 (out++[p.1]) r
def bFv (kf:Nat) (l0:List S53):Xv→List Int→Option Xv
  |s,[]=>some s
  |s,a::r=>(bFd kf l0 s a true).bind fun s'=>bFv kf l0 s' r
def bHf (kf:Nat) (l0:List S53):Nat→Int→Xv→Option Xv
  |0,_,_=>none
  |q+1,i,s=>if i<s.o then (bFd kf l0 s i false).bind fun s'=>(jN kf l0 s'.ws i (s'.ws.length:Int)).bind fun n=>if 0<n∧0≤i∧i+n≤2000000 then bHf kf l0 q (i+n) s' else none else some s
def bNh (ws:List Int) (y t o:Int) (cd:List Bool):Xv:=⟨ws,y,t,o,cd,List.replicate y.toNat 0,true⟩
def bDx (k:Nat) (l0:List S53) (ws:List Int) (y t o:Int) (cd:List Bool) (roots:List Int):Option (Option ((List Int×Int×Int×Int×List Bool)×List Int)):=
 if (0<ws.length)∧0≤y∧y≤2000000∧ws.length≤2000000∧cd.length≤2000000∧roots.length≤4000000 then
  (mR k l0 ws y o).bind fun P => (bBr k l0 (bNh ws y t o cd) [] roots).bind fun q => (bFv k l0 q.1 P.1).bind fun s2 => (bHf k l0 k o s2).bind fun s3 =>
   if s3.ok=false then some none else (rT k s3.ws s3.y s3.t s3.o s3.cd).bind fun c=>some (some (c,q.2))
 else none
def yT:Option ((List Int×Int×Int×Int×List Bool)×List Int)→(List Int×Int×Int×Int×List Bool×List Int×Bool)
  |none=>([],0,0,0,[],[],false)
  |some p=>(p.1.1,p.1.2.1,p.1.2.2.1,p.1.2.2.2.1,p.1.2.2.2.2,p.2,true)
theorem bKe {ws:List Int} {cd:List Bool} (y t o:Int) (h:ws.length≤2000000∧cd.length≤2000000):yR ws y t o cd=some (ws,y,t,o,cd):=by
 unfold yR;simp only [bC,List.length_nil,pJ,sA]
 rw [if_pos (by omega),if_pos (by omega)]
def SmPost (w:World) (r:List Int×Int×Int×Int×List Bool×List Int×Bool) (e:Ending) (w':World):Prop:=
  ∃v0_ v4_ v5_:Value,e= .returned (.tuple #[.agg #[v0_,.int .i64 r.2.1,.int .i64 r.2.2.1,.int .i64 r.2.2.2.1,v4_],v5_,.bool r.2.2.2.2.2.2])∧Kd.R (Kd.int .i64) 3 w' w.heap.size (fun k_=>some k_≠(v5_:Value).ownBlock) v0_ r.1∧Kd.R Kd.bool 4 w' w.heap.size (fun _=>True) v4_ r.2.2.2.2.1∧Kd.R (Kd.int .i64) 3 w' w.heap.size (fun k_=>some k_≠(v0_:Value).ownBlock) v5_ r.2.2.2.2.2.1∧Below w.heap.size w w'
theorem bDa (k : Nat) (A0 : Option Addr) (c0 : Nat) (A1 : Option Addr) (c1 : Nat) (A4 : Option Addr) (c4 : Nat) (A2 : Option Addr) (c2 : Nat) (l0 : List S53) (ws : List Int) (y t o : Int) (cd : List Bool) (roots : List Int) (r : Option ((List Int × Int × Int × Int × List Bool) × List Int)) (w : World) (hr0 : Kd.C tU w A0 l0.length l0) (hc0 : l0.length ≤ c0) (hr1 : Kd.C (Kd.int .i64) w A1 ws.length ws) (hc1 : ws.length ≤ c1) (hr4 : Kd.C Kd.bool w A4 cd.length cd) (hc4 : cd.length ≤ c4) (hr2 : Kd.C (Kd.int .i64) w A2 roots.length roots) (h : bDx k l0 ws y t o cd roots = some r) :
  Calls Try.prog 28 #[.slice A0 l0.length c0,.agg #[.slice A1 ws.length c1,.int .i64 y,.int .i64 t,.int .i64 o,.slice A4 cd.length c4],.slice A2 roots.length c2] w (SmPost w (yT r)):=by
 unfold bDx at h
 split at h
 case isFalse=>simp at h
 case isTrue hsz=>
 obtain ⟨P,h1,h⟩:=Option.bind_eq_some_iff.mp h;obtain ⟨⟨s1,outF⟩,h2,h⟩:=Option.bind_eq_some_iff.mp h;obtain ⟨s2,h3,h⟩:=Option.bind_eq_some_iff.mp h;obtain ⟨s3,h4,h⟩:=Option.bind_eq_some_iff.mp h;have HSZ:=aK hsz;have H1:=aK h1;have H2:=aK (show bBr k l0 (bNh ws y t o cd) [] (roots.drop 0)=some (s1,outF) by rw [mH];exact h2);have H3:=aK (show bFv k l0 s1 (P.1.drop 0)=some s2 by rw [mH];exact h3);have H4:=aK h4;have H:=aK h;have HCP:=aK (bKe y t o (show ws.length≤2000000∧cd.length≤2000000 by omega));have HR0:=aK hr0;have HR1:=aK hr1;have HR4:=aK hr4;have HR2:=aK hr2;have HC0:=aK hc0;have HC1:=aK hc1;have HC4:=aK hc4;have HB:=aK (bH w.heap.size w);clear h h1 h2 h3 h4 hsz hr0 hr1 hr4 hr2 hc0 hc1 hc4;go_enter Try.func28,Try.ntmps28
 go_wp2_with ((with_reducible refine dK (N:=4) rfl ?_);refine bF (fun hng=>?_))
 refine hng ?_;clear hng;refine dM ?hg (N:=4) ?hd (cs:= #[.slice A1 ws.length c1,.int .i64 y,.int .i64 t,.int .i64 o,.slice A4 cd.length c4]) (t:=29) ?hr ?_
 (case hd=>rfl)
 (case hg=>rfl)
 (case hr=>first|(go_simp;done)|(go_simp;rfl))
 intro gp hg w1 hbox hb;have BP:=aK hbox;replace HB:=aK (bK HB.out hb);clear hb hbox hg
 go_wp2_with ((with_reducible refine dK (N:=6) rfl ?_);refine bF (fun hng=>?_))
 refine hng ?_;clear hng;refine dM ?hg (N:=6) ?hd (cs:= #[.slice none 0 0,.int .i64 0,.int .i64 0,.int .i64 0,.slice none 0 0]) (t:=29) ?hr ?_
 (case hd=>rfl)
 (case hg=>rfl)
 (case hr=>first|(go_simp;done)|(go_simp;rfl))
 intro gr hg w2 hbox hb;have BR:=aK hbox;have HGr:=aK (show w.heap.size≤gr by rw [hg];exact bW HB.out);replace BP:=aK (bS BP.out hb);replace HB:=aK (bK HB.out hb);have HPL:=aK (And.intro (dN BP.out) (dN BR.out));clear hb hbox hg;replace HR0:=aK (cG HR0.out HB.out);replace HR1:=aK (cG HR1.out HB.out);replace HR4:=aK (cG HR4.out HB.out);replace HR2:=aK (cG HR2.out HB.out);have p0:=(bA BP.out 0).trans rfl;have p1:=(bA BP.out 1).trans rfl;have p2:=(bA BP.out 2).trans rfl;have p3:=(bA BP.out 3).trans rfl;have p4:=(bA BP.out 4).trans rfl;have i1:=bO HSZ.out.2.1;go_wp2;refine sT 9 (S:=fun w'=>Aside0 (Below w2.heap.size w2 w')∧w'.cell? ⟨gp,0,none⟩=some (.slice A1 ws.length c1)∧w'.cell? ⟨gp,1,none⟩=some (.int .i64 y)∧w'.cell? ⟨gp,2,none⟩=some (.int .i64 t)∧w'.cell? ⟨gp,3,none⟩=some (.int .i64 o)∧w'.cell? ⟨gp,4,none⟩=some (.slice A4 cd.length c4)) (ds:=[7]) ⟨⟨bG (bH _ _)⟩,(by go_simp),(by go_simp),(by go_simp),(by go_simp),(by go_simp)⟩ (fun hHeld=>?_);refine pS 0 16 #[true,false,false,false,false,false,false,false,false] ?_;refine pS 3 19 #[true,false,false,true,false,false,false,false,false] ?_;refine tS 1 17 #[true,true,false,true,false,false,false,false,false] rfl rfl (by kernel_rfl) hHeld pK ?_;refine tS 4 20 #[true,true,false,true,true,false,false,false,false] rfl rfl (by kernel_rfl) hHeld pK ?_;refine bJi (σ:=Nat×Nat×Option Addr×Nat×Option Addr×Nat) 3 #[true,true,true,true,true,true,false,false,false] (fun s=>[(18,.agg #[.slice (some ⟨s.1,0,none⟩) ws.length s.2.1,.int .i64 y,.int .i64 t,.int .i64 o,.slice s.2.2.1 cd.length s.2.2.2.1]),(21,.slice s.2.2.2.2.1 (List.replicate y.toNat (0:Int)).length s.2.2.2.2.2)]) (fun s w'=>Kd.R (Kd.int .i64) 3 w' w2.heap.size (fun k_=>some k_≠bDv s.2.2.2.2.1) (.slice (some ⟨s.1,0,none⟩) ws.length s.2.1) ws∧Kd.R (Kd.int .i64) 3 w' w2.heap.size (fun k_=>k_≠s.1) (.slice s.2.2.2.2.1 (List.replicate y.toNat (0:Int)).length s.2.2.2.2.2) (List.replicate y.toNat (0:Int))∧Kd.R Kd.bool 4 w' w2.heap.size (fun _=>True) (.slice s.2.2.1 cd.length s.2.2.2.1) cd∧(Aside0 (Below w2.heap.size w2 w')∧w'.cell? ⟨gp,0,none⟩=some (.slice A1 ws.length c1)∧w'.cell? ⟨gp,1,none⟩=some (.int .i64 y)∧w'.cell? ⟨gp,2,none⟩=some (.int .i64 t)∧w'.cell? ⟨gp,3,none⟩=some (.int .i64 o)∧w'.cell? ⟨gp,4,none⟩=some (.slice A4 cd.length c4))) ?_ ?_;rotate_left
 ·intro hCont
  refine bIh (i:=2) (j:=5) (Ni:=some 18) (Nj:=some 21) #[true,true,true,true,true,false,false,false,false] #[true,true,false,true,true,true,false,false,false] rfl rfl rfl rfl (by kernel_rfl) (by decide) (by decide) (fun K hK=>?_) (fun K hK=>?_)
  ·skip
   refine gO Try.func44 #[.agg #[.slice A1 ws.length c1,.int .i64 y,.int .i64 t,.int .i64 o,.slice A4 cd.length c4]] ?_;(with_reducible refine (yS A1 c1 ws y t o A4 c4 cd ws y t o cd _ (cG HR1.out hHeld.1.out) HC1.out (cG HR4.out hHeld.1.out) HC4.out HCP.out).mono ?_);rintro e wa ⟨u,v,rfl,hu,hv,hbwa⟩;obtain ⟨gw,cW,e_,_,_,_⟩:=pG hu (by have:=HSZ.out;omega);subst e_;obtain ⟨AC,cC,e_⟩:=cL hv;subst e_;have HU:=aK (dE hu hHeld.1.out.size);have HV:=aK (dE hv hHeld.1.out.size);clear hu hv;refine ⟨_,rfl,?_⟩;refine hK.out _ _ ⟨⟨bK hHeld.1.out hbwa⟩,(bDe hbwa hHeld.2)⟩ (fun hHeld=>?_);clear hK K;refine nS 18 ?_;refine pD (i:=5) (N:=some 21) #[true,true,true,true,true,true,false,false,false] rfl rfl (by kernel_rfl) (by decide) (fun K hK=>?_);refine sV (Kd.int .i64) _ 3 (by rfl) (N:=21) rfl 23 _ _ rfl y rfl rfl Try.underlying23 (.int .i64 0) 8 qT rfl (by decide) (by omega) 0 (ok:=fun _=>True) (okp:=fun _=>True) rfl (fun _ hk=>hk) dT HSZ.out.2.1 (by have:=HSZ.out;omega) (bH _ _) (bV _) ?_;intro v1 wb hm hbwb _ _;obtain ⟨AT,cT,e_⟩:=cL hm;subst e_;have HM_:=aK (dE (Kd.R_newR hm HU.out) hHeld.1.out.size);replace HU:=aK (Kd.R_elder HU.out hm hbwb);replace HV:=aK (bZ HV.out hbwb);clear hm;refine hK.out _ _ ⟨⟨bK hHeld.1.out hbwb⟩,(bDe hbwb hHeld.2)⟩ (fun hHeld=>?_);clear hK K;refine nS 21 ?_;exact sH bCw (hCont (gw,cW,AC,cC,AT,cT) _ ⟨cI HU.out (fun k_ h_=>by rw [←yC AT (List.replicate y.toNat (0:Int)).length cT];exact h_.2),cI HM_.out (fun k_ h_ e_=>h_.2 (by rw [e_];rfl)),HV.out,hHeld⟩)
  ·skip
   refine sV (Kd.int .i64) _ 3 (by rfl) (N:=21) rfl 23 _ _ rfl y rfl rfl Try.underlying23 (.int .i64 0) 8 qT rfl (by decide) (by omega) 0 (ok:=fun _=>True) (okp:=fun _=>True) rfl (fun _ hk=>hk) dT HSZ.out.2.1 (by have:=HSZ.out;omega) (bH _ _) (bV _) ?_;intro v1 wa hm hbwa _ _;obtain ⟨AT,cT,e_⟩:=cL hm;subst e_;have HM_:=aK (dE hm hHeld.1.out.size);clear hm;refine hK.out _ _ ⟨⟨bK hHeld.1.out hbwa⟩,(bDe hbwa hHeld.2)⟩ (fun hHeld=>?_);clear hK K;refine nS 21 ?_;refine oS 2 18 #[true,true,true,true,true,true,false,false,false] rfl rfl (fun K hK=>?_);refine gO Try.func44 #[.agg #[.slice A1 ws.length c1,.int .i64 y,.int .i64 t,.int .i64 o,.slice A4 cd.length c4]] ?_;(with_reducible refine (yS A1 c1 ws y t o A4 c4 cd ws y t o cd _ (cG HR1.out hHeld.1.out) HC1.out (cG HR4.out hHeld.1.out) HC4.out HCP.out).mono ?_);rintro e wb ⟨u,v,rfl,hu,hv,hbwb⟩;obtain ⟨gw,cW,e_,_,_,_⟩:=pG hu (by have:=HSZ.out;omega);subst e_;obtain ⟨AC,cC,e_⟩:=cL hv;subst e_;have HU:=aK (dE (Kd.R_newR hu HM_.out) hHeld.1.out.size);have HV:=aK (dE hv hHeld.1.out.size);replace HM_:=aK (Kd.R_elder HM_.out hu hbwb);clear hu hv;refine ⟨_,rfl,?_⟩;refine hK.out _ _ ⟨⟨bK hHeld.1.out hbwb⟩,(bDe hbwb hHeld.2)⟩ (fun hHeld=>?_);clear hK K;refine nS 18 ?_;exact sH bCw (hCont (gw,cW,AC,cC,AT,cT) _ ⟨cI HU.out (fun k_ h_=>by rw [←yC AT (List.replicate y.toNat (0:Int)).length cT];exact h_.2),cI HM_.out (fun k_ h_ e_=>h_.2 (by rw [e_];rfl)),HV.out,hHeld⟩)
 rintro ⟨gw,cW,AC,cC,AT,cT⟩ w3 ⟨hu,hm,hv,hHeld⟩;have HU:=aK hu;have HM_:=aK hm;have HV:=aK hv;clear hu hm hv;refine sH (a':=?_) ?_ ?_;rotate_left
 ·simp only [zZ, Act.put, dU, fY, fT]
  rfl
 refine pS 6 22 #[true,true,true,true,true,true,true,false,false] ?_;refine qL (i:=7) (N:=some 23) #[true,true,true,true,true,true,true,true,false] rfl rfl (by kernel_rfl) (by decide) (fun K hK=>?_);refine rH (w1:=?_) (v:=?_) (by rfl) rfl ?_ ?_;rotate_left 2
 ·go_simp
  constructor
  ·rfl
  ·rfl
 refine hK.out _ _ ?_;clear hK K;refine nS 23 ?_;refine pS 8 9 #[true,true,true,true,true,true,true,true,true] ?_;refine gT (by kernel_rfl) ?_;clear i1 p0 p1 p2 p3 p4;dsimp only at HU HM_ HV;have HW:=aK hHeld.1.out;clear hHeld;have hbx:=kU w3 (.cells #[.slice A0 l0.length c0,.slice (some ⟨gw,0,none⟩) ws.length cW,.int .i64 y,.int .i64 t,.int .i64 o,.slice AC cd.length cC,.slice AT y.toNat cT,.bool true] 77 (0,0));have hbb:Below w3.heap.size w3 (w3.alloc (.cells #[.slice A0 l0.length c0,.slice (some ⟨gw,0,none⟩) ws.length cW,.int .i64 y,.int .i64 t,.int .i64 o,.slice AC cd.length cC,.slice AT y.toNat cT,.bool true] 77 (0,0))):=bJ (bH _ _) _
 generalize w3.alloc (.cells #[.slice A0 l0.length c0,.slice (some ⟨gw,0,none⟩) ws.length cW,.int .i64 y,.int .i64 t,.int .i64 o,.slice AC cd.length cC,.slice AT y.toNat cT,.bool true] 77 (0,0))=w4 at hbx hbb ⊢;obtain ⟨gx,hgx⟩: ∃g,g=w3.heap.size:=⟨_,rfl⟩;rw [←hgx] at hbx ⊢;have HG:=aK (show Xg w2.heap.size w2 gx gw A0 l0.length c0 cW AC cC AT cT w4 (bNh ws y t o cd) from ⟨by show w4.heap[gx]? =some (.cells #[.slice A0 l0.length c0,.slice (some ⟨gw,0,none⟩) ws.length cW,.int .i64 y,.int .i64 t,.int .i64 o,.slice AC cd.length cC,.slice AT (List.replicate y.toNat (0:Int)).length cT,.bool true] 77 (0,0));rw [fI];exact hbx,by rw [hgx];exact HW.out.size,cI (bZ (fZ HU.out) hbb) (fun k_ h_=>⟨by have:=h_.2.2.1;omega,h_.1⟩),cI (bZ (fZ HM_.out) hbb) (fun k_ h_=>⟨by have:=h_.2.2.1;omega,h_.1⟩),bZ (jC (enc:=Value.bool) (h1:=fun _=>rfl) (jO (enc:=Value.bool) (h1:=fun _=>rfl) HV.out) (fun k_ h_=>⟨by have:=pM HV.out k_ h_;omega,fun e_=>bBb HV.out HU.out (by decide) k_ h_ (by rw [e_];rfl),fun e_=>bBb HV.out HM_.out (by decide) k_ h_ (by rw [yC];exact e_.symm)⟩)) hbb,bK HW.out hbb,dO HW.out.size hbb.size⟩);replace BP:=aK (bS (bS BP.out HW.out) hbb);replace BR:=aK (bS (bS BR.out HW.out) hbb);have HPl:=aK (show gp<w2.heap.size∧gr<w2.heap.size by exact HPL.out);clear HU HM_ HV hbx hbb hgx HW;have p0:=(bA BP.out 0).trans rfl;have p1:=(bA BP.out 1).trans rfl;have p2:=(bA BP.out 2).trans rfl;have p3:=(bA BP.out 3).trans rfl;have p4:=(bA BP.out 4).trans rfl
 go_wp2_with (go_at_call 45;refine bF (fun hng=>?_))
 refine hng ?_;clear hng;refine (pV k A0 c0 l0 A1 c1 ws y o P.1 P.2 _ (cG HR0.out HG.out.be) HC0.out (cG HR1.out HG.out.be) HC1.out H1.out).mono ?_;rintro e w5 ⟨vp,rfl,hp,hb⟩;have HOl:=aK (HG.out.fresh hp);replace HG:=aK (HG.out.below hb);replace HOl:=aK HOl.out;replace BP:=aK (bS BP.out hb);replace BR:=aK (bS BR.out hb);obtain ⟨AP,cP,rfl⟩:=cL HOl.out;clear hp hb p0 p1 p2 p3 p4;replace HOl:=aK (jC (enc:=Value.int .i64) (h1:=fun _=>rfl) (jO (enc:=Value.int .i64) (h1:=fun _=>rfl) HOl.out) (fun k_ h_=>(show¬S3 gx gw AT k_∧some k_=bDv AP from ⟨HOl.out.1 k_ h_,by rw [←h_,yC]⟩)));go_wp2;have hb:Below w5.heap.size w5 (w5.alloc (.cells #[] 3 (0,0))):=bJ (bH _ _) _
 have HOut:=aK (show Kd.R (Kd.int .i64) 3 (w5.alloc (.cells #[] 3 (0,0))) w2.heap.size (fun k_=> ¬S3 gx gw AT k_∧some k_≠bDv AP) (.slice (some ⟨w5.heap.size,0,none⟩) ([]:List Int).length 0) [] from dE (jC (enc:=Value.int .i64) (h1:=fun _=>rfl) (bDu (enc:=Value.int .i64) w5 w5.heap.size 3 [] (bV _) (by simp)) (fun k_ h_=>by injection h_ with h_;subst h_;exact ⟨fun h3=>Nat.lt_irrefl _ (HG.out.s3lt _ h3),fun e_=>Nat.lt_irrefl _ (pM HOl.out _ (by rw [yC];exact e_.symm))⟩)) HG.out.sz);replace HG:=aK (HG.out.below hb);replace HOl:=aK (bZ HOl.out hb);replace BP:=aK (bS BP.out hb);replace BR:=aK (bS BR.out hb);clear hb;generalize w5.alloc (.cells #[] 3 (0,0))=w6 at HG HOl HOut BP BR ⊢
 go_loopw [12,13] (fun v12 v13 wr=> ∃(k_:Nat) (t_:Xv) (out:List Int) (AQ:Option Addr) (cQ:Nat),v13= .int .i64 (k_:Int)∧v12= .slice AQ out.length cQ∧Aside0 (k_≤roots.length∧out.length=k_∧bBr k l0 t_ out (roots.drop k_)=some (s1,outF))∧Aside0 (Xg w2.heap.size w2 gx gw A0 l0.length c0 cW AC cC AT cT wr t_)∧Aside0 (Kd.R (Kd.int .i64) 3 wr w2.heap.size (fun k_=> ¬S3 gx gw AT k_∧some k_=bDv AP) (.slice AP P.1.length cP) P.1)∧Aside0 (Kd.R (Kd.int .i64) 3 wr w2.heap.size (fun k_=> ¬S3 gx gw AT k_∧some k_≠bDv AP) (.slice AQ out.length cQ) out)∧Aside0 (wr.heap[gp]? =some (.cells #[.slice A1 ws.length c1,.int .i64 y,.int .i64 t,.int .i64 o,.slice A4 cd.length c4] 29 (0,0)))∧Aside0 (wr.heap[gr]? =some (.cells #[.slice none 0 0,.int .i64 0,.int .i64 0,.int .i64 0,.slice none 0 0] 29 (0,0)))) (fun _ v13 _=>roots.length - (intOf v13).toNat)
 case atStart=>exact ⟨0,bNh ws y t o cd,[],_,_,rfl,rfl,⟨hU _,rfl,H2.out⟩,HG,HOl,HOut,BP,BR⟩
 case round =>
  clear HG HOl HOut BP BR H2;obtain ⟨k_,t_,out,AQ,cQ,rfl,rfl,HT0,HG,HOl,HOut,BP,BR⟩:=hrel;by_cases cx:(k_:Int)<(roots.length:Int)
  ·have d3 : decide ((k_ : Int) < (roots.length : Int)) = true := bD cx
   have d3b:=bO (show k_<roots.length by omega);have hlt:k_<roots.length:=by omega
   have hd:=fO hlt;have hg_:roots[k_]=rd roots k_:=by unfold rd;rw [dF,bP,bT hlt];rfl
   obtain ⟨ad,e0,hcell⟩:=dL (cG HR2.out HG.out.be) k_ (by omega) (by omega)
   cases e0
   rw [dF] at hcell;obtain ⟨x,hx⟩: ∃x,x=rd roots k_:=⟨_,rfl⟩;rw [←hx] at hcell;have hp:=HT0.out.2.2;rw [hd,hg_,←hx] at hp;unfold bBr at hp;obtain ⟨⟨v,t1⟩,hm,hp⟩:=Option.bind_eq_some_iff.mp hp;dsimp only at hp;have HM:=aK hm;have HP:=aK hp;have HK1:=aK hlt;have HOL:=aK HT0.out.2.1;have i1:=bO (show 0≤(k_:Int) by omega);have i2:=bO cx;have u3:IntKind.i64.wrap ((k_:Int)+1)=(k_:Int)+1:=dD _ (by have:=HSZ.out;omega)
   clear hd hg_ hx hm hp cx hlt HT0
   go_wp2_with (go_at_call 46;refine bF (fun hng=>?_))
   refine hng ?_;clear hng;refine (tK k _ w2 gx gw A0 c0 cW l0 AC cC AT cT t_ t1 x v _ HR0.out HC0.out rfl HG.out HM.out).mono ?_;rintro e w7 ⟨rfl,hg,hc⟩;replace BP:=aK (hc.blk BP.out (fun h_=>by have:=HG.out.s3ge gp h_;have:=HPl.out;omega));replace BR:=aK (hc.blk BR.out (fun h_=>by have:=HG.out.s3ge gr h_;have:=HPl.out;omega));replace HOl:=aK (hc.R HOl.out (fun k_ h_=>h_.1));replace HOut:=aK (hc.R HOut.out (fun k_ h_=>h_.1));replace HG:=aK hg;clear hg hc hcell
   go_wp2_with ((with_reducible refine jK (b:= .append) (xs:= #[.tmp 42,.tmp 49]) rfl ?_);refine bF (fun hng=>?_))
   refine hng ?_;clear hng;refine sE (Kd.int .i64) (w0:=w2) w2.heap.size rfl (.tmp 42) (.tmp 49) 23 3 (.int .i64 0) 8 rfl Try.underlying23 qT rfl (by decide) (by omega) _ out v [.int .i64 v] (fun k_=> ¬S3 gx gw AT k_∧some k_≠bDv AP) (fun _=>False) rfl rfl ?aP (fun _ hk=>hk.elim) ?aF ?aO ?aB ?aS ?aL ?_
   (case aP=>exact rfl)
   (case aF=>exact fun k_ h_=>⟨fun h3=>by have:=HG.out.s3lt k_ h3;omega,fun e_=>by have:=pM HOl.out k_ (by rw [yC];exact e_.symm);omega⟩)
   (case aO=>exact HOut.out)
   (case aB=>exact HG.out.be)
   (case aS=>exact HG.out.sz)
   (case aL=>have:=HOL.out;have:=HK1.out;have:=HSZ.out;omega)
   intro v92 w8 ho hbn hgr hat;have hc:Ch (fun k=>some k=(Value.slice AQ out.length cQ).ownBlock) w7 w8:=⟨hgr.os,hgr.tape,hgr.output,hgr.size,fun k hk hn=>hgr.block k hk hn⟩
   replace HG:=aK (HG.out.other hc (fun k_ h_=>(HOut.out.1 k_ h_.symm).1) (fun k_ h_ h2=>bBb HOut.out HG.out.rc (by decide) k_ h_.symm h2) (fun k_ h_=>nN HOut.out k_ h_.symm));replace HOl:=aK (hc.R HOl.out (fun k_ h_ h2=>(HOut.out.1 k_ h2.symm).2 h_.2));replace BP:=aK (hc.blk BP.out (fun h_=>by have:=nN HOut.out gp h_.symm;have:=HPl.out;omega));replace BR:=aK (hc.blk BR.out (fun h_=>by have:=nN HOut.out gr h_.symm;have:=HPl.out;omega));obtain ⟨AN,cN,rfl⟩:=cL ho;replace HOut:=aK ho;clear hc ho hbn hgr hat;go_wp2
   go_roundw
   case rel=>exact ⟨k_+1,t1,out++[v],AN,cN,rfl,by rw [cH];rfl,⟨HK1.out,by rw [cH,HOL.out];rfl,HP.out⟩,HG,HOl,HOut,BP,BR⟩
   case measure=>have:=HK1.out;simp only [intOf];omega
  ·have d3 : decide ((k_ : Int) < (roots.length : Int)) = false := bM cx
   have d3b:=pO (show¬k_<roots.length by omega);have hp:=HT0.out.2.2;rw [hZ (by omega)] at hp;unfold bBr at hp;obtain ⟨rfl,rfl⟩:=Prod.mk.inj (bE hp);clear hp HT0 cx;go_wp2
   go_loopw [14] (fun v14 wr=> ∃(k_:Nat) (t_:Xv),v14= .int .i64 (k_:Int)∧Aside0 (k_≤P.1.length∧bFv k l0 t_ (P.1.drop k_)=some s2)∧Aside0 (Xg w2.heap.size w2 gx gw A0 l0.length c0 cW AC cC AT cT wr t_)∧Aside0 (Kd.R (Kd.int .i64) 3 wr w2.heap.size (fun k_=> ¬S3 gx gw AT k_∧some k_=bDv AP) (.slice AP P.1.length cP) P.1)∧Aside0 (Kd.R (Kd.int .i64) 3 wr w2.heap.size (fun k_=> ¬S3 gx gw AT k_∧some k_≠bDv AP) (.slice AQ out.length cQ) out)∧Aside0 (wr.heap[gp]? =some (.cells #[.slice A1 ws.length c1,.int .i64 y,.int .i64 t,.int .i64 o,.slice A4 cd.length c4] 29 (0,0)))∧Aside0 (wr.heap[gr]? =some (.cells #[.slice none 0 0,.int .i64 0,.int .i64 0,.int .i64 0,.slice none 0 0] 29 (0,0)))) (fun v14 _=>P.1.length - (intOf v14).toNat)
   case atStart=>exact ⟨0,_,rfl,⟨hU _,H3.out⟩,HG,HOl,HOut,BP,BR⟩
   case round =>
    clear HG HOl HOut BP BR H3;obtain ⟨k_,t_,rfl,HT0,HG,HOl,HOut,BP,BR⟩:=hrel;by_cases cx:(k_:Int)<(P.1.length:Int)
    ·have d3 : decide ((k_ : Int) < (P.1.length : Int)) = true := bD cx
     have d3b:=bO (show k_<P.1.length by omega);have HML:=aK (Kd.C_max (cD HOl.out).2.2);have hlt:k_<P.1.length:=by omega
     have hd:=fO hlt;have hg_:P.1[k_]=rd P.1 k_:=by unfold rd;rw [dF,bP,bT hlt];rfl
     obtain ⟨ad,e0,hcell⟩:=dL ((cD HOl.out).2.2) k_ (by omega) (by omega)
     cases e0
     rw [dF] at hcell;obtain ⟨x,hx⟩: ∃x,x=rd P.1 k_:=⟨_,rfl⟩;rw [←hx] at hcell;have hp:=HT0.out.2;rw [hd,hg_,←hx] at hp;unfold bFv at hp;obtain ⟨t1,hm,hp⟩:=Option.bind_eq_some_iff.mp hp;have HM:=aK hm;have HP:=aK hp;have HK1:=aK hlt;have i1:=bO (show 0≤(k_:Int) by omega);have i2:=bO cx;have u3:IntKind.i64.wrap ((k_:Int)+1)=(k_:Int)+1:=dD _ (by have:=HML.out;omega)
     clear hd hg_ hx hm hp cx hlt HT0
     go_wp2_with (go_at_call 47;refine bF (fun hng=>?_))
     refine hng ?_;clear hng;refine (xV k _ w2 gx gw A0 c0 cW l0 AC cC AT cT t_ t1 x true _ HR0.out HC0.out rfl HG.out HM.out).mono ?_;rintro e w7 ⟨rfl,hg,hc⟩;replace BP:=aK (hc.blk BP.out (fun h_=>by have:=HG.out.s3ge gp h_;have:=HPl.out;omega));replace BR:=aK (hc.blk BR.out (fun h_=>by have:=HG.out.s3ge gr h_;have:=HPl.out;omega));replace HOl:=aK (hc.R HOl.out (fun k_ h_=>h_.1));replace HOut:=aK (hc.R HOut.out (fun k_ h_=>h_.1));replace HG:=aK hg;clear hg hc hcell;go_wp2
     go_roundw
     case rel=>exact ⟨k_+1,t1,rfl,⟨HK1.out,HP.out⟩,HG,HOl,HOut,BP,BR⟩
     case measure=>have:=HK1.out;simp only [intOf];omega
    ·have d3 : decide ((k_ : Int) < (P.1.length : Int)) = false := bM cx
     have d3b:=pO (show¬k_<P.1.length by omega);have hp:=HT0.out.2;rw [hZ (by omega)] at hp;unfold bFv at hp;obtain rfl:=bE hp;clear hp HT0 cx;have p3:=(bA BP.out 3).trans rfl;go_wp2;clear p3
     go_loopw [15] (fun v15 wr=> ∃(q_:Nat) (i_:Int) (t_:Xv),v15= .int .i64 i_∧Aside0 (bHf k l0 q_ i_ t_=some s3)∧Aside0 (Xg w2.heap.size w2 gx gw A0 l0.length c0 cW AC cC AT cT wr t_)∧Aside0 (Kd.R (Kd.int .i64) 3 wr w2.heap.size (fun k_=> ¬S3 gx gw AT k_∧some k_≠bDv AP) (.slice AQ out.length cQ) out)∧Aside0 (wr.heap[gp]? =some (.cells #[.slice A1 ws.length c1,.int .i64 y,.int .i64 t,.int .i64 o,.slice A4 cd.length c4] 29 (0,0)))∧Aside0 (wr.heap[gr]? =some (.cells #[.slice none 0 0,.int .i64 0,.int .i64 0,.int .i64 0,.slice none 0 0] 29 (0,0)))) (fun v15 _=>(2000000 - intOf v15).toNat)
     case atStart=>exact ⟨k,o,_,rfl,H4,HG,HOut,BP,BR⟩
     case round=>
      clear HG HOut BP BR H4;obtain ⟨q_,i_,t_,rfl,HT0,HG,HOut,BP,BR⟩:=hrel;have q4:=(bA HG.out.bx 4).trans rfl;have hp:=HT0.out
      cases q_ with
      |zero=>
       unfold bHf at hp;simp at hp
      | succ q_ =>
       unfold bHf at hp;by_cases cx:i_<t_.o
       ·rw [if_pos cx] at hp
        have d3:decide (i_<t_.o)=true:=bD cx
        obtain ⟨t1,hm,hp⟩:=Option.bind_eq_some_iff.mp hp;obtain ⟨n,hn,hp⟩:=Option.bind_eq_some_iff.mp hp
        split at hp
        case isFalse=>simp at hp
        case isTrue hx=>
        have HM:=aK hm;have HN:=aK hn;have HX:=aK hx;have HP:=aK hp;obtain ⟨i2,hi2⟩: ∃z,z=i_+n:=⟨_,rfl⟩;have v1:wrap64 (i_+n)=i2:=by rw [hi2];unfold wrap64;omega
        have HI2:=aK hi2;clear hm hn hp hx cx HT0 hi2
        go_wp2_with (go_at_call 47;refine bF (fun hng=>?_))
        refine hng ?_;clear hng;refine (xV k _ w2 gx gw A0 c0 cW l0 AC cC AT cT t_ t1 i_ false _ HR0.out HC0.out rfl HG.out HM.out).mono ?_;rintro e w7 ⟨rfl,hg,hc⟩;replace BP:=aK (hc.blk BP.out (fun h_=>by have:=HG.out.s3ge gp h_;have:=HPl.out;omega));replace BR:=aK (hc.blk BR.out (fun h_=>by have:=HG.out.s3ge gr h_;have:=HPl.out;omega));replace HOut:=aK (hc.R HOut.out (fun k_ h_=>h_.1));replace HG:=aK hg;clear hg hc q4;have q1:=(bA HG.out.bx 1).trans rfl;go_wp2;refine sT 17 (S:=fun w'=>w'.cell? ⟨gx,1,none⟩=some (.slice (some ⟨gw,0,none⟩) t1.ws.length cW)) (ds:=[14]) ((by go_simp)) (fun hHeld=>?_);replace HG:=aK (HG.out.below (bG (bH w7.heap.size w7)));replace HOut:=aK (bZ HOut.out (bG (bH w7.heap.size w7)));replace BP:=aK (bS BP.out (bG (bH w7.heap.size w7)));replace BR:=aK (bS BR.out (bG (bH w7.heap.size w7)));generalize World.drew w7=wt at HG HOut BP BR hHeld ⊢;refine cJ 0 ?_;refine cJ 1 ?_;refine cJ 2 ?_;refine cJ 3 ?_;refine cJ 4 ?_;refine cJ 5 ?_;refine cJ 7 ?_;refine cJ 8 ?_;refine cJ 9 ?_;refine cJ 10 ?_;refine cJ 11 ?_;refine tS 6 78 (lA 17 4095) rfl rfl (by kernel_rfl) hHeld (by intro w' s0;go_simp;with_reducible rfl) ?_;refine tS 12 84 (lA 17 8191) rfl rfl (by kernel_rfl) hHeld (by intro w' s0;go_simp;with_reducible rfl) ?_;refine cJ 13 ?_;refine qL (i:=14) (N:=some 86) (lA 17 32767) rfl rfl (by kernel_rfl) (by decide) (fun K hK=>?_);refine gO Try.func48 #[.slice A0 l0.length c0,.slice (some ⟨gw,0,none⟩) t1.ws.length cW,.int .i64 i_,.int .i64 (t1.ws.length:Int)] ?_;(with_reducible refine (pR k A0 c0 l0 (some ⟨gw,0,none⟩) cW t1.ws i_ (t1.ws.length:Int) n _ (cG HR0.out HG.out.be) HC0.out (cD HG.out.rw_).2.2 (cD HG.out.rw_).2.1 HN.out).mono ?_);rintro e w9 ⟨rfl,hb⟩;replace HG:=aK (HG.out.below hb);replace HOut:=aK (bZ HOut.out hb);replace BP:=aK (bS BP.out hb);replace BR:=aK (bS BR.out hb);clear hb;refine ⟨_,rfl,?_⟩;refine hK.out _ _ ?_;clear hK K;refine nS 86 ?_;refine cJ 15 ?_;refine cJ 16 ?_;refine gT (by kernel_rfl) ?_;clear hHeld q1;go_wp2
        go_roundw
        case rel=>exact ⟨q_,i2,t1,rfl,⟨by rw [HI2.out];exact HP.out⟩,HG,HOut,BP,BR⟩
        case measure=>have:=HX.out;have:=HI2.out;simp only [intOf];omega
       ·rw [if_neg cx] at hp
        have d3:decide (i_<t_.o)=false:=bM cx
        obtain rfl:=bE hp;clear hp HT0 cx;have q7:=(bA HG.out.bx 7).trans rfl
        cases hok:t_.ok with
        |false=>
         have h:=H.out;rw [if_pos hok] at h;obtain rfl:=bE h;rw [hok] at q7;clear h H hok;have HBR:=fun o=>bQ BR.out o
         have z0: ∀o,(wr.alloc o).cell? ⟨gr,0,none⟩=_:=fun o=>(bA (bQ BR.out o) 0).trans rfl;have z1: ∀o,(wr.alloc o).cell? ⟨gr,1,none⟩=_:=fun o=>(bA (bQ BR.out o) 1).trans rfl;have z2: ∀o,(wr.alloc o).cell? ⟨gr,2,none⟩=_:=fun o=>(bA (bQ BR.out o) 2).trans rfl;have z3: ∀o,(wr.alloc o).cell? ⟨gr,3,none⟩=_:=fun o=>(bA (bQ BR.out o) 3).trans rfl;have z4: ∀o,(wr.alloc o).cell? ⟨gr,4,none⟩=_:=fun o=>(bA (bQ BR.out o) 4).trans rfl
         have f0: ∀o,(wr.alloc o).frozen? ⟨gr,0,none⟩=false:=fun o=>bL (bQ BR.out o) 0;have f1: ∀o,(wr.alloc o).frozen? ⟨gr,1,none⟩=false:=fun o=>bL (bQ BR.out o) 1;have f2: ∀o,(wr.alloc o).frozen? ⟨gr,2,none⟩=false:=fun o=>bL (bQ BR.out o) 2;have f3: ∀o,(wr.alloc o).frozen? ⟨gr,3,none⟩=false:=fun o=>bL (bQ BR.out o) 3;have f4: ∀o,(wr.alloc o).frozen? ⟨gr,4,none⟩=false:=fun o=>bL (bQ BR.out o) 4
         go_wp2;refine fM (kG (rs:=[.cell 6 29,.tmp 7,.tmp 8]) rfl (by simp) (.cell gr 29 #[.slice none 0 0,.int .i64 0,.int .i64 0,.int .i64 0,.slice none 0 0] (0,0) _ rfl (jH (HBR _)) Try.underlying29 rfl (by kernel_rfl) (.tmp (.tmp .nil)))) rfl ?_;have hbw:Below w2.heap.size w2 (wr.alloc (.cells #[] 3 (0,0))):=HG.out.be.trans ((bJ (bH _ _) _).mono HG.out.sz)
         exact ⟨_,_,.slice (some ⟨wr.heap.size,0,none⟩) 0 0,rfl,mI _ _ _ _ _,mI _ _ _ _ _,cI (pC (dE (jC (enc:=Value.int .i64) (h1:=fun _=>rfl) (bDu (enc:=Value.int .i64) wr wr.heap.size 3 [] (bV _) (by simp)) (fun k_ h_=>(show True from dT))) (dO (bW HB.out) HG.out.sz)) (HBR _) (by decide)) (fun k_ h_ e_=>by cases e_),(HB.out.trans (hbw.mono (bW HB.out))).trans ((Ch.box5 (Ch.refl (fun k=>k=gr) (wr.alloc (.cells #[] 3 (0,0)))) (.inl rfl) _ _ _ _ _).toBelow (dO (bW HB.out) (hbw).size) (fun k hk=>by rw [hk];exact HGr.out))⟩
        |true=>
         have h:=H.out;rw [if_neg (by rw [hok];simp)] at h;obtain ⟨⟨e1,e2,e3,e4,e5⟩,hcl,h⟩:=Option.bind_eq_some_iff.mp h;obtain rfl:=bE h;rw [hok] at q7;have HCL:=aK hcl;clear h H hok hcl;have q1:=(bA HG.out.bx 1).trans rfl;have q2:=(bA HG.out.bx 2).trans rfl;have q3:=(bA HG.out.bx 3).trans rfl;have q4:=(bA HG.out.bx 4).trans rfl;have q5:=(bA HG.out.bx 5).trans rfl
         go_wp2_with (go_at_call 49;refine bF (fun hng=>?_))
         refine hng ?_;clear hng;refine (bDb k (fun k_=>k_=gw) (.slice (some ⟨gw,0,none⟩) t_.ws.length cW) t_.ws t_.y t_.t t_.o (fun k_=>(Value.slice AC t_.cd.length cC).ownBlock=some k_) (.slice AC t_.cd.length cC) t_.cd e1 e2 e3 e4 e5 w2 _ HG.out.be (jC (enc:=Value.int .i64) (h1:=fun _=>rfl) (jO (enc:=Value.int .i64) (h1:=fun _=>rfl) HG.out.rw_) (fun k_ h_=>by injection h_ with h_;exact h_.symm)) (jC (enc:=Value.bool) (h1:=fun _=>rfl) (jO (enc:=Value.bool) (h1:=fun _=>rfl) HG.out.rc) (fun k_ h_=>h_)) HCL.out).mono ?_;rintro e w9 ⟨v0,v4,rfl,h0,h4,hb,hk⟩;have HON:=aK (Kd.R_kept (jC (enc:=Value.int .i64) (h1:=fun _=>rfl) (jO (enc:=Value.int .i64) (h1:=fun _=>rfl) HOut.out) (fun k_ h_=>(show (k_≠gw∧(Value.slice AC t_.cd.length cC).ownBlock≠some k_)∧k_<wr.heap.size from ⟨⟨fun e=>(HOut.out.1 k_ h_).1 (.inr (.inl e)),bBb HOut.out HG.out.rc (by decide) k_ h_⟩,pM HOut.out k_ h_⟩))) hk (fun k_ h_ hs_=>hs_.elim h_.1.1 h_.1.2));have HBR:=bHx BR.out hk (fun hs_=>hs_.elim (fun e=>by have:=HG.out.gwge;have:=HPl.out;omega) (fun e=>by have:=nN HG.out.rc gr e;have:=HPl.out;omega));obtain ⟨B0,b0,rfl⟩:=cL h0;obtain ⟨B4,b4,rfl⟩:=cL h4;have HV0:=aK (jC (enc:=Value.int .i64) (h1:=fun _=>rfl) (jO (enc:=Value.int .i64) (h1:=fun _=>rfl) h0) (fun k_ h_=>(show some k_≠(Value.slice AQ out.length cQ).ownBlock from fun e_=>by have a:=h0.1 k_ h_;have b:=HON.out.1 k_ e_.symm;rcases a with (a|a)|a;exact b.1.1 a;exact b.1.2 a;omega)));have HV5:=aK (jC (enc:=Value.int .i64) (h1:=fun _=>rfl) (jO (enc:=Value.int .i64) (h1:=fun _=>rfl) HON.out) (fun k_ h_=>(show some k_≠(Value.slice B0 e1.length b0).ownBlock from fun e_=>HV0.out.1 k_ e_.symm h_.symm)));have HV4:=aK h4;have HBw:=aK hb;clear h0 h4 hb hk q1 q2 q3 q4 q5 q7;have z0:=(bA HBR 0).trans rfl;have z1:=(bA HBR 1).trans rfl;have z2:=(bA HBR 2).trans rfl;have z3:=(bA HBR 3).trans rfl;have z4:=(bA HBR 4).trans rfl;have f0:=bL HBR 0;have f1:=bL HBR 1;have f2:=bL HBR 2;have f3:=bL HBR 3;have f4:=bL HBR 4;go_wp2;refine fM (kG (rs:=[.cell 6 29,.tmp 7,.tmp 8]) rfl (by simp) (.cell gr 29 #[.slice B0 e1.length b0,.int .i64 e2,.int .i64 e3,.int .i64 e4,.slice B4 e5.length b4] (0,0) _ rfl (jH HBR) Try.underlying29 rfl (by kernel_rfl) (.tmp (.tmp .nil)))) rfl ?_;exact ⟨_,_,.slice AQ out.length cQ,rfl,dE (cI (pC HV0.out HBR (by decide)) (fun k_ h_=>by first|exact h_|exact h_.1)) (bW HB.out),dE (cI (pC HV4.out HBR (by decide)) (fun _ _=>trivial)) (bW HB.out),dE (cI (pC HV5.out HBR (by decide)) (fun k_ h_=>by first|exact h_|exact h_.1)) (bW HB.out),(HB.out.trans (HBw.out.mono (bW HB.out))).trans ((Ch.box5 (Ch.refl (fun k=>k=gr) w9) (.inl rfl) _ _ _ _ _).toBelow (dO (bW HB.out) (HBw.out).size) (fun k hk=>by rw [hk];exact HGr.out))⟩
end Go.Proofs.Ytbaklikaoleplaa.K
namespace Go.Proofs.Ytbaklikaoleplaa.K
open Go.RowKit Go.Proofs.YtbaklikaoleplaaW.PrintWords Go.Proofs.YtbaklikaoleplaaW.PrintLast Go.Proofs.YtbaklikaoleplaaW.PrintMore
attribute [local go_sem] gD gB gY gW fR fQ gC gA
set_option linter.unusedVariables false
set_option linter.unusedSimpArgs false
def pA (k:Nat) (l0:List (S53)) (l1_0:List Int) (a1_1:Int) (a1_2:Int) (a1_3:Int) (l1_4:List Bool) (l2:List Int):Option (List Int×Int×Int×Int×List Bool×List Int×Bool):=
  (rS k l0 l1_0 a1_1 a1_2 a1_3 l1_4 l2).bind fun b=>if b=true then (bDx k l0 l1_0 a1_1 a1_2 a1_3 l1_4 l2).bind fun r=>some (yT r) else some (yT none)
theorem bDq (k:Nat) (A0:Option Addr) (c0:Nat) (l0:List (S53)) (A1_0:Option Addr) (c1_0:Nat) (l1_0:List Int) (a1_1:Int) (a1_2:Int) (a1_3:Int) (A1_4:Option Addr) (c1_4:Nat) (l1_4:List Bool) (A2:Option Addr) (c2:Nat) (l2:List Int) (r1:List Int) (r2 r3 r4:Int) (r5:List Bool) (r6:List Int) (r7:Bool) (w:World) (hr0:Kd.C tU w A0 l0.length l0) (hc0:l0.length≤c0) (hr1_0:Kd.C (Kd.int .i64) w A1_0 l1_0.length l1_0) (hc1_0:l1_0.length≤c1_0) (hr1_4:Kd.C Kd.bool w A1_4 l1_4.length l1_4) (hc1_4:l1_4.length≤c1_4) (hr2:Kd.C (Kd.int .i64) w A2 l2.length l2) (hc2:l2.length≤c2) (h:pA k l0 l1_0 a1_1 a1_2 a1_3 l1_4 l2=some (r1,r2,r3,r4,r5,r6,r7)):
  Calls Try.prog 7 #[.slice A0 l0.length c0,.agg #[.slice A1_0 l1_0.length c1_0,.int .i64 a1_1,.int .i64 a1_2,.int .i64 a1_3,.slice A1_4 l1_4.length c1_4],.slice A2 l2.length c2] w fun e w'=> ∃v0_ v4_ v5_:Value,e= .returned (.tuple #[.agg #[v0_,.int .i64 r2,.int .i64 r3,.int .i64 r4,v4_],v5_,.bool r7])∧Kd.R (Kd.int .i64) 3 w' w.heap.size (fun k_=>some k_≠(v5_:Value).ownBlock) v0_ r1∧Kd.R Kd.bool 4 w' w.heap.size (fun _=>True) v4_ r5∧Kd.R (Kd.int .i64) 3 w' w.heap.size (fun k_=>some k_≠(v0_:Value).ownBlock) v5_ r6∧Below w.heap.size w w':=by
 unfold pA at h;obtain ⟨b,hm,h⟩:=Option.bind_eq_some_iff.mp h;have HM:=aK hm;have HR0:=aK hr0;have HC0:=aK hc0;have HR1:=aK hr1_0;have HC1:=aK hc1_0;have HR4:=aK hr1_4;have HC4:=aK hc1_4;have HR2:=aK hr2;have HC2:=aK hc2;have HB:=aK (bJ (bJ (bH w.heap.size w) (.cells #[.slice A1_0 l1_0.length c1_0,.int .i64 a1_1,.int .i64 a1_2,.int .i64 a1_3,.slice A1_4 l1_4.length c1_4] 29 (0,0))) (.cells #[.slice none 0 0,.int .i64 0,.int .i64 0,.int .i64 0,.slice none 0 0] 29 (0,0)));have BR:=aK (bJp w (.cells #[.slice A1_0 l1_0.length c1_0,.int .i64 a1_1,.int .i64 a1_2,.int .i64 a1_3,.slice A1_4 l1_4.length c1_4] 29 (0,0)) (.cells #[.slice none 0 0,.int .i64 0,.int .i64 0,.int .i64 0,.slice none 0 0] 29 (0,0)));have BP:=aK (bQ (kU w (.cells #[.slice A1_0 l1_0.length c1_0,.int .i64 a1_1,.int .i64 a1_2,.int .i64 a1_3,.slice A1_4 l1_4.length c1_4] 29 (0,0))) (.cells #[.slice none 0 0,.int .i64 0,.int .i64 0,.int .i64 0,.slice none 0 0] 29 (0,0)));have HS:=aK (show w.heap.size+1<((w.alloc (.cells #[.slice A1_0 l1_0.length c1_0,.int .i64 a1_1,.int .i64 a1_2,.int .i64 a1_3,.slice A1_4 l1_4.length c1_4] 29 (0,0))).alloc (.cells #[.slice none 0 0,.int .i64 0,.int .i64 0,.int .i64 0,.slice none 0 0] 29 (0,0))).heap.size by simp);have HH:=aK h;clear hr0 hc0 hr1_0 hc1_0 hr1_4 hc1_4 hr2 hc2 h hm;go_enter Try.func7,Try.ntmps7
 go_wp2_with fail
 go_at_call 27;refine (bCz k A0 c0 l0 A1_0 c1_0 l1_0 a1_1 a1_2 a1_3 A1_4 c1_4 l1_4 A2 c2 l2 b _ (cG HR0.out HB.out) HC0.out (cG HR1.out HB.out) HC1.out (cG HR4.out HB.out) HC4.out (cG HR2.out HB.out) HC2.out HM.out).mono ?_;rintro e w1 ⟨rfl,hb⟩;have HB1:=aK (bK HB.out hb);replace BR:=aK (bS BR.out hb);replace BP:=aK (bS BP.out hb);clear hb HM
 cases b with
 |false=>
  have hh:=HH.out;rw [if_neg (by simp)] at hh;have hz:=bE hh;injection hz with e1 hz;injection hz with e2 hz;injection hz with e3 hz;injection hz with e4 hz;injection hz with e5 hz;injection hz with e6 e7;subst e1;subst e2;subst e3;subst e4;subst e5;subst e6;subst e7;clear HH;have HBR:=fun o=>bQ BR.out o
  have z0: ∀o,(w1.alloc o).cell? ⟨w.heap.size+1,0,none⟩=_:=fun o=>(bA (bQ BR.out o) 0).trans rfl;have z1: ∀o,(w1.alloc o).cell? ⟨w.heap.size+1,1,none⟩=_:=fun o=>(bA (bQ BR.out o) 1).trans rfl;have z2: ∀o,(w1.alloc o).cell? ⟨w.heap.size+1,2,none⟩=_:=fun o=>(bA (bQ BR.out o) 2).trans rfl;have z3: ∀o,(w1.alloc o).cell? ⟨w.heap.size+1,3,none⟩=_:=fun o=>(bA (bQ BR.out o) 3).trans rfl;have z4: ∀o,(w1.alloc o).cell? ⟨w.heap.size+1,4,none⟩=_:=fun o=>(bA (bQ BR.out o) 4).trans rfl
  have f0: ∀o,(w1.alloc o).frozen? ⟨w.heap.size+1,0,none⟩=false:=fun o=>bL (bQ BR.out o) 0;have f1: ∀o,(w1.alloc o).frozen? ⟨w.heap.size+1,1,none⟩=false:=fun o=>bL (bQ BR.out o) 1;have f2: ∀o,(w1.alloc o).frozen? ⟨w.heap.size+1,2,none⟩=false:=fun o=>bL (bQ BR.out o) 2;have f3: ∀o,(w1.alloc o).frozen? ⟨w.heap.size+1,3,none⟩=false:=fun o=>bL (bQ BR.out o) 3;have f4: ∀o,(w1.alloc o).frozen? ⟨w.heap.size+1,4,none⟩=false:=fun o=>bL (bQ BR.out o) 4
  go_wp2;refine fM (kG (rs:=[.cell 6 29,.tmp 7,.tmp 8]) rfl (by simp) (.cell (w.heap.size+1) 29 #[.slice none 0 0,.int .i64 0,.int .i64 0,.int .i64 0,.slice none 0 0] (0,0) _ rfl (jH (HBR _)) Try.underlying29 rfl (by kernel_rfl) (.tmp (.tmp .nil)))) rfl ?_;exact ⟨_,_,.slice (some ⟨w1.heap.size,0,none⟩) 0 0,rfl,mI _ _ _ _ _,mI _ _ _ _ _,cI (pC (dE (jC (enc:=Value.int .i64) (h1:=fun _=>rfl) (bDu (enc:=Value.int .i64) w1 w1.heap.size 3 [] (bV _) (by simp)) (fun k_ h_=>(show True from dT))) (bW HB1.out)) (HBR _) (by decide)) (fun k_ h_ e_=>by cases e_),zI (bJ HB1.out _) (by omega)⟩
 |true=>
  have hh:=HH.out;rw [if_pos rfl] at hh;obtain ⟨r,hr,hh⟩:=Option.bind_eq_some_iff.mp hh;have HF:=aK hr;obtain ⟨rfl,rfl,rfl,rfl,rfl,rfl,rfl⟩:(yT r).1=r1∧(yT r).2.1=r2∧(yT r).2.2.1=r3∧(yT r).2.2.2.1=r4∧(yT r).2.2.2.2.1=r5∧(yT r).2.2.2.2.2.1=r6∧(yT r).2.2.2.2.2.2=r7:=by rw [bE hh];exact ⟨rfl,rfl,rfl,rfl,rfl,rfl,rfl⟩
  clear HH hr;have p0:=(bA BP.out 0).trans rfl;have p1:=(bA BP.out 1).trans rfl;have p2:=(bA BP.out 2).trans rfl;have p3:=(bA BP.out 3).trans rfl;have p4:=(bA BP.out 4).trans rfl
  go_wp2_with fail
  go_at_call 28;refine (bDa k A0 c0 A1_0 c1_0 A1_4 c1_4 A2 c2 l0 l1_0 a1_1 a1_2 a1_3 l1_4 l2 r _ (cG HR0.out HB1.out) HC0.out (cG HR1.out HB1.out) HC1.out (cG HR4.out HB1.out) HC4.out (cG HR2.out HB1.out) HF.out).mono ?_;rintro e w2 ⟨v0,v4,vr,rfl,h0,h4,h5,hb⟩;have HB2:=aK (bK HB1.out hb);replace BR:=aK (bS BR.out hb);obtain ⟨B0,b0,rfl⟩:=cL h0;obtain ⟨B4,b4,rfl⟩:=cL h4;have H0:=aK h0;have H4:=aK h4;have H5:=aK h5;have HZ2:=aK (bW HB1.out);clear hb h0 h4 h5 p0 p1 p2 p3 p4 BP;have z0:=(bA BR.out 0).trans rfl;have z1:=(bA BR.out 1).trans rfl;have z2:=(bA BR.out 2).trans rfl;have z3:=(bA BR.out 3).trans rfl;have z4:=(bA BR.out 4).trans rfl;have y0:=bL BR.out 0;have y1:=bL BR.out 1;have y2:=bL BR.out 2;have y3:=bL BR.out 3;have y4:=bL BR.out 4;go_wp2;refine fM (kG (rs:=[.cell 6 29,.tmp 7,.tmp 8]) rfl (by simp) (.cell (w.heap.size+1) 29 #[.slice B0 (yT r).1.length b0,.int .i64 (yT r).2.1,.int .i64 (yT r).2.2.1,.int .i64 (yT r).2.2.2.1,.slice B4 (yT r).2.2.2.2.1.length b4] (0,0) _ rfl (jH BR.out) Try.underlying29 rfl (by kernel_rfl) (.tmp (.tmp .nil)))) rfl ?_;exact ⟨_,_,vr,rfl,dE (cI (pC H0.out BR.out (by decide)) (fun k hk=>by first|exact hk|exact hk.1)) HZ2.out,dE (cI (pC H4.out BR.out (by decide)) (fun _ _=>trivial)) HZ2.out,dE (cI (pC H5.out BR.out (by decide)) (fun k hk=>by first|exact hk|exact hk.1)) HZ2.out,zI HB2.out (by omega)⟩
end Go.Proofs.Ytbaklikaoleplaa.K
namespace Go.Proofs.Ytbaklikaoleplaa.Pure
open Go.RowKit Go.Proofs.Ytbaklikaoleplaa.K Go.Proofs.YtbaklikaoleplaaW.PrintWords Go.Proofs.YtbaklikaoleplaaW.PrintLast Go.Proofs.YtbaklikaoleplaaW.PrintMore
set_option linter.unusedVariables false
set_option linter.unusedSimpArgs false
theorem bMm (fs:List Int) (P:Int→Bool) (i:Nat) (h:i<fs.length):(fs.drop i).all P=(P (fs.getD i 0)&&(fs.drop (i+1)).all P):=by
  rw [bPy fs i 0 h,List.all_cons]
theorem bGi (cs:Cs) (t:Int) (hl:cs.length≤1000):vB cs t=some (tV cs.length t):=by
 unfold vB tV;by_cases c1:t=1
 ·rw [if_pos c1];simp [c1]
 rw [if_neg c1];by_cases c2:t=3
 ·rw [if_pos c2];simp [c2]
 rw [if_neg c2];by_cases c3:t=4
 ·rw [if_pos c3];simp [c3]
 rw [if_neg c3,dZ (n:=8+(cs.length:Int)) (by omega) (by omega),dZ (by omega) (by omega),jS];simp only [bC,fB]
 rw [yN];simp only [dI];omega
def bKk (cs:Cs) (i su:Int) (fs:List Int):Bool:=
  if i=0 then decide (su= -1∧fs=[]) else if i=1 then decide (su=0∧fs=[1]) else decide ((0≤su∧su<i)∧fs.length≤2)
theorem len_nil (fs:List Int):((fs.length:Int)==0)=decide (fs=[]):=by cases fs<;>simp;omega
theorem bGj (cs:Cs) (c su:Int) (fs:List Int) (hl:cs.length≤1000) (hf:fs.length≤140737488355328) (hc:0≤c∧c<1000) (d:Nat): ∀(k i:Nat),i≤fs.length→fs.length - i=d→d<k→
  mA k cs c i su fs=some ((fs.drop i).all (tV cs.length)&&bKk cs c su fs):=by
 induction d with
 | zero =>
  intro k i hi hd hk;obtain ⟨k,rfl⟩: ∃m,k=m+1:=⟨k - 1,by omega⟩;have:i=fs.length:=by omega
  subst this;simp only [mA]
  rw [if_neg (by omega),List.drop_length];simp only [List.all_nil,jQ]
  unfold bKk;by_cases c0:c=0
  ·rw [if_pos c0, if_pos c0]
   by_cases s0:su= -1
   ·rw [if_pos s0,len_nil];simp [s0]
   ·rw [if_neg s0];simp [s0]
  rw [if_neg c0,if_neg c0];by_cases c1:c=1
  ·rw [if_pos c1, if_pos c1]
   by_cases s0:su=0
   ·rw [if_pos s0]
    by_cases l1:(fs.length:Int)=1
    ·rw [if_pos l1, if_pos (by omega)]
     obtain ⟨x,rfl⟩:=List.length_eq_one_iff.1 (show fs.length=1 by omega);by_cases e:x=1
     ·simp [rd,s0,e]
     ·simp [rd,s0,e]
    ·rw [if_neg l1]
     have:fs≠[1]:=fun e=>l1 (by rw [e];rfl)
     simp [this]
   ·rw [if_neg s0];simp [s0]
  rw [if_neg c1,if_neg c1,dZ (by omega) (by omega),jS];simp only [bC,dI]
  by_cases z:0≤su∧su≤c - 1
  ·rw [if_pos z]
   congr 1
   rw [yN];simp only [dI];omega
  ·rw [if_neg z]
   congr 1
   rw [yN];simp only [dI,tQ,false_iff];omega
 | succ d ih =>
  intro k i hi hd hk;obtain ⟨k,rfl⟩: ∃m,k=m+1:=⟨k - 1,by omega⟩;simp only [mA]
  rw [if_pos (by omega),if_pos (by omega),bGi cs _ hl,zR,bMm fs _ i (by omega)];simp only [bC]
  cases hq:tV cs.length (fs.getD i 0) with
  |false=>simp
  |true=>
   simp only [yL,jQ]
   rw [pQ (n:=fs.length) (by omega) (by omega) (by omega),show ((i:Int)+1)=((i+1:Nat):Int) from by omega];exact ih k (i+1) (by omega) (by omega) (by omega)
def bMc (cs:Cs):Prop:= ∀i:Int,(rU cs i).length≤1048576
theorem bGk {cs:Cs} (hl:cs.length≤1000) (hf:bMc cs) {i:Int} (h0:0≤i) (h1:i<cs.length) (k:Nat) (hk:1048577≤k):vC k cs i=some (zF cs i):=by
 unfold vC;rw [if_pos h0,if_pos h1];have:=hf i
 have e:=bGj cs i (bBn cs i) (rU cs i) hl (by omega) ⟨h0,by omega⟩ (rU cs i).length k 0 (by omega) (by omega) (by omega)
 have e2:mA k cs i 0 (bBn cs i) (rU cs i)=some (zF cs i):=by
  rw [show ((0:Nat):Int)=0 from rfl] at e;rw [e,mH];unfold zF bKk;by_cases c0:i=0
  ·subst c0;rfl
  by_cases c1:i=1
  ·subst c1;rfl
  rw [if_neg c0,if_neg c1,if_neg c0,if_neg c1]
 exact e2
theorem bBs (n i:Nat) (P:Nat→Bool) (h:i<n):((List.range n).drop i).all P=(P i&&((List.range n).drop (i+1)).all P):=by
  rw [fO (by simpa using h),List.all_cons];simp
theorem bEo {cs:Cs} (hl:cs.length≤1000) (hf:bMc cs) (d:Nat): ∀(k i:Nat),i≤cs.length→cs.length - i=d→d+1048577≤k→
  kS k cs i=some (((List.range cs.length).drop i).all (fun j:Nat=>zF cs j)):=by
 induction d with
 |zero=>
  intro k i hi hd hk;obtain ⟨k,rfl⟩: ∃m,k=m+1:=⟨k - 1,by omega⟩;have:i=cs.length:=by omega
  subst this;simp only [kS]
  rw [if_neg (by omega),List.drop_of_length_le (by simp)];rfl
 | succ d ih =>
  intro k i hi hd hk;obtain ⟨k,rfl⟩: ∃m,k=m+1:=⟨k - 1,by omega⟩;simp only [kS]
  rw [if_pos (by omega),bGk hl hf (by omega) (by omega) k (by omega),bBs _ _ _ (by omega)];simp only [bC]
  cases hq:zF cs i with
  |false=>simp
  |true=>
   simp only [yL,jQ]
   rw [pQ (n:=cs.length) (by omega) (by omega) (by omega),show ((i:Int)+1)=((i+1:Nat):Int) from by omega];exact ih k (i+1) (by omega) (by omega) (by omega)
theorem zO {cs:Cs} (hf:bMc cs) (k:Nat) (hk:2000000≤k):rC k cs=some (rP cs):=by
 unfold rC rP;rw [jS];simp only [bC,dI]
 by_cases hl:(2:Int)≤cs.length∧(cs.length:Int)≤5
 ·rw [if_pos hl, show decide (2 ≤ cs.length ∧ cs.length ≤ 5) = true from bD (by omega)]
  have:=bEo (cs:=cs) (by omega) hf cs.length k 0 (by omega) (by omega) (by omega)
  rw [show ((0:Nat):Int)=0 from rfl] at this;rw [this,mH,jQ]
 ·rw [if_neg hl,show decide (2≤cs.length∧cs.length≤5)=false from bM (by omega),Bool.false_and]
theorem bEw (cs:Cs) (t:Int) (hl:cs.length≤1000):rD cs.length t=some (tV cs.length t):=by
 unfold rD bOm tV;rw [if_pos (by omega)]
 congr 1
 rw [yN];simp only [dY,dI];omega
def bSf (cs:Cs) (i:Int):Bool:=(decide (i≤1)||decide (0≤bBn cs i∧bBn cs i<i))&&(decide ((rU cs i).length≤2)&&(rU cs i).all (tV cs.length))
theorem bEx (cs:Cs) (hl:cs.length≤1000) (i:Nat) (hi:i<1000) (fs:List Int) (hf:fs.length≤2) (R:Bool) (K:Nat) (hR: ∀k,K≤k→kT k cs cs cs.length ((i+1:Nat):Int)=some R) (d:Nat): ∀(k j:Nat),j≤fs.length→fs.length - j=d→K+d+1≤k→
  mL k cs cs cs.length i fs fs.length j=some ((fs.drop j).all (tV cs.length)&&R):=by
 induction d with
 |zero=>
  intro k j hj hd hk;obtain ⟨k,rfl⟩: ∃m,k=m+1:=⟨k - 1,by omega⟩;have:j=fs.length:=by omega
  subst this;simp only [mL]
  rw [if_neg (by omega),List.drop_length,pQ (n:=1000) (by omega) (by omega) (by omega),show ((i:Int)+1)=((i+1:Nat):Int) from by omega,hR k (by omega)];simp
 | succ d ih =>
  intro k j hj hd hk;obtain ⟨k,rfl⟩: ∃m,k=m+1:=⟨k - 1,by omega⟩;simp only [mL]
  rw [if_pos (by omega),if_pos (by omega),if_pos (by omega),zR,bEw cs _ hl,bMm fs _ j (by omega)];simp only [bC]
  cases hq:tV cs.length (fs.getD j 0) with
  |false=>simp
  |true=>
   simp only [yL,jQ]
   rw [pQ (n:=fs.length) (by omega) (by omega) (by omega),show ((j:Int)+1)=((j+1:Nat):Int) from by omega];exact ih k (j+1) (by omega) (by omega) (by omega)
theorem bEy (cs:Cs) (hl:cs.length≤5) (d:Nat): ∀(i:Nat),i≤cs.length→cs.length - i=d→∀k,10*d+10≤k→
  kT k cs cs cs.length i=some (((List.range cs.length).drop i).all (fun j:Nat=>bSf cs j)):=by
 induction d with
 |zero=>
  intro i hi hd k hk;obtain ⟨k,rfl⟩: ∃m,k=m+1:=⟨k - 1,by omega⟩;have:i=cs.length:=by omega
  subst this;simp only [kT]
  rw [if_neg (by omega),List.drop_of_length_le (by simp)];rfl
 | succ d ih =>
  intro i hi hd k hk;obtain ⟨k,rfl⟩: ∃m,k=m+1:=⟨k - 1,by omega⟩;obtain ⟨k,rfl⟩: ∃m,k=m+1:=⟨k - 1,by omega⟩;rw [bBs _ _ _ (by omega)]
  have hj:kD (k+1) cs cs cs.length i false (bBn cs i) (rU cs i)=some (decide ((rU cs i).length≤2)&&((rU cs i).all (tV cs.length)&&((List.range cs.length).drop (i+1)).all (fun j:Nat=>bSf cs j))):=by
   simp only [kD]
   rw [if_neg (by simp)];by_cases h2:((rU cs i).length:Int)>2
   ·rw [if_pos h2,bM (by omega)];rfl
   ·rw [if_neg h2, bD (show (rU cs i).length ≤ 2 by omega), jQ]
    have:=bEx cs (by omega) i (by omega) (rU cs i) (by omega) _ (10*d+10) (fun k hk=>ih (i+1) (by omega) (by omega) k hk) (rU cs i).length k 0 (by omega) (by omega) (by omega)
    rw [show ((0:Nat):Int)=0 from rfl,mH] at this;exact this
  have hjt:kD (k+1) cs cs cs.length i true (bBn cs i) (rU cs i)=some false:=by simp [kD]
  simp only [kT]
  rw [if_pos (by omega),if_pos (by omega),if_pos (by omega)];rw [show (cY cs (i:Int)).f0=bBn cs i from rfl,show (cY cs (i:Int)).f1=rU cs i from rfl];have hQ:bSf cs i=((decide ((i:Int)≤1)||decide (0≤bBn cs i∧bBn cs i<i))&&(decide ((rU cs i).length≤2)&&(rU cs i).all (tV cs.length))):=rfl
  rw [hQ];generalize ((List.range cs.length).drop (i+1)).all (fun j:Nat=>bSf cs j)=T at*;by_cases h1:(i:Int)>1
  ·rw [if_pos h1]
   by_cases hs:bBn cs i<0
   ·rw [if_pos hs,hjt,bM (show¬(i:Int)≤1 by omega),bM (show¬(0≤bBn cs i∧bBn cs i<i) by omega)];rfl
   ·rw [if_neg hs]
    by_cases hs2:bBn cs i≥i
    ·rw [bD hs2,hjt,bM (show¬(i:Int)≤1 by omega),bM (show¬(0≤bBn cs i∧bBn cs i<i) by omega)];rfl
    ·rw [bM hs2, hj, bD (show (0 ≤ bBn cs i ∧ bBn cs i < i) by omega)]
     simp [Bool.and_assoc]
  ·rw [if_neg h1, hj, bD (show (i : Int) ≤ 1 by omega)]
   simp [Bool.and_assoc]
theorem qM (cs:Cs) (k:Nat) (hk:1000≤k):sO k cs=some (rP cs):=by
 obtain ⟨k,rfl⟩: ∃m,k=m+1:=⟨k - 1,by omega⟩;obtain ⟨k,rfl⟩: ∃m,k=m+1:=⟨k - 1,by omega⟩;obtain ⟨k,rfl⟩: ∃m,k=m+1:=⟨k - 1,by omega⟩;unfold sO;by_cases h2:(cs.length:Int)<2
 ·rw [if_pos h2]
  simp only [kF,yL]
  unfold rP;rw [bM (by omega),Bool.false_and]
 rw [if_neg h2];by_cases h5:(cs.length:Int)>5
 ·rw [bD h5]
  simp only [kF,yL]
  unfold rP;rw [bM (by omega),Bool.false_and]
 rw [bM h5]
 have no: ∀i:Int,0≤i→i<cs.length→zF cs i=false→rP cs=false:=by
  intro i h0 h1 hc
  cases hq:rP cs with
  |false=>rfl
  |true=>rw [bKi hq h0 h1] at hc;cases hc
 simp only [kF,tQ,if_false]
 rw [if_pos (by omega)];rw [show (cY cs 0).f0=bBn cs 0 from rfl,show (cY cs 0).f1=rU cs 0 from rfl];by_cases r0:bBn cs 0= -1
 case neg=>
  rw [if_neg r0];simp only [mM,yL]
  rw [no 0 (by omega) (by omega) (by unfold zF;simp [r0])]
 rw [if_pos r0];by_cases f0:rU cs 0=[]
 case neg=>
  have:(((rU cs 0).length:Int) !=0)=true:=by
   cases hq:rU cs 0 with
   |nil=>exact absurd hq f0
   |cons x t=>simp;omega
  rw [this];simp only [mM,yL]
  rw [no 0 (by omega) (by omega) (by unfold zF;simp [f0])]
 rw [show (((rU cs 0).length:Int) !=0)=false by rw [f0];rfl];simp only [mM,tQ,if_false]
 rw [if_pos (by omega)];rw [show (cY cs 1).f0=bBn cs 1 from rfl,show (cY cs 1).f1=rU cs 1 from rfl];have n1: ¬(bBn cs 1=0∧rU cs 1=[1])→rP cs=false:=fun z=>no 1 (by omega) (by omega) (by unfold zF;rw [if_neg (by omega),if_pos rfl,bM z,Bool.and_false])
 by_cases r1:bBn cs 1=0
 case neg=>
  rw [if_neg r1];simp only [kE,yL]
  rw [n1 (fun z=>r1 z.1)]
 rw [if_pos r1];by_cases l1:((rU cs 1).length:Int)=1
 case neg=>
  rw [if_neg l1];simp only [kE,yL]
  rw [n1 (fun z=>l1 (by rw [z.2];rfl))]
 rw [if_pos l1,if_pos (by omega)];obtain ⟨x,hx⟩:=List.length_eq_one_iff.1 (show (rU cs 1).length=1 by omega);by_cases e1:x=1
 case neg=>
  rw [show (rd (rU cs 1) 0 !=1)=true by rw [hx];simp [rd,e1]];simp only [kE,yL]
  rw [n1 (fun z=>e1 (by rw [hx] at z;simpa using z.2))]
 rw [show (rd (rU cs 1) 0 !=1)=false by rw [hx];simp [rd,e1]];simp only [kE,tQ,if_false]
 have:=bEy cs (by omega) cs.length 0 (by omega) (by omega) k (by omega)
 rw [show ((0:Nat):Int)=0 from rfl,mH] at this;rw [this]
 congr 1
 unfold rP;rw [bD (show 2≤cs.length∧cs.length≤5 by omega),jQ,yN];simp only [nY,List.mem_range]
 refine forall_congr' fun i=>forall_congr' fun hi=>?_
 unfold bSf zF;simp only [dY,rZ,dI]
 by_cases i0:(i:Int)=0
 ·rw [i0,if_pos rfl,dI,r0,f0];simp
 by_cases i1:(i:Int)=1
 ·rw [i1,if_neg (by omega),if_pos rfl,dI,r1,hx,e1];simp
 rw [if_neg i0,if_neg i1,dI]
 constructor
 ·rintro ⟨h1 | h1, h3, h4⟩
  ·omega
  ·exact ⟨h4,h1,h3⟩
 ·rintro ⟨h4, h1, h3⟩
  exact ⟨Or.inr h1,h3,h4⟩
end Go.Proofs.Ytbaklikaoleplaa.Pure
namespace Go.Proofs.Ytbaklikaoleplaa.Pure
open Go.RowKit Go.Proofs.Ytbaklikaoleplaa.K Go.Proofs.YtbaklikaoleplaaW.PrintWords Go.Proofs.YtbaklikaoleplaaW.PrintLast Go.Proofs.YtbaklikaoleplaaW.PrintMore
set_option linter.unusedVariables false
set_option linter.unusedSimpArgs false
def pw (ws:List Int) (F:List (List Int)) (e:Int):Nat→Int→List Int×Bool
  |0,_=>([],true)
  |n+1,i=>if i<e then (if jV ws F e i=0 then ([],false) else (i::(pw ws F e n (i+jV ws F e i)).1,(pw ws F e n (i+jV ws F e i)).2)) else ([],true)
theorem bBt (ws:List Int) (F:List (List Int)) (e:Int): ∀(n:Nat) (i:Int) (acc:List Int) (q:Nat),(e - i).toNat≤n→n<q→bDh ws F e q i acc=some ((pw ws F e n i).2,acc++(pw ws F e n i).1.map (· +1))
 |0,i,acc,q,h,hq=>by
  obtain ⟨q,rfl⟩: ∃m,q=m+1:=⟨q - 1,by omega⟩;rw [bDh,if_neg (by omega),pw];simp
 | n + 1, i, acc, q, h, hq => by
  obtain ⟨q,rfl⟩: ∃m,q=m+1:=⟨q - 1,by omega⟩;rw [bDh,pw];by_cases c:i<e
  ·rw [if_pos c, if_pos c]
   by_cases c2:jV ws F e i=0
   ·rw [if_pos c2,if_pos c2];simp
   ·rw [if_neg c2, if_neg c2]
    have:=bAl ws F e i
    rw [bBt ws F e n _ _ q (by omega) (by omega)];simp
  ·rw [if_neg c,if_neg c];simp
theorem bAr (ws:List Int) (F:List (List Int)) (e:Int): ∀(n:Nat) (i:Int),(pw ws F e n i).1.length≤n
 |0,i=>by simp [pw]
 | n + 1, i => by
  rw [pw]
  split
  ·split
   ·simp
   ·have := bAr ws F e n (i + jV ws F e i)
    simp only [sU];omega
  ·simp
theorem yV (ws:List Int) (F:List (List Int)) (e:Int): ∀(n:Nat) (i:Int),∀x∈(pw ws F e n i).1,i≤x∧x<e∧0<jV ws F e x∧jV ws F e x≤e - x
 |0,i=>by simp [pw]
 | n + 1, i => by
  rw [pw];intro x hx
  split at hx
  case isTrue c=>
   split at hx
   case isTrue c2=>simp at hx
   case isFalse c2=>
    have hl:=bAl ws F e i;simp only [List.mem_cons] at hx;rcases hx with rfl|hx
    ·omega
    ·have := yV ws F e n _ x hx
     omega
  case isFalse c=>simp at hx
theorem bAj (ws:List Int) (F:List (List Int)) (e:Int): ∀(n:Nat) (i:Int),(pw ws F e n i).1.Pairwise (· < ·)
 |0,i=>by simp [pw]
 | n + 1, i => by
  rw [pw]
  split
  case isTrue c=>
   split
   case isTrue c2=>simp
   case isFalse c2=>
    have hl:=bAl ws F e i;refine List.Pairwise.cons (fun x hx=>?_) (bAj ws F e n _);have:=yV ws F e n _ x hx
    omega
  case isFalse c=>simp
theorem bCl {cs:Cs} (h:rP cs=true) {ws:List Int} (hw:ws.length≤1048576) {e:Int} (he:e≤ws.length): ∀(n:Nat) (i:Int) (acc:List Int) (k:Nat),0≤i→(e - i).toNat≤n→n+21≤k→acc.length+n<17592186044416→
  kI k cs ws i e acc=some (acc++(pw ws (gI cs) e n i).1,(pw ws (gI cs) e n i).2)
 |0,i,acc,k,h0,hn,hk,ha=>by
  obtain ⟨k,rfl⟩: ∃m,k=m+1:=⟨k - 1,by omega⟩;rw [kI,if_neg (by omega),pw];simp
 | n + 1, i, acc, k, h0, hn, hk, ha => by
  obtain ⟨k,rfl⟩: ∃m,k=m+1:=⟨k - 1,by omega⟩;rw [kI,pw];by_cases c:i<e
  ·rw [if_pos c, if_pos c, vS h hw h0 he k (by omega), if_pos c]
   simp only [bC]
   by_cases c2:jV ws (gI cs) e i=0
   ·rw [if_pos c2,if_pos c2];simp
   ·rw [if_neg c2, if_neg c2, if_pos (by omega)]
    have hl:=bAl ws (gI cs) e i;rw [dZ (by omega) (by omega),bCl h hw he n _ _ k (by omega) (by omega) (by omega) (by rw [cH,rR];omega)];simp
  ·rw [if_neg c,if_neg c];simp
theorem bFh {xs:List Int} (h:xs.Pairwise (· < ·)) {i j:Nat} (hi:i<j) (hj:j<xs.length):xs[i]'(by omega)<xs[j]:=List.pairwise_iff_getElem.mp h i j (by omega) hj hi
theorem bGc (a b:Int):pY a b=some (decide (a<b)):=by
  unfold pY qH;rw [bC,show (a !=a)=false from by simp,if_neg (by simp)]
theorem bPc {xs:List Int} (hs:xs.Pairwise (· < ·)) (hl:xs.length≤1048576) (v:Int) (d:Nat): ∀(lo hi k:Nat),hi - lo≤d→lo≤hi→hi≤xs.length→d+2≤k→(∀i (h:i<xs.length),i<lo→xs[i]<v)→(∀i (h:i<xs.length),hi≤i→v≤xs[i])→
  ∃p:Nat,p≤xs.length∧dQ k xs v xs.length lo hi=some ((p:Int),decide (v∈xs))∧(∀i (h:i<xs.length),i<p→xs[i]<v)∧(∀i (h:i<xs.length),p≤i→v≤xs[i]):=by
 induction d with
 | zero =>
  intro lo hi k hd hlh hhi hk h1 h2;obtain ⟨k,rfl⟩: ∃m,k=m+1:=⟨k - 1,by omega⟩;obtain rfl:lo=hi:=by omega
  refine ⟨lo,hhi,?_,h1,h2⟩;rw [dQ,if_neg (by omega)];by_cases c:lo<xs.length
  ·rw [if_pos (by omega), if_pos (by omega), if_pos (by omega), xL c]
   by_cases c2:xs[lo]=v
   ·rw [if_pos c2,bD (by rw [←c2];exact jZ c)]
   ·have hv := h2 lo c (bV _)
    rw [if_neg c2];simp only [rK,bC]
    have nm: ¬v∈xs:=fun hm=>by
     obtain ⟨j,hj,e⟩:=qX hm;rcases Nat.lt_trichotomy j lo with q|q|q
     ·have:=h1 j hj q;omega
     ·subst q;exact c2 e
     ·have:=bFh hs q hj;omega
    rw [bM nm];simp
  ·rw [if_neg (by omega)]
   have nm: ¬v∈xs:=fun hm=>by
    obtain ⟨j,hj,e⟩:=qX hm;have:=h1 j hj (by omega);omega
   rw [bM nm]
 | succ d ih =>
  intro lo hi k hd hlh hhi hk h1 h2;by_cases c:lo=hi
  ·subst c
   exact ih lo lo k (by omega) (by omega) hhi (by omega) h1 h2
  obtain ⟨k,rfl⟩: ∃m,k=m+1:=⟨k - 1,by omega⟩;obtain ⟨m,hm⟩: ∃m,m=(lo+hi)/2:=⟨_,rfl⟩;have hm2:m<xs.length:=by omega
  have hm3:lo≤m:=by omega
  have hm4:m<hi:=by omega
  have e1:wrap64 ((lo:Int)+hi)=((lo+hi:Nat):Int):=by rw [dZ (by omega) (by omega)];omega
  have e2:IntKind.u64.wrap ((lo+hi:Nat):Int)=((lo+hi:Nat):Int):=by rw [IntKind.wrap_u64];omega
  have e3:wrap64 (((lo+hi:Nat):Int)/2)=(m:Int):=by
   have e4:((lo+hi:Nat):Int)/2=(m:Int):=by rw [hm];exact (Int.natCast_ediv (lo+hi) 2).symm
   rw [e4];exact dZ (by omega) (by omega)
  clear hm;rw [dQ,if_pos (by omega),e1,e2,e3,if_pos (by omega),if_pos (by omega),xL hm2];by_cases c2:xs[m]<v
  ·have hc : pY xs[m] v = some true := by rw [bGc, bD c2]
   rw [hc];simp only [bC,yL]
   rw [pQ (n:=1048577) (by omega) (by omega) (by omega)]
   have:=ih (m+1) hi k (by omega) (by omega) hhi (by omega) (fun i h hi'=>by
    rcases sB i m with q|q
    ·have:=bFh hs q hm2;omega
    ·obtain rfl : i = m := by omega
     exact c2) h2
   rw [show ((m+1:Nat):Int)=(m:Int)+1 by omega] at this;exact this
  ·have hc : pY xs[m] v = some false := by rw [bGc, bM c2]
   rw [hc];simp only [bC]
   rw [if_neg (by simp)]
   exact ih lo m k (by omega) (by omega) (by omega) (by omega) h1 (fun i h hi'=>by
    rcases Nat.eq_or_lt_of_le hi' with q|q
    ·subst q;omega
    ·have:=bFh hs q h;omega)
theorem bIs {xs:List Int} (hs:xs.Pairwise (· < ·)) (hl:xs.length≤1048576) (v:Int): ∃p:Nat,p≤xs.length∧(∀k,xs.length+2≤k→gH k xs v=some ((p:Int),decide (v∈xs)))∧(∀i (h:i<xs.length),i<p→xs[i]<v)∧(∀i (h:i<xs.length),p≤i→v≤xs[i]):=by
 obtain ⟨p,hp,he,h1,h2⟩:=bPc hs hl v xs.length 0 xs.length (xs.length+2) (by omega) (by omega) (by omega) (by omega) (fun i h hi=>by omega) (fun i h hi=>by omega);refine ⟨p,hp,fun k hk=>?_,h1,h2⟩;have:=bJo (g:=fun k=>gH k xs v) (fun k=>vE xs v k) hk (r:=((p:Int),decide (v∈xs))) (by unfold gH;exact he)
 exact this
end Go.Proofs.Ytbaklikaoleplaa.Pure
namespace Go.Proofs.Ytbaklikaoleplaa.Pure
open Go.RowKit Go.Proofs.Ytbaklikaoleplaa.K Go.Proofs.YtbaklikaoleplaaW.PrintWords Go.Proofs.YtbaklikaoleplaaW.PrintLast Go.Proofs.YtbaklikaoleplaaW.PrintMore
set_option linter.unusedVariables false
set_option linter.unusedSimpArgs false
theorem bRp (W:List Int) (v:Int):v∈W.map (· +1)↔v - 1∈W:=by
 rw [List.mem_map]
 constructor
 ·rintro ⟨a,ha,rfl⟩;rw [show a+1 - 1=a by omega];exact ha
 ·intro h;exact ⟨v - 1,h,by omega⟩
theorem bFy {W:List Int} (h:W.Pairwise (· < ·)):(W.map (· +1)).Pairwise (· < ·):=by
  rw [List.pairwise_map];exact h.imp (fun hab=>by omega)
theorem bNp {cs:Cs} {ws W:List Int} (hw:Wlk cs ws W) (m:Mm) (hm:m.begins=W.map (· +1)) (v:Int): ∀q,300≤q→qK q m v=some (decide (v - 1∈W)):=by
 intro q hq;have hl:=hw.len;obtain ⟨p,_,h,_,_⟩:=bIs (bFy hw.srt) (by rw [dP];omega) v;unfold qK;rw [hm,h q (by rw [dP];omega),bC];simp only [bRp]
theorem rW {cs:Cs} {ws W:List Int} (hw:Wlk cs ws W) {x:Int} (hx:x∈W):0≤x∧x<ws.length:=by
  obtain ⟨e,h1,h2,h3,_⟩:=hw.mem x hx;omega
theorem bOk {cs:Cs} {ws W:List Int} (hw:Wlk cs ws W) (hn:ws.length≤1048576) (v:Int):pW (kR W ws.length) v=some (decide (v=0)||decide (v - 1∈W)):=by
 unfold pW;by_cases c0:v=0
 ·rw [if_pos c0,bD c0];rfl
 rw [if_neg c0,jS,bFr,bM c0,Bool.false_or];simp only [bC,dI]
 by_cases c1:1≤v∧v≤(ws.length:Int)
 ·rw [if_pos c1,dZ (n:=v - 1) (by omega) (by omega),if_pos (by omega),if_pos (by omega),bNb W ws.length (by omega) (by omega)]
 ·rw [if_neg c1,bM (fun hv=>c1 (by have:=rW hw hv;omega))]
theorem word_eq {cs:Cs} {ws:List Int} {y t o:Int} {cards:List Bool} (hb:Bnd cs ws y t o cards) {W:List Int} (hw:Wlk cs ws W) (m:Mm) (hm:m=⟨ws,y,t,o,cards,gI cs,W.map (· +1)⟩)
  {x hd cnt c:Int} (h0:0≤x) (hhd:hd=1∨hd=2) (hcn:0≤cnt) (hsz:x+hd+cnt≤ws.length) (hfi:kZ m (x+1)=some (x+hd)) (hle: ∀k,0≤k→k<cnt→nV m (x+1) k=some (bDj cs c k))
  (R:List Bool) (hR:R=sZ cs c hd (hd+cnt)) {k:Int} (k0:0≤k) (k1:k<cnt):
  ∃b,(∀q,300≤q→zX q m (x+1) k=some b)∧∀κ:Nat,fA (κ+2) (kR W ws.length) x R (hd+k) ws y t o cards=if b=true then fA κ (kR W ws.length) x R (hd+k+1) ws y t o cards else some false:=by
 have n0:=hb.n0;have n1:=hb.n1;have y0:=hb.y0;have y1:=hb.y1;have cd:=hb.cd;have hRl:(R.length:Int)=hd+cnt:=by rw [hR];unfold sZ;rw [dP,kV];omega
 have hRk:kK false R (hd+k)=bDj cs c k:=by rw [hR,bRc cs c hd (hd+cnt) (by omega) (by omega) (by omega),show hd+k - hd=k by omega]
 obtain ⟨v,hv⟩: ∃v,v=rd ws (x+(hd+k)):=⟨_,rfl⟩;have hmw:m.words=ws:=by rw [hm]
 have hA: ∀q,zX q m (x+1) k=if bDj cs c k=true then (if v=0 then some true else (qK q m v).bind fun h=>if h=true then bBa m (x+1) v (x+(hd+k)) else some false) else qR v:=fun q=>by
  unfold zX;rw [hfi,bC,hmw,if_pos (by omega),hle k k0 k1,bC,show x+hd+k=x+(hd+k) by omega,←hv]
 have w1:wrap64 (x+(hd+k))=x+(hd+k):=dZ (by omega) (by omega)
 have w2:wrap64 (hd+k+1)=hd+k+1:=dZ (by omega) (by omega)
 have hB: ∀κ:Nat,fA (κ+2) (kR W ws.length) x R (hd+k) ws y t o cards=if bDj cs c k=true then gS (κ+1) (kR W ws.length) x R (hd+k) v (!(decide (v=0)||decide (v - 1∈W))) ws y t o cards else gS (κ+1) (kR W ws.length) x R (hd+k) v (!(decide (-128≤v∧v≤127))) ws y t o cards:=fun κ=>by
  rw [fA,if_pos (by omega),w1,if_pos (by omega),if_pos (by omega),if_pos (by omega),hRk,←hv,bOk hw (by omega)];simp only [bC]
  by_cases c0:bDj cs c k=true
  ·rw [if_pos c0, if_pos c0]
   cases (decide (v=0)||decide (v - 1∈W))<;>rfl
  ·rw [if_neg c0, if_neg c0]
   unfold sX;rw [jS];rfl
 have hJ: ∀(κ:Nat) (bad:Bool),gS (κ+1) (kR W ws.length) x R (hd+k) v bad ws y t o cards=if bad=true then some false else (if bDj cs c k=true then (if x≥y then (if 1≤v∧v≤y then (if kK false cards ((x+(hd+k) - y)/4)=true then fA κ (kR W ws.length) x R (hd+k+1) ws y t o cards else some false) else fA κ (kR W ws.length) x R (hd+k+1) ws y t o cards) else fA κ (kR W ws.length) x R (hd+k+1) ws y t o cards) else fA κ (kR W ws.length) x R (hd+k+1) ws y t o cards):=fun κ bad=>by
  rw [gS,w2,w1]
  cases bad with
  |true=>rw [if_pos rfl,if_pos rfl]
  | false =>
   simp only [tQ,if_false]
   rw [if_pos (show 0≤hd+k by omega),if_pos (show hd+k<(R.length:Int) by omega),hRk];by_cases c0:bDj cs c k=true
   ·rw [if_pos c0, if_pos c0]
    by_cases c1:x≥y
    ·rw [if_pos c1, if_pos c1, jS]
     simp only [bC,dI]
     by_cases c2:1≤v∧v≤y
     ·rw [if_pos c2,if_pos c2,dZ (n:=x+(hd+k) - y) (by omega) (by omega),jB (by omega),dZ (n:=(x+(hd+k) - y)/4) (by omega) (by omega),if_pos (by omega),if_pos (by omega)]
     ·rw [if_neg c2,if_neg c2]
    ·rw [if_neg c1,if_neg c1]
   ·rw [if_neg c0,if_neg c0]
 by_cases c0:bDj cs c k=true
 case neg=>
  refine ⟨decide (-128≤v∧v≤127),fun q hq=>?_,fun κ=>?_⟩
  ·rw [hA, if_neg c0]
   unfold qR;by_cases z:v≥ -128
   ·rw [if_pos z];simp [show -128≤v from z]
   ·rw [if_neg z];simp [show¬ -128≤v from z]
  ·rw [hB, if_neg c0, hJ, if_neg c0]
   cases decide (-128≤v∧v≤127)<;>rfl
 case pos=>
 by_cases c1:v=0
 ·refine ⟨true, fun q hq => by rw [hA, if_pos c0, if_pos c1], fun κ => ?_⟩
  rw [hB,if_pos c0,hJ,bD c1,if_pos c0];rw [if_neg (by simp),if_pos rfl];by_cases c2:x≥y
  ·rw [if_pos c2,if_neg (by omega)]
  ·rw [if_neg c2]
 have hq0:=bNp hw m (by rw [hm]) v;by_cases c2:v - 1∈W
 case neg=>
  refine ⟨false,fun q hq=>by rw [hA,if_pos c0,if_neg c1,hq0 q hq,bM c2];rfl,fun κ=>?_⟩;rw [hB,if_pos c0,hJ,bM c1,bM c2];rfl
 case pos=>
 have hvr:=rW hw c2
 have hA2: ∀q,300≤q→zX q m (x+1) k=bBa m (x+1) v (x+(hd+k)):=fun q hq=>by
  rw [hA,if_pos c0,if_neg c1,hq0 q hq,bD c2];rfl
 have hB2: ∀κ:Nat,fA (κ+2) (kR W ws.length) x R (hd+k) ws y t o cards=(if x≥y then (if 1≤v∧v≤y then (if kK false cards ((x+(hd+k) - y)/4)=true then fA κ (kR W ws.length) x R (hd+k+1) ws y t o cards else some false) else fA κ (kR W ws.length) x R (hd+k+1) ws y t o cards) else fA κ (kR W ws.length) x R (hd+k+1) ws y t o cards):=fun κ=>by
  rw [hB,if_pos c0,hJ,bD c2,if_pos c0];rw [if_neg (by simp)]
 have hC:bBa m (x+1) v (x+(hd+k))=if x≥y then (if 1≤v∧v≤y then some (kK false cards ((x+(hd+k) - y)/4)) else some true) else some true:=by
  unfold bBa;rw [hm];show (if x+1>y then (if v>y then some true else (if 0≤wrap64 (Int.tdiv (wrap64 (x+(hd+k) - y)) 4)∧wrap64 (Int.tdiv (wrap64 (x+(hd+k) - y)) 4)<(cards.length:Int) then some (kK false cards (wrap64 (Int.tdiv (wrap64 (x+(hd+k) - y)) 4))) else none)) else some true)=_
  by_cases z1:x≥y
  ·rw [if_pos (show x + 1 > y by omega), if_pos z1]
   by_cases z2:v>y
   ·rw [if_pos z2,if_neg (by omega)]
   ·rw [if_neg z2,if_pos (show 1≤v∧v≤y by omega),dZ (n:=x+(hd+k) - y) (by omega) (by omega),jB (by omega),dZ (n:=(x+(hd+k) - y)/4) (by omega) (by omega),if_pos (by omega)]
  ·rw [if_neg (show¬x+1>y by omega),if_neg z1]
 by_cases z1:x≥y
 ·by_cases z2 : 1 ≤ v ∧ v ≤ y
  ·refine ⟨kK false cards ((x+(hd+k) - y)/4),fun q hq=>by rw [hA2 q hq,hC,if_pos z1,if_pos z2],fun κ=>by rw [hB2,if_pos z1,if_pos z2]⟩
  ·exact ⟨true,fun q hq=>by rw [hA2 q hq,hC,if_pos z1,if_neg z2],fun κ=>by rw [hB2,if_pos z1,if_neg z2,if_pos rfl]⟩
 ·exact ⟨true,fun q hq=>by rw [hA2 q hq,hC,if_neg z1],fun κ=>by rw [hB2,if_neg z1,if_pos rfl]⟩
theorem bQv {cs:Cs} {ws:List Int} {y t o:Int} {cards:List Bool} (hb:Bnd cs ws y t o cards) {W:List Int} (hw:Wlk cs ws W) (m:Mm) (hm:m=⟨ws,y,t,o,cards,gI cs,W.map (· +1)⟩) {x:Int} (hx:x∈W):
  ∃b,(∀q,300≤q→tR q m (x+1)=some b)∧∀k,200≤k→tC k cs ws y t o cards (kR W ws.length) x=some b:=by
 obtain ⟨c,hd,cnt,hc,h0,hhd,hcn,hcn8,hsz,hco,hfi,hhe,hl21,hle,hcc⟩:=bBk hb hw m hm hx;have n0:=hb.n0;have n1:=hb.n1;have y0:=hb.y0;have y1:=hb.y1
 have key: ∀d:Nat,∀k:Int,0≤k→k+d=cnt→∃b,(∀q,300≤q→∀j:Nat,d+1≤j→wordsOk.l q m (x+1) cnt j k=some b)∧∀κ:Nat,2*d+1≤κ→fA κ (kR W ws.length) x (sZ cs c hd (hd+cnt)) (hd+k) ws y t o cards=some b:=by
  intro d
  induction d with
  | zero =>
   intro k k0 kd;refine ⟨true,fun q hq j hj=>?_,fun κ hκ=>?_⟩
   ·obtain ⟨j, rfl⟩ : ∃ i, j = i + 1 := ⟨j - 1, by omega⟩
    rw [wordsOk.l,if_neg (by omega)]
   ·obtain ⟨κ, rfl⟩ : ∃ i, κ = i + 1 := ⟨κ - 1, by omega⟩
    have hRl:((sZ cs c hd (hd+cnt)).length:Int)=hd+cnt:=by unfold sZ;rw [dP,kV];omega
    rw [fA,if_neg (by omega)]
  | succ d ih =>
   intro k k0 kd;obtain ⟨b,hb1,hb2⟩:=word_eq hb hw m hm h0 hhd hcn hsz hfi hle _ rfl k0 (show k<cnt by omega);obtain ⟨b',h1,h2⟩:=ih (k+1) (by omega) (by omega)
   cases b with
   | true =>
    refine ⟨b',fun q hq j hj=>?_,fun κ hκ=>?_⟩
    ·obtain ⟨j, rfl⟩ : ∃ i, j = i + 1 := ⟨j - 1, by omega⟩
     rw [wordsOk.l,if_pos (by omega),hb1 q hq,bC,if_pos rfl];exact h1 q hq j (by omega)
    ·obtain ⟨κ, rfl⟩ : ∃ i, κ = i + 2 := ⟨κ - 2, by omega⟩
     rw [hb2 κ,if_pos rfl,show hd+k+1=hd+(k+1) by omega];exact h2 κ (by omega)
   | false =>
    refine ⟨false,fun q hq j hj=>?_,fun κ hκ=>?_⟩
    ·obtain ⟨j, rfl⟩ : ∃ i, j = i + 1 := ⟨j - 1, by omega⟩
     rw [wordsOk.l,if_pos (by omega),hb1 q hq,bC,if_neg (by simp)]
    ·obtain ⟨κ, rfl⟩ : ∃ i, κ = i + 2 := ⟨κ - 2, by omega⟩
     rw [hb2 κ,if_neg (by simp)]
 obtain ⟨b,h1,h2⟩:=key cnt.toNat 0 (by omega) (by omega);refine ⟨b,fun q hq=>?_,fun k hk=>?_⟩
 ·unfold tR
  rw [hco,bC,if_pos (by omega)];exact h1 q hq _ (by omega)
 ·unfold tC mQ
  rw [hl21 k (by omega)];simp only [bC]
  rw [if_pos (by omega),if_pos (by omega),if_pos h0,if_pos (by omega),←hc,hhe];simp only [bC]
  have hr:=bJv (cs:=cs) hb.ok (c:=c) (hd:=hd) (s:=(hd+cnt).toNat) (by omega) hhd (by rcases hcc with z|z|z;exact Or.inl z;exact Or.inr (Or.inl z);exact Or.inr (Or.inr ⟨z.1,z.2.1,z.2.2.1,by omega⟩)) cnt.toNat k hd.toNat (List.replicate (hd+cnt).toNat false) (by omega) (by omega) (by omega) (by simp) (fun i hi=>by
   rw [bM (show¬(hd≤(i:Int)∧i<hd.toNat) by omega)]
   simp [bP,hi])
  rw [show ((hd.toNat:Nat):Int)=hd by omega] at hr;rw [hr];simp only [bC]
  rw [if_pos (by omega),if_pos (by omega)];have:=h2 k (by omega)
  rw [show hd+0=hd by omega,show ((hd+cnt).toNat:Int)=hd+cnt by omega] at*;exact this
end Go.Proofs.Ytbaklikaoleplaa.Pure
namespace Go.Proofs.Ytbaklikaoleplaa.Pure
open Go.RowKit Go.Proofs.Ytbaklikaoleplaa.K Go.Proofs.YtbaklikaoleplaaW.PrintWords Go.Proofs.YtbaklikaoleplaaW.PrintLast Go.Proofs.YtbaklikaoleplaaW.PrintMore
set_option linter.unusedVariables false
set_option linter.unusedSimpArgs false
theorem yF (l:List Int) (T:Nat):(l.drop T).all (· ==0)=true↔∀j:Nat,T≤j→j<l.length→l.getD j 0=0:=by
 rw [nY]
 constructor
 ·intro h j h1 h2
  have hm:l[j]∈l.drop T:=by
   rw [List.mem_iff_getElem];refine ⟨j - T,by rw [dJ];omega,?_⟩;simp only [List.getElem_drop,show T+(j - T)=j by omega]
  have:=h _ hm
  rw [bP,bT h2]
  simpa using this
 ·intro h x hx
  obtain ⟨i,hi,rfl⟩:=qX hx;rw [dJ] at hi;have:=h (T+i) (by omega) (by omega)
  rw [bP,bT (by omega)] at this;rw [List.getElem_drop]
  simpa using this
def Zr (ws:List Int) (y t o:Int) (i:Nat):Prop:=((t≤i∧(i:Int)≤y - 1)∨(i:Int)≥o)→ws.getD i 0=0
theorem bQc {ws:List Int} {y t o:Int} {cards:List Bool} (hn:ws.length≤1048576) (hy:0≤y) (hy2:y≤40) (d:Nat): ∀(k i:Nat),i+d=ws.length→d<k→∃b,gM k ws.length i ws y t o cards=some b∧(b=true↔∀j:Nat,i≤j→j<ws.length→Zr ws y t o j):=by
 induction d with
 |zero=>
  intro k i hi hk;obtain ⟨k,rfl⟩: ∃m,k=m+1:=⟨k - 1,by omega⟩;refine ⟨true,by rw [gM,if_neg (by omega)],by simp only [true_iff];intro j h1 h2;omega⟩
 | succ d ih =>
  intro k i hi hk;obtain ⟨k,rfl⟩: ∃m,k=m+1:=⟨k - 1,by omega⟩;have hlt:i<ws.length:=by omega
  obtain ⟨b,h1,h2⟩:=ih k (i+1) (by omega) (by omega);rw [show ((i+1:Nat):Int)=wrap64 ((i:Int)+1) by rw [pQ (n:=1048577) (by omega) (by omega) (by omega)];omega] at h1;have w:wrap64 (y - 1)=y - 1:=dZ (by omega) (by omega)
  by_cases z:Zr ws y t o i
  ·refine ⟨b, ?_, h2.trans ⟨fun h j h3 h4 => ?_, fun h j h3 h4 => h j (by omega) h4⟩⟩
   ·rw [gM, if_pos (by omega), jS, w]
    simp only [bC,dI]
    by_cases c1:t≤(i:Int)∧(i:Int)≤y - 1
    ·rw [if_pos c1, if_pos (by omega), if_pos (by omega), zR, if_pos (z (Or.inl c1))]
     exact h1
    ·rw [if_neg c1]
     by_cases c2:(i:Int)≥o
     ·rw [if_pos c2, if_pos (by omega), if_pos (by omega), zR, if_pos (z (Or.inr c2))]
      exact h1
     ·rw [if_neg c2]
      exact h1
   ·rcases Nat.eq_or_lt_of_le h3 with q | q
    ·subst q;exact z
    ·exact h j (by omega) h4
  ·refine ⟨false, ?_, by constructor; intro h; simp at h; intro h; exact absurd (h i (bV _) hlt) z⟩
   have z2:((t≤(i:Int)∧(i:Int)≤y - 1)∨(i:Int)≥o)∧¬ws.getD i 0=0:=by
    unfold Zr at z;exact ⟨bF fun q=>z (fun p=>absurd p q),fun q=>z (fun _=>q)⟩
   rw [gM,if_pos (by omega),jS,w];simp only [bC,dI]
   by_cases c1:t≤(i:Int)∧(i:Int)≤y - 1
   ·rw [if_pos c1,if_pos (by omega),if_pos (by omega),zR,if_neg z2.2]
   ·rw [if_neg c1,if_pos (z2.1.resolve_left c1),if_pos (by omega),if_pos (by omega),zR,if_neg z2.2]
theorem bJn {cs:Cs} (hf:bMc cs) (hok:rP cs=true) {ws:List Int} {y t o:Int} {cards:List Bool} (hn:ws.length≤1048576) (hc:cards.length≤1048576):
    ∃p,kX ws y t o cards=some p∧(∀k,4000000≤k→nT k cs ws y t o cards=some p)∧(p=true→Bnd cs ws y t o cards):=by
  have bad: ∀k,1≤k→fG k ws.length true ws y t o cards=some false:=fun k hk=>by
    obtain ⟨k,rfl⟩: ∃m,k=m+1:=⟨k - 1,by omega⟩;rw [fG,if_pos rfl]
  have hp:kX ws y t o cards=some (rM ws y t o cards 0&&rM ws y t o cards 1&&rM ws y t o cards 2&&rM ws y t o cards 3&&rM ws y t o cards 4&&rM ws y t o cards 5&&rM ws y t o cards 6):=by
    unfold kX;rw [if_pos (by omega)]
  rw [hp]
  have hs: ∀k,4000000≤k→nT k cs ws y t o cards=if 0≤y∧y≤40 then (if 14≤wrap64 ((ws.length:Int) - y)∧wrap64 ((ws.length:Int) - y)≤120 then (if 0≤t∧t≤y then (if y≤o∧o≤ws.length then fG k ws.length ((cards.length:Int) !=xN (wrap64 ((ws.length:Int) - y))) ws y t o cards else some false) else some false) else some false) else some false:=fun k hk=>by
    unfold nT;rw [zO hf k (by omega),hok];simp only [bC,yL,jS,dI,bad k (by omega)]
    rfl
  by_cases c0:0≤y∧y≤40
  case neg=>
    refine ⟨_,rfl,fun k hk=>?_,fun h=>?_⟩
    · rw [hs k hk,if_neg c0,show rM ws y t o cards 0=false from bM c0];rfl
    · rw [show rM ws y t o cards 0=false from bM c0] at h;simp at h
  case pos=>
  have e0:rM ws y t o cards 0=true:=bD c0
  have w:wrap64 ((ws.length:Int) - y)=(ws.length:Int) - y:=dZ (by omega) (by omega)
  rw [e0,jQ];by_cases c1:14≤wrap64 ((ws.length:Int) - y)∧wrap64 ((ws.length:Int) - y)≤120
  case neg=>
    refine ⟨_,rfl,fun k hk=>?_,fun h=>?_⟩
    · rw [hs k hk,if_pos c0,if_neg c1,show rM ws y t o cards 1=false from bM c1];rfl
    · rw [show rM ws y t o cards 1=false from bM c1] at h;simp at h
  case pos=>
  have e1:rM ws y t o cards 1=true:=bD c1
  rw [e1,jQ];by_cases c2:0≤t∧t≤y
  case neg=>
    refine ⟨_,rfl,fun k hk=>?_,fun h=>?_⟩
    · rw [hs k hk,if_pos c0,if_pos c1,if_neg c2,show rM ws y t o cards 2=false from bM c2];rfl
    · rw [show rM ws y t o cards 2=false from bM c2] at h;simp at h
  case pos=>
  have e2:rM ws y t o cards 2=true:=bD c2
  rw [e2,jQ];by_cases c3:y≤o∧o≤(ws.length:Int)
  case neg=>
    refine ⟨_,rfl,fun k hk=>?_,fun h=>?_⟩
    · rw [hs k hk,if_pos c0,if_pos c1,if_pos c2,if_neg c3,show rM ws y t o cards 3=false from bM c3];rfl
    · rw [show rM ws y t o cards 3=false from bM c3] at h;simp at h
  case pos=>
  have e3:rM ws y t o cards 3=true:=bD c3
  rw [e3,jQ];by_cases c4:(cards.length:Int)=xN (wrap64 ((ws.length:Int) - y))
  case neg=>
    have e4:rM ws y t o cards 4=false:=xP.mpr c4
    refine ⟨_,rfl,fun k hk=>?_,fun h=>?_⟩
    · rw [hs k hk,if_pos c0,if_pos c1,if_pos c2,if_pos c3,bne_iff_ne.mpr c4,bad k (by omega),e4];rfl
    · rw [e4] at h;simp at h
  case pos=>
  have e4:rM ws y t o cards 4=true:=zH.mpr c4
  rw [e4,jQ]
  have h5:rM ws y t o cards 5=true↔∀j:Nat,t≤j→(j:Int)≤y - 1→ws.getD j 0=0:=by
    show ((ws.take y.toNat).drop t.toNat).all (· ==0)=true↔_
    rw [yF]
    constructor
    · intro h j h1 h2
      have:=h j (by omega) (by rw [dB];omega)
      rw [bP,fL,if_pos (by omega)] at this;rw [bP];exact this
    · intro h j h1 h2
      rw [dB] at h2;rw [bP,fL,if_pos (by omega)];have:=h j (by omega) (by omega)
      rw [bP] at this;exact this
  have h6:rM ws y t o cards 6=true↔∀j:Nat,o≤j→j<ws.length→ws.getD j 0=0:=by
    show ((ws.drop y.toNat).drop (o - y).toNat).all (· ==0)=true↔_
    rw [List.drop_drop,yF]
    constructor
    · intro h j h1 h2;exact h j (by omega) h2
    · intro h j h1 h2;exact h j (by omega) h2
  obtain ⟨b,hb1,hb2⟩:=bQc (ws:=ws) (y:=y) (t:=t) (o:=o) (cards:=cards) hn c0.1 c0.2 ws.length (ws.length+1) 0 (by omega) (by omega)
  have eb:(rM ws y t o cards 5&&rM ws y t o cards 6)=b:=by
    rw [yN,dY,h5,h6,hb2]
    constructor
    · rintro ⟨q1, q2⟩ j _ hj z
      rcases z with z|z
      · exact q1 j z.1 z.2
      · exact q2 j z hj
    · intro q
      exact ⟨fun j h1 h2=>q j (by omega) (by omega) (Or.inl ⟨h1,h2⟩),fun j h1 h2=>q j (by omega) h2 (Or.inr h1)⟩
  refine ⟨_,rfl,fun k hk=>?_,fun _=>?_⟩
  · rw [hs k hk, if_pos c0, if_pos c1, if_pos c2, if_pos c3, eb]
    obtain ⟨k,rfl⟩: ∃m,k=m+1:=⟨k - 1,by omega⟩;have e:((cards.length:Int) !=xN (wrap64 ((ws.length:Int) - y)))=false:=by rw [←c4];simp
    rw [e,fG,if_neg (by simp)];exact bJo (g:=fun k=>gM k ws.length 0 ws y t o cards) (fun k=>(vM k).2 _ _ _ _ _ _ _) (show ws.length+1≤k by omega) hb1
  · have w4 : xN (wrap64 ((ws.length : Int) - y)) = ((ws.length : Int) - y + 3) / 4 := by
      rw [w] at c1 ⊢;unfold xN;rw [dZ (n:=(ws.length:Int) - y+4) (by omega) (by omega),dZ (n:=(ws.length:Int) - y+4 - 1) (by omega) (by omega),jB (by omega),show (ws.length:Int) - y+4 - 1=(ws.length:Int) - y+3 by omega,dZ (by omega) (by omega)]
    rw [w] at c1;exact ⟨hok,c0.1,c0.2,c1.1,c1.2,c2.1,c2.2,c3.1,c3.2,by rw [c4,w4]⟩
theorem bOx {cs:Cs} {ws:List Int} {y t o:Int} {cards:List Bool} (hb:Bnd cs ws y t o cards) {W:List Int} (hw:Wlk cs ws W) (m:Mm) (hm:m=⟨ws,y,t,o,cards,gI cs,W.map (· +1)⟩):
  ∃b,(∀q,300≤q→rA q m (W.map (· +1))=some b)∧∀k,500≤k→mS k cs W (kR W ws.length) 0 ws y t o cards=some b:=by
 have hlen:=hw.len
 have key: ∀d i:Nat,i+d=W.length→∃b,(∀q,300≤q→rA q m ((W.drop i).map (· +1))=some b)∧∀k,d+201≤k→mS k cs W (kR W ws.length) i ws y t o cards=some b:=by
  intro d
  induction d with
  |zero=>
   intro i hi;refine ⟨true,fun q _=>by rw [hZ (by omega)];rfl,fun k hk=>?_⟩;obtain ⟨k,rfl⟩: ∃m,k=m+1:=⟨k - 1,by omega⟩;rw [mS,if_neg (by omega)]
  | succ d ih =>
   intro i hi;have hlt:i<W.length:=by omega
   obtain ⟨b,h1,h2⟩:=bQv hb hw m hm (jZ hlt);obtain ⟨b',h3,h4⟩:=ih (i+1) (by omega);have hd:(W.drop i).map (· +1)=(W[i]+1)::(W.drop (i+1)).map (· +1):=by rw [fO hlt];rfl
   refine ⟨if b=true then b' else false,fun q hq=>?_,fun k hk=>?_⟩
   ·rw [hd, rA, h1 q hq, bC]
    cases b with
    |true=>exact h3 q hq
    |false=>rfl
   ·obtain ⟨k, rfl⟩ : ∃ m, k = m + 1 := ⟨k - 1, by omega⟩
    rw [mS,if_pos (by omega),if_pos (by omega),xL hlt,h2 k (by omega),bC,pQ (n:=1048577) (by omega) (by omega) (by omega)]
    cases b with
    |true=>have:=h4 k (by omega);rw [show ((i+1:Nat):Int)=(i:Int)+1 by omega] at this;exact this
    |false=>rfl
 obtain ⟨b,h1,h2⟩:=key W.length 0 (by omega);exact ⟨b,h1,fun k hk=>h2 k (by omega)⟩
def Prt (cs:Cs) (ws:List Int) (y t o:Int) (W:List Int):Prop:= ∀x∈W,(0≤x∧0<jV ws (gI cs) t x∧jV ws (gI cs) t x≤t - x)∨(y≤x∧0<jV ws (gI cs) o x∧jV ws (gI cs) o x≤o - x)
theorem bRj {cs:Cs} (hf:bMc cs) {ws:List Int} {y t o:Int} {cards:List Bool} (hn:ws.length≤1048576) (hc:cards.length≤1048576):
  ∃r:Option Mm,(∀k,4000000≤k→bAm k k cs ws y t o cards=some r)∧(∀k,4000000≤k→mX k cs ws y t o cards=some r.isSome)∧
   (∀m,r=some m→∃W,Bnd cs ws y t o cards∧Wlk cs ws W∧m=⟨ws,y,t,o,cards,gI cs,W.map (· +1)⟩∧(∀k,4000000≤k→jT k cs ws y t o cards=some (W,true))∧Prt cs ws y t o W∧W=(pw ws (gI cs) t t.toNat 0).1++(pw ws (gI cs) o (o - y).toNat y).1∧∀q,300≤q→rA q m (W.map (· +1))=some true):=by
 cases hok:rP cs with
 | false =>
  refine ⟨none,fun k hk=>?_,fun k hk=>?_,fun m hm=>by cases hm⟩
  ·unfold bAm
   rw [qM cs k (by omega),hok];rfl
  ·unfold mX nT
   rw [zO hf k (by omega),hok];obtain ⟨k,rfl⟩: ∃m,k=m+1:=⟨k - 1,by omega⟩;rw [bC,if_neg (by simp),fG,if_pos rfl];rfl
 |true=>
 obtain ⟨p,hp1,hp2,hp3⟩:=bJn (cs:=cs) (y:=y) (t:=t) (o:=o) hf hok hn hc
 cases p with
 | false =>
  refine ⟨none,fun k hk=>?_,fun k hk=>?_,fun m hm=>by cases hm⟩
  ·unfold bAm
   rw [qM cs k (by omega),hok,bC,if_pos rfl,hp1];rfl
  ·unfold mX
   rw [hp2 k hk];rfl
 |true=>
 have hb:=hp3 rfl;have n0:=hb.n0;have n1:=hb.n1;have y0:=hb.y0;have y1:=hb.y1;have t0:=hb.t0;have t1:=hb.t1;have o0:=hb.o0;have o1:=hb.o1;obtain ⟨r1,h1⟩: ∃r1,r1=pw ws (gI cs) t t.toNat 0:=⟨_,rfl⟩;obtain ⟨r2,h2⟩: ∃r2,r2=pw ws (gI cs) o (o - y).toNat y:=⟨_,rfl⟩;have l1:=bAr ws (gI cs) t t.toNat 0;have l2:=bAr ws (gI cs) o (o - y).toNat y;have m1:=yV ws (gI cs) t t.toNat 0;have m2:=yV ws (gI cs) o (o - y).toNat y;have s1:=bAj ws (gI cs) t t.toNat 0;have s2:=bAj ws (gI cs) o (o - y).toNat y;rw [←h1] at l1 m1 s1;rw [←h2] at l2 m2 s2
 have hM: ∀k,4000000≤k→bAm k k cs ws y t o cards=if r1.2=true then (if r2.2=true then (rA k ⟨ws,y,t,o,cards,gI cs,(r1.1++r2.1).map (· +1)⟩ ((r1.1++r2.1).map (· +1))).bind fun ok=>if ok=true then some (some ⟨ws,y,t,o,cards,gI cs,(r1.1++r2.1).map (· +1)⟩) else some none else some none) else some none:=fun k hk=>by
  unfold bAm
  rw [qM cs k (by omega),hok,bC,if_pos rfl,hp1,bC,if_pos rfl,bFb hok k (by omega),bC,if_pos ⟨bMn hok,hn,hc⟩,
   bBt ws (gI cs) t t.toNat 0 [] k (by omega) (by omega),←h1,bC]
  by_cases c:r1.2=true
  ·rw [if_pos c, if_pos c, if_pos (by simp; omega), bBt ws (gI cs) o (o - y).toNat y _ k (by omega) (by omega), ← h2, bC]
   by_cases c2:r2.2=true
   ·rw [if_pos c2, if_pos c2, if_pos (by simp; omega)]
    simp only [pJ,←nA]
   ·rw [if_neg c2,if_neg c2]
  ·rw [if_neg c,if_neg c]
 have hW: ∀k,4000000≤k→jT k cs ws y t o cards=some (r1.1++r2.1,r1.2&&r2.2):=fun k hk=>by
  unfold jT mR;rw [bCl hok hn (by omega) t.toNat 0 [] k (by omega) (by omega) (by omega) (by simp;omega),←h1,bC,bCl hok hn (by omega) (o - y).toNat y [] k (by omega) (by omega) (by omega) (by simp;omega),←h2,bC];simp only [pJ]
  rw [if_pos (by omega),bC]
  cases r1.2 with
  |true=>rw [if_pos rfl];rfl
  |false=>rw [if_neg (by simp)];rfl
 have hS: ∀k,4000000≤k→mX k cs ws y t o cards=if (r1.2&&r2.2)=true then (mG k ws.length (r1.1++r2.1)).bind fun S=>mS k cs (r1.1++r2.1) S 0 ws y t o cards else some false:=fun k hk=>by
  unfold mX;rw [hp2 k hk,bC,if_pos rfl,hW k hk,bC]
 cases c1:r1.2 with
 |false=>
  refine ⟨none,fun k hk=>by rw [hM k hk,c1];rfl,fun k hk=>by rw [hS k hk,c1];rfl,fun m hm=>by cases hm⟩
 |true=>
 cases c2:r2.2 with
 |false=>
  refine ⟨none,fun k hk=>by rw [hM k hk,c1,c2];rfl,fun k hk=>by rw [hS k hk,c1,c2];rfl,fun m hm=>by cases hm⟩
 |true=>
 have hw:Wlk cs ws (r1.1++r2.1):=by
  refine ⟨fun x hx=>?_,?_,by rw [cH];omega⟩
  ·rcases List.mem_append.mp hx with z | z
   ·have:=m1 x z;exact ⟨t,by omega,by omega,by omega,by omega,by omega⟩
   ·have:=m2 x z;exact ⟨o,by omega,by omega,by omega,by omega,by omega⟩
  ·rw [List.pairwise_append]
   exact ⟨s1,s2,fun a ha b hb'=>by have:=m1 a ha;have:=m2 b hb';omega⟩
 obtain ⟨b,b1,b2⟩:=bOx hb hw _ rfl;have hst: ∀k,4000000≤k→mG k ws.length (r1.1++r2.1)=some (kR (r1.1++r2.1) ws.length):=fun k hk=>bIq (fun x hx=>rW hw hx) (by have:=hw.len;omega) (by omega) k (by omega)
 cases b with
 |false=>
  refine ⟨none,fun k hk=>by rw [hM k hk,if_pos c1,if_pos c2,b1 k (by omega)];rfl,fun k hk=>by rw [hS k hk,c1,c2,if_pos (show (true&&true)=true from rfl),hst k hk,bC,b2 k (by omega)];rfl,fun m hm=>by cases hm⟩
 |true=>
  refine ⟨some ⟨ws,y,t,o,cards,gI cs,(r1.1++r2.1).map (· +1)⟩,fun k hk=>by rw [hM k hk,if_pos c1,if_pos c2,b1 k (by omega)];rfl,fun k hk=>by rw [hS k hk,c1,c2,if_pos (show (true&&true)=true from rfl),hst k hk,bC,b2 k (by omega)];rfl,fun m hm=>?_⟩;obtain rfl:=bE hm;refine ⟨r1.1++r2.1,hb,hw,rfl,fun k hk=>by rw [hW k hk,c1,c2];rfl,fun x hx=>?_,by rw [h1,h2],fun q hq=>b1 q hq⟩;rcases List.mem_append.mp hx with z|z
  ·have:=m1 x z;exact .inl ⟨by omega,this.2.2.1,this.2.2.2⟩
  ·have:=m2 x z;exact .inr ⟨by omega,this.2.2.1,this.2.2.2⟩
theorem bHk {ws:List Int} {F:List (List Int)} {e e' x:Int} (h:0<jV ws F e x) (he:e≤e'):jV ws F e' x=jV ws F e x:=by
 unfold jV at h ⊢;by_cases c0:rd ws x<0
 ·rw [if_pos c0] at h ⊢
  rw [if_pos c0];by_cases c1:x+1<e
  ·rw [if_pos c1] at h ⊢
   rw [if_pos (by omega)];by_cases c2:jJ F (rd ws x) (rd ws (x+1))≤e - x
   ·rw [if_pos c2,if_pos (by omega)]
   ·rw [if_neg c2] at h;omega
  ·rw [if_neg c1] at h;omega
 ·rw [if_neg c0] at h ⊢
  rw [if_neg c0];by_cases c2:jJ F (rd ws x) 0≤e - x
  ·rw [if_pos c2,if_pos (by omega)]
  ·rw [if_neg c2] at h;omega
end Go.Proofs.Ytbaklikaoleplaa.Pure
namespace Go.Proofs.Ytbaklikaoleplaa.Pure
open Go.RowKit Go.Proofs.Ytbaklikaoleplaa.K Go.Proofs.YtbaklikaoleplaaW.PrintWords Go.Proofs.YtbaklikaoleplaaW.PrintLast Go.Proofs.YtbaklikaoleplaaW.PrintMore
set_option linter.unusedVariables false
set_option linter.unusedSimpArgs false
def Chn (sz:Int→Int) (e:Int):Int→List Int→Prop
  |i,[]=>i=e
  |i,x::r=>x=i∧Chn sz e (i+sz i) r
theorem bNd (ws:List Int) (F:List (List Int)) (e N:Int) (hN:e≤N): ∀(n:Nat) (i:Int),(e - i).toNat≤n→i≤e→(pw ws F e n i).2=true→Chn (jV ws F N) e i (pw ws F e n i).1
 |0,i,h,hi,_=>by simp only [pw,Chn];omega
 | n + 1, i, h, hi, ht => by
  rw [pw] at ht ⊢;by_cases c:i<e
  ·rw [if_pos c] at ht ⊢
   by_cases c2:jV ws F e i=0
   ·rw [if_pos c2] at ht;simp at ht
   ·rw [if_neg c2] at ht ⊢
    have hl:=bAl ws F e i;have hu:=bHk (ws:=ws) (F:=F) (e:=e) (x:=i) (by omega) hN;refine ⟨rfl,?_⟩;rw [hu];exact bNd ws F e N hN n (i+jV ws F e i) (by omega) (by omega) ht
  ·rw [if_neg c];simp only [Chn];omega
end Go.Proofs.Ytbaklikaoleplaa.Pure
namespace Go.Proofs.Ytbaklikaoleplaa.Pure
open Go.RowKit Go.Proofs.Ytbaklikaoleplaa.K Go.Proofs.YtbaklikaoleplaaW.PrintWords Go.Proofs.YtbaklikaoleplaaW.PrintLast Go.Proofs.YtbaklikaoleplaaW.PrintMore
set_option linter.unusedVariables false
set_option linter.unusedSimpArgs false
theorem bMz {cs:Cs} {ws:List Int} {y t o:Int} {cards:List Bool} (hb:Bnd cs ws y t o cards) {W:List Int} (hk: ∀k,4000000≤k→jT k cs ws y t o cards=some (W,true)):
  W=(pw ws (gI cs) t t.toNat 0).1++(pw ws (gI cs) o (o - y).toNat y).1∧(pw ws (gI cs) t t.toNat 0).2=true∧(pw ws (gI cs) o (o - y).toNat y).2=true:=by
 have n0:=hb.n0;have n1:=hb.n1;have y0:=hb.y0;have y1:=hb.y1;have t0:=hb.t0;have t1:=hb.t1;have o0:=hb.o0;have o1:=hb.o1;have l1:=bAr ws (gI cs) t t.toNat 0;have l2:=bAr ws (gI cs) o (o - y).toNat y;have h:=hk 4000000 (bV _);unfold jT mR at h;rw [bCl hb.ok (by omega) (by omega) t.toNat 0 [] 4000000 (by omega) (by omega) (by omega) (by simp;omega),bC,bCl hb.ok (by omega) (by omega) (o - y).toNat y [] 4000000 (by omega) (by omega) (by omega) (by simp;omega),bC] at h;simp only [pJ] at h;rw [if_pos (by omega),bC] at h
 cases c:(pw ws (gI cs) t t.toNat 0).2 with
 |true=>
  rw [c,if_pos rfl] at h;have h2:=bE h;exact ⟨(Prod.mk.inj h2).1.symm,rfl,(Prod.mk.inj h2).2⟩
 |false=>
  rw [c,if_neg (by simp)] at h;have h2:=bE h;exact absurd (Prod.mk.inj h2).2 (by simp)
end Go.Proofs.Ytbaklikaoleplaa.Pure
namespace Go.Proofs.Ytbaklikaoleplaa.Pure
open Go.RowKit Go.Proofs.Ytbaklikaoleplaa.K Go.Proofs.YtbaklikaoleplaaW.PrintWords Go.Proofs.YtbaklikaoleplaaW.PrintLast Go.Proofs.YtbaklikaoleplaaW.PrintMore
set_option linter.unusedVariables false
set_option linter.unusedSimpArgs false
def tL (c:Int):Int:=if c<0 then 2 else 1
def mZ (cs:Cs) (ws:List Int) (x:Int):Int:=jV ws (gI cs) ws.length x
def VOk (cs:Cs) (W:List Int) (c k v:Int):Prop:=if bDj cs c k=true then v=0∨v - 1∈W else -128≤v∧v≤127
def Wd (cs:Cs) (ws:List Int) (y:Int) (cards:List Bool) (W:List Int) (x i k:Int):Prop:=
  VOk cs W (rd ws x) k (rd ws i)∧(bDj cs (rd ws x) k=true→x≥y→1≤rd ws i→rd ws i≤y→kK false cards ((i - y)/4)=true)
structure Opn (cs:Cs) (ws:List Int) (y t o:Int) (cards:List Bool) (W:List Int):Prop where
 b:Bnd cs ws y t o cards
 z: ∀j:Nat,j<ws.length→Zr ws y t o j
 w1:(pw ws (gI cs) t t.toNat 0).2=true
 w2:(pw ws (gI cs) o (o - y).toNat y).2=true
 w:W=(pw ws (gI cs) t t.toNat 0).1++(pw ws (gI cs) o (o - y).toNat y).1
 d: ∀x∈W,∀k,0≤k→k<mZ cs ws x - tL (rd ws x)→Wd cs ws y cards W x (x+tL (rd ws x)+k) k
def qW (cs:Cs) (ws:List Int) (y t o:Int) (cards:List Bool) (W:List Int):Mm:=⟨ws,y,t,o,cards,gI cs,W.map (· +1)⟩
theorem bHi {cs:Cs} {ws:List Int} {y t o:Int} {cards:List Bool} (hb:Bnd cs ws y t o cards):kX ws y t o cards=some true↔∀j:Nat,j<ws.length→Zr ws y t o j:=by
 have n0:=hb.n0;have n1:=hb.n1;have y0:=hb.y0;have y1:=hb.y1;have t0:=hb.t0;have t1:=hb.t1;have o0:=hb.o0;have o1:=hb.o1;have cd:=hb.cd;have w:wrap64 ((ws.length:Int) - y)=(ws.length:Int) - y:=dZ (by omega) (by omega)
 have w4:xN (wrap64 ((ws.length:Int) - y))=((ws.length:Int) - y+3)/4:=by
  rw [w];unfold xN;rw [dZ (n:=(ws.length:Int) - y+4) (by omega) (by omega),dZ (n:=(ws.length:Int) - y+4 - 1) (by omega) (by omega),jB (by omega),show (ws.length:Int) - y+4 - 1=(ws.length:Int) - y+3 by omega,dZ (by omega) (by omega)]
 have e0:rM ws y t o cards 0=true:=bD ⟨y0,y1⟩
 have e1:rM ws y t o cards 1=true:=bD (by rw [w];exact ⟨n0,n1⟩)
 have e2:rM ws y t o cards 2=true:=bD ⟨t0,t1⟩
 have e3:rM ws y t o cards 3=true:=bD ⟨o0,o1⟩
 have e4:rM ws y t o cards 4=true:=zH.mpr (by rw [w4];exact cd)
 have h5:rM ws y t o cards 5=true↔∀j:Nat,t≤j→(j:Int)≤y - 1→ws.getD j 0=0:=by
  show ((ws.take y.toNat).drop t.toNat).all (· ==0)=true↔_
  rw [yF]
  constructor
  ·intro h j h1 h2
   have:=h j (by omega) (by rw [dB];omega)
   rw [bP,fL,if_pos (by omega)] at this;rw [bP];exact this
  ·intro h j h1 h2
   rw [dB] at h2;rw [bP,fL,if_pos (by omega)];have:=h j (by omega) (by omega)
   rw [bP] at this;exact this
 have h6:rM ws y t o cards 6=true↔∀j:Nat,o≤j→j<ws.length→ws.getD j 0=0:=by
  show ((ws.drop y.toNat).drop (o - y).toNat).all (· ==0)=true↔_
  rw [List.drop_drop,yF]
  constructor
  ·intro h j h1 h2;exact h j (by omega) h2
  ·intro h j h1 h2;exact h j (by omega) h2
 unfold kX;rw [if_pos (by omega),e0,e1,e2,e3,e4];simp only [jQ,fB,dY]
 rw [h5,h6]
 constructor
 ·rintro ⟨q1, q2⟩ j hj z
  rcases z with z|z
  ·exact q1 j z.1 z.2
  ·exact q2 j z hj
 ·intro q
  exact ⟨fun j h1 h2=>q j (by omega) (Or.inl ⟨h1,h2⟩),fun j h1 h2=>q j h2 (Or.inr h1)⟩
theorem tF {cs:Cs} {ws:List Int} {y t o:Int} {cards:List Bool} (hb:Bnd cs ws y t o cards) {W:List Int} (hw:Wlk cs ws W) {x:Int} (hx:x∈W):
  0≤x∧x<ws.length∧0≤mZ cs ws x - tL (rd ws x)∧mZ cs ws x - tL (rd ws x)≤8∧x+mZ cs ws x≤ws.length∧(tL (rd ws x)=1∨tL (rd ws x)=2)∧(rd ws x<0→tL (rd ws x)=2)∧
   nW (qW cs ws y t o cards W) (x+1)=some (mZ cs ws x - tL (rd ws x))∧kZ (qW cs ws y t o cards W) (x+1)=some (x+tL (rd ws x))∧
   (∀k,0≤k→k<mZ cs ws x - tL (rd ws x)→nV (qW cs ws y t o cards W) (x+1) k=some (bDj cs (rd ws x) k))∧∀k,20≤k→jN k cs ws x ws.length=some (mZ cs ws x):=by
 have n0:=hb.n0;have n1:=hb.n1;have y0:=hb.y0;have y1:=hb.y1;obtain ⟨cc,hd,cnt,hcc,h0,hhd,hcn,hcn8,hsz,hco,hfi,hhe,hl21,hle,hcl⟩:=bBk (t:=t) (o:=o) (cards:=cards) hb hw _ rfl hx;have hxr:=rW hw hx;have h20:=hl21 20 (bV _);rw [vS hb.ok (by omega) h0 (vW _) 20 (by omega),if_pos hxr.2] at h20;have h20:=bE h20
 have hh:tL (rd ws x)=hd:=by
  unfold jD at hhe;unfold tL;rw [←hcc];by_cases c:cc<0
  ·rw [if_pos c] at hhe ⊢;exact bE hhe
  ·rw [if_neg c] at hhe ⊢;exact bE hhe
 have hs:mZ cs ws x - tL (rd ws x)=cnt:=by unfold mZ;rw [hh,h20];omega
 have hs2:mZ cs ws x=hd+cnt:=by unfold mZ;exact h20
 rw [hs,hh];refine ⟨h0,hxr.2,hcn,hcn8,by omega,hhd,fun hn=>?_,hco,hfi,fun k k0 k1=>by rw [←hcc];exact hle k k0 k1,fun k hk=>by rw [hs2];exact hl21 k hk⟩;rw [←hh];unfold tL;rw [if_pos hn]
theorem bLc {cs:Cs} {ws:List Int} {y t o:Int} {cards:List Bool} (hb:Bnd cs ws y t o cards) {W:List Int} (hw:Wlk cs ws W) {x:Int} (hx:x∈W) {k:Int} (k0:0≤k) (k1:k<mZ cs ws x - tL (rd ws x)) (q:Nat) (hq:300≤q):
  zX q (qW cs ws y t o cards W) (x+1) k=some true↔Wd cs ws y cards W x (x+tL (rd ws x)+k) k:=by
 have n0:=hb.n0;have n1:=hb.n1;have y0:=hb.y0;have y1:=hb.y1;have cd:=hb.cd;obtain ⟨h0,h1,h2,h3,h4,h5,_,hco,hfi,hle,_⟩:=tF (t:=t) (o:=o) (cards:=cards) hb hw hx;obtain ⟨i,hi⟩: ∃i,i=x+tL (rd ws x)+k:=⟨_,rfl⟩;obtain ⟨v,hv⟩: ∃v,v=rd ws i:=⟨_,rfl⟩;rw [←hi];have hi0:x<i∧i<ws.length:=by omega
 have hA:zX q (qW cs ws y t o cards W) (x+1) k=if bDj cs (rd ws x) k=true then (if v=0 then some true else (qK q (qW cs ws y t o cards W) v).bind fun h=>if h=true then bBa (qW cs ws y t o cards W) (x+1) v i else some false) else qR v:=by
  unfold zX;rw [hfi,bC,show (qW cs ws y t o cards W).words=ws from rfl,←hi,if_pos (by omega),hle k k0 k1,bC,←hv]
 rw [hA];unfold Wd VOk;rw [←hv];by_cases l:bDj cs (rd ws x) k=true
 case neg=>
  rw [if_neg l,if_neg l]
  have hw8:qR v=some (decide (-128≤v∧v≤127)):=by
   unfold qR;by_cases q:v≥ -128
   ·rw [if_pos q];simp [show -128≤v from q]
   ·rw [if_neg q];simp [show¬ -128≤v from q]
  rw [hw8,fB,tM];exact ⟨fun h=>⟨h,fun e=>absurd e l⟩,fun h=>h.1⟩
 case pos=>
 rw [if_pos l,if_pos l];by_cases v0:v=0
 ·rw [if_pos v0]
  exact ⟨fun _=>⟨.inl v0,fun _ _ e=>by omega⟩,fun _=>rfl⟩
 rw [if_neg v0,bNp hw _ rfl v q hq,bC];by_cases vw:v - 1∈W
 case neg=>
  rw [bM vw];exact ⟨fun h=>by simp at h,fun h=>absurd (h.1.resolve_left v0) vw⟩
 case pos=>
 have hvr:=rW hw vw;rw [bD vw,if_pos rfl]
 have hC:bBa (qW cs ws y t o cards W) (x+1) v i=if x≥y then (if 1≤v∧v≤y then some (kK false cards ((i - y)/4)) else some true) else some true:=by
  unfold bBa;show (if x+1>y then (if v>y then some true else (if 0≤wrap64 (Int.tdiv (wrap64 (i - y)) 4)∧wrap64 (Int.tdiv (wrap64 (i - y)) 4)<(cards.length:Int) then some (kK false cards (wrap64 (Int.tdiv (wrap64 (i - y)) 4))) else none)) else some true)=_
  by_cases z1:x≥y
  ·rw [if_pos (show x + 1 > y by omega), if_pos z1]
   by_cases z2:v>y
   ·rw [if_pos z2,if_neg (by omega)]
   ·rw [if_neg z2,if_pos (show 1≤v∧v≤y by omega),dZ (n:=i - y) (by omega) (by omega),jB (by omega),dZ (n:=(i - y)/4) (by omega) (by omega),if_pos (by omega)]
  ·rw [if_neg (show¬x+1>y by omega),if_neg z1]
 rw [hC];by_cases z1:x≥y
 ·rw [if_pos z1]
  by_cases z2:1≤v∧v≤y
  ·rw [if_pos z2, fB]
   exact ⟨fun h=>⟨.inr vw,fun _ _ _ _=>h⟩,fun h=>h.2 l z1 z2.1 z2.2⟩
  ·rw [if_neg z2]
   exact ⟨fun _=>⟨.inr vw,fun _ _ a b=>absurd ⟨a,b⟩ z2⟩,fun _=>rfl⟩
 ·rw [if_neg z1]
  exact ⟨fun _=>⟨.inr vw,fun _ a=>absurd a z1⟩,fun _=>rfl⟩
theorem bMy (q:Nat) (m:Mm) (a n:Int): ∀(d:Nat) (k:Int) (j:Nat),0≤k→k+d=n→d+1≤j→(wordsOk.l q m a n j k=some true↔∀i,k≤i→i<n→zX q m a i=some true):=by
 intro d
 induction d with
 |zero=>
  intro k j h0 hd hj;obtain ⟨j,rfl⟩: ∃i,j=i+1:=⟨j - 1,by omega⟩;rw [wordsOk.l,if_neg (by omega)];exact ⟨fun _ i h1 h2=>by omega,fun _=>rfl⟩
 | succ d ih =>
  intro k j h0 hd hj;obtain ⟨j,rfl⟩: ∃i,j=i+1:=⟨j - 1,by omega⟩;rw [wordsOk.l,if_pos (by omega)];have ih:=ih (k+1) j (by omega) (by omega) (by omega)
  constructor
  ·intro h i h1 h2
   obtain ⟨b,hb,h⟩:=Option.bind_eq_some_iff.mp h
   cases b with
   |false=>simp at h
   |true=>
    rw [if_pos rfl] at h;rcases Int.lt_or_eq_of_le h1 with z|z
    ·exact ih.mp h i (by omega) h2
    ·rw [←z];exact hb
  ·intro h
   rw [h k (by omega) (by omega),bC,if_pos rfl];exact ih.mpr (fun i h1 h2=>h i (by omega) h2)
theorem bHb (q:Nat) (m:Mm): ∀L:List Int,rA q m L=some true↔∀a∈L,tR q m a=some true
 |[]=>by simp [rA]
 | a :: r => by
  have ih:=bHb q m r;rw [rA]
  constructor
  ·intro h z hz
   obtain ⟨b,hb,h⟩:=Option.bind_eq_some_iff.mp h
   cases b with
   |false=>simp at h
   |true=>
    rw [if_pos rfl] at h;rcases List.mem_cons.mp hz with rfl|hz
    ·exact hb
    ·exact ih.mp h z hz
  ·intro h
   rw [h a (gG ..),bC,if_pos rfl];exact ih.mpr (fun z hz=>h z (fC _ hz))
theorem bMl {cs:Cs} {ws:List Int} {y t o:Int} {cards:List Bool} (hb:Bnd cs ws y t o cards) {W:List Int} (hw:Wlk cs ws W) (q:Nat) (hq:300≤q):
  rA q (qW cs ws y t o cards W) (W.map (· +1))=some true↔∀x∈W,∀k,0≤k→k<mZ cs ws x - tL (rd ws x)→Wd cs ws y cards W x (x+tL (rd ws x)+k) k:=by
 rw [bHb]
 have one: ∀x∈W,tR q (qW cs ws y t o cards W) (x+1)=some true↔∀k,0≤k→k<mZ cs ws x - tL (rd ws x)→Wd cs ws y cards W x (x+tL (rd ws x)+k) k:=fun x hx=>by
  obtain ⟨h0,h1,h2,h3,h4,h5,_,hco,hfi,hle,_⟩:=tF (t:=t) (o:=o) (cards:=cards) hb hw hx;unfold tR;rw [hco,bC,if_pos (by omega),bMy q _ (x+1) _ (mZ cs ws x - tL (rd ws x)).toNat 0 _ (by omega) (by omega) (by omega)];exact ⟨fun h k k0 k1=>(bLc hb hw hx k0 k1 q hq).mp (h k k0 k1),fun h k k0 k1=>(bLc hb hw hx k0 k1 q hq).mpr (h k k0 k1)⟩
 constructor
 ·intro h x hx
  exact (one x hx).mp (h (x+1) (List.mem_map.mpr ⟨x,hx,rfl⟩))
 ·intro h a ha
  obtain ⟨x,hx,rfl⟩:=List.mem_map.mp ha;exact (one x hx).mpr (h x hx)
theorem Opn.wlk {cs:Cs} {ws:List Int} {y t o:Int} {cards:List Bool} {W:List Int} (h:Opn cs ws y t o cards W):Wlk cs ws W:=by
 have n0:=h.b.n0;have n1:=h.b.n1;have y0:=h.b.y0;have y1:=h.b.y1;have t0:=h.b.t0;have t1:=h.b.t1;have o0:=h.b.o0;have o1:=h.b.o1;have l1:=bAr ws (gI cs) t t.toNat 0;have l2:=bAr ws (gI cs) o (o - y).toNat y;have m1:=yV ws (gI cs) t t.toNat 0;have m2:=yV ws (gI cs) o (o - y).toNat y;have s1:=bAj ws (gI cs) t t.toNat 0;have s2:=bAj ws (gI cs) o (o - y).toNat y;rw [h.w];refine ⟨fun x hx=>?_,?_,by rw [cH];omega⟩
 ·rcases List.mem_append.mp hx with z | z
  ·have:=m1 x z;exact ⟨t,by omega,by omega,by omega,by omega,by omega⟩
  ·have:=m2 x z;exact ⟨o,by omega,by omega,by omega,by omega,by omega⟩
 ·rw [List.pairwise_append]
  exact ⟨s1,s2,fun a ha b hb'=>by have:=m1 a ha;have:=m2 b hb';omega⟩
theorem Opn.to {cs:Cs} {ws:List Int} {y t o:Int} {cards:List Bool} {W:List Int} (h:Opn cs ws y t o cards W): ∀k,4000000≤k→bAm k k cs ws y t o cards=some (some (qW cs ws y t o cards W)):=by
 intro k hk;have n0:=h.b.n0;have n1:=h.b.n1;have y0:=h.b.y0;have y1:=h.b.y1;have t0:=h.b.t0;have t1:=h.b.t1;have o0:=h.b.o0;have o1:=h.b.o1;have cd:=h.b.cd;have l1:=bAr ws (gI cs) t t.toNat 0;have l2:=bAr ws (gI cs) o (o - y).toNat y;have hp:kX ws y t o cards=some true:=(bHi h.b).mpr h.z
 have ht:=(bMl h.b h.wlk k (by omega)).mpr h.d;unfold bAm
 rw [qM cs k (by omega),h.b.ok,bC,if_pos rfl,hp,bC,if_pos rfl,bFb h.b.ok k (by omega),bC,if_pos ⟨bMn h.b.ok,by omega,by omega⟩,
  bBt ws (gI cs) t t.toNat 0 [] k (by omega) (by omega),bC,if_pos h.w1,if_pos (by simp;omega),bBt ws (gI cs) o (o - y).toNat y _ k (by omega) (by omega),bC,if_pos h.w2,if_pos (by simp;omega)]
 simp only [pJ,←nA]
 rw [←h.w];unfold qW at ht ⊢;rw [ht];rfl
theorem opn_of {cs:Cs} (hf:bMc cs) {ws:List Int} {y t o:Int} {cards:List Bool} (hn:ws.length≤1048576) (hc:cards.length≤1048576):
  ∃r:Option Mm,(∀k,4000000≤k→bAm k k cs ws y t o cards=some r)∧(∀k,4000000≤k→mX k cs ws y t o cards=some r.isSome)∧∀m,r=some m→∃W,Opn cs ws y t o cards W∧m=qW cs ws y t o cards W∧(∀k,4000000≤k→jT k cs ws y t o cards=some (W,true)):=by
 obtain ⟨r,h1,h2,h3⟩:=bRj (cs:=cs) hf (ws:=ws) (y:=y) (t:=t) (o:=o) (cards:=cards) hn hc;refine ⟨r,h1,h2,fun m hm=>?_⟩;obtain ⟨W,hb,hw,hm2,hk,hp,hW,ht⟩:=h3 m hm;obtain ⟨e,p1,p2⟩:=bMz hb hk;refine ⟨W,⟨hb,?_,p1,p2,e,?_⟩,hm2,hk⟩
 ·refine (bHi hb).mp ?_
  obtain ⟨p,hp1,_,_⟩:=bJn (cs:=cs) (y:=y) (t:=t) (o:=o) hf hb.ok hn hc
  cases p with
  |true=>exact hp1
  |false=>
   have q:=h1 4000000 (bV _);unfold bAm at q;rw [qM cs 4000000 (by omega),hb.ok,bC,if_pos rfl,hp1,bC,if_neg (by simp)] at q;rw [hm] at q;simp at q
 ·have := ht 300 (bV _)
  rw [hm2] at this;exact (bMl hb hw 300 (bV _)).mp this
end Go.Proofs.Ytbaklikaoleplaa.Pure
namespace Go.Proofs.Ytbaklikaoleplaa.Pure
open Go.RowKit Go.Proofs.Ytbaklikaoleplaa.K Go.Proofs.YtbaklikaoleplaaW.PrintWords Go.Proofs.YtbaklikaoleplaaW.PrintLast Go.Proofs.YtbaklikaoleplaaW.PrintMore
set_option linter.unusedVariables false
set_option linter.unusedSimpArgs false
theorem bAi {ws:List Int} {i j:Int} (v:Int) (hi:0≤i) (hj:0≤j) (h:j≠i):rd (ws.set i.toNat v) j=rd ws j:=by
  unfold rd;rw [bP,bP,List.getElem?_set_ne (by omega)]
theorem bCk {ws:List Int} {i:Int} (v:Int) (hi:0≤i) (h:i<ws.length):rd (ws.set i.toNat v) i=v:=by
  unfold rd;rw [bP,tP (by omega)];rfl
section
variable {cs:Cs} {ws:List Int} {y t o:Int} {cards:List Bool} {W:List Int}
theorem Opn.part (h:Opn cs ws y t o cards W) {x:Int} (hx:x∈W):(0≤x∧x+mZ cs ws x≤t∧0<mZ cs ws x∧x∈(pw ws (gI cs) t t.toNat 0).1)∨(y≤x∧x+mZ cs ws x≤o∧0<mZ cs ws x∧x∈(pw ws (gI cs) o (o - y).toNat y).1):=by
 have n0:=h.b.n0;have n1:=h.b.n1;have t1:=h.b.t1;have o1:=h.b.o1;have y1:=h.b.y1;rw [h.w] at hx;unfold mZ;rcases List.mem_append.mp hx with z|z
 ·have m := yV ws (gI cs) t t.toNat 0 x z
  rw [bHk m.2.2.1 (show t≤ws.length by omega)];exact .inl ⟨by omega,by omega,by omega,z⟩
 ·have m := yV ws (gI cs) o (o - y).toNat y x z
  rw [bHk m.2.2.1 (show o≤ws.length by omega)];exact .inr ⟨by omega,by omega,by omega,z⟩
theorem Opn.know (h:Opn cs ws y t o cards W) {x:Int} (hx:x∈W):0≤x∧x<ws.length∧0≤mZ cs ws x - tL (rd ws x)∧mZ cs ws x - tL (rd ws x)≤8∧x+mZ cs ws x≤ws.length∧(tL (rd ws x)=1∨tL (rd ws x)=2)∧(rd ws x<0→tL (rd ws x)=2):=by
  obtain ⟨a,b,c,d,e,f,g,_⟩:=tF h.b h.wlk hx;exact ⟨a,b,c,d,e,f,g⟩
end
end Go.Proofs.Ytbaklikaoleplaa.Pure
