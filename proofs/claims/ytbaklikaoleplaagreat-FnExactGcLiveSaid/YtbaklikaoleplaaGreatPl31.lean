import Derived.Test.YtbaklikaoleplaaGreatPl24
import Derived.Test.YtbaklikaoleplaaGreatPl28
import Derived.BigQuiet
import Derived.Test.YtbaklikaoleplaaGreatPl29
import Derived.Test.YtbaklikaoleplaaGreatPl30
set_option maxHeartbeats 32000000
set_option maxRecDepth 100000
namespace Go.Proofs.YtbaklikaoleplaaGreat.K
open Go.RowKit Go.Proofs.YtbaklikaoleplaaGreatW.PrintWords Go.Proofs.YtbaklikaoleplaaGreatW.PrintLast Go.Proofs.YtbaklikaoleplaaGreatW.PrintMore
attribute [local go_sem] gV gT jT jS fY fX gU gR
set_option linter.unusedVariables false
set_option linter.unusedSimpArgs false
def mI (m:Mm) (at_:Int):Option Int:=(kY m at_).bind fun c=>
  if c<0 then (if at_<m.words.length then some (rd m.words at_) else none)
  else if c<m.fields.length∧m.fields.length≤281474976710656 then some ((bEp m.fields c).length:Int) else none
theorem xG (g:Nat) (m:Mm) (at_ r:Int) (w:World) (hm:MV w g m) (h:mI m at_=some r):
  Calls Tryz.prog 103 #[bFu g at_] w fun e w'=>e= .returned (.int .i64 r)∧Below w.heap.size w w':=by
 unfold mI at h;obtain ⟨c,hc,h⟩:=Option.bind_eq_some_iff.mp h
 have h1:1≤at_:=by
  unfold kY at hc;split at hc
  case isTrue hb=>exact hb.1
  case isFalse=>simp at hc
 have HC:=aK hc;have HM:=aK hm;clear hc hm;by_cases c1:c<0
 ·rw [if_pos c1] at h
  have d1:decide (c<0)=true:=bB c1
  split at h
  case isFalse=>simp at h
  case isTrue h2=>
  have HR:=aK (bC h);clear h;unfold bFu;go_enter Tryz.func103,Tryz.ntmps103
  go_wp2_with fail
  go_at_call 102;refine (jN g m at_ c _ (cP HM.out (bI (bQ _ _) _)) HC.out).mono ?_;rintro e w1 ⟨rfl,hb⟩;have HB:=aK (bG (bI (bQ _ _) _) hb:Below w.heap.size w w1);have hbx:=bAb hb;obtain ⟨AW,cW,AC,cC,AF,cF,AB,cB,h0,hW,_,_,_,_⟩:=cP HM.out HB.out;have p1:=bL (show 0≤at_ by omega);have p2:=bL (show at_<(m.words.length:Int) by omega);obtain ⟨ad,e0,hx⟩:=dA hW at_ (by omega) (by omega)
  cases e0
  have b0:=(bK hbx 0).trans rfl;have b1:=(bK hbx 1).trans rfl;have g0:=(bK h0 0).trans rfl;clear hW h1 h2 c1 hbx h0 hb;go_wp2
  go_quiet (fail)
  go_wp2;go_ret;exact ⟨by rw [←HR.out];rfl,bF HB.out _⟩
 ·rw [if_neg c1] at h
  have d1:decide (c<0)=false:=bJ c1
  split at h
  case isFalse=>simp at h
  case isTrue h2=>
  have HR:=aK (bC h);clear h;unfold bFu;go_enter Tryz.func103,Tryz.ntmps103
  go_wp2_with fail
  go_at_call 102;refine (jN g m at_ c _ (cP HM.out (bI (bQ _ _) _)) HC.out).mono ?_;rintro e w1 ⟨rfl,hb⟩;have HB:=aK (bG (bI (bQ _ _) _) hb:Below w.heap.size w w1);have hbx:=bAb hb;have HM1:=aK (cP HM.out HB.out);obtain ⟨AW,cW,AC,cC,AF,cF,AB,cB,h0,_,_,hF,_,_⟩:=HM1.out;have p1:=bL (show 0≤c by omega);have p2:=bL (show c<(m.fields.length:Int) by omega);obtain ⟨ad,Af,cf,e0,hx,_⟩:=bJw hF c (by omega) (by omega)
  cases e0
  have b0:=(bK hbx 0).trans rfl;have b1:=(bK hbx 1).trans rfl;have g5:=(bK h0 5).trans rfl;clear hF h1 h2 c1 hbx h0 hb;go_wp2;refine sT 11 (S:=fun w'=>Aside0 (Below w.heap.size w w')∧Aside0 (MV w' g (m))∧w'.cell? (⟨w.heap.size,0,none⟩)=some (.pointer (some ⟨g,0,none⟩))∧w'.cell? (⟨w.heap.size,1,none⟩)=some (.int .i64 at_)∧w'.cell? (⟨g,5,none⟩)=some (.slice (some ad) m.fields.length cF)∧w'.cell? (ad.add c.toNat)=some (.slice Af (bEp m.fields c).length cf)) (ds:=[]) ⟨⟨bH HB.out⟩,⟨cP HM1.out (bH (bQ _ _))⟩,(by go_simp),(by go_simp),(by go_simp),(by go_simp)⟩ (fun hHeld=>?_);refine pS 0 16 #[true,false,false,false,false,false,false,false,false,false,false] ?_;refine tS 1 17 #[true,true,false,false,false,false,false,false,false,false,false] rfl rfl (by kernel_rfl) hHeld pD ?_;refine pS 2 18 #[true,true,true,false,false,false,false,false,false,false,false] ?_;refine pS 3 19 #[true,true,true,true,false,false,false,false,false,false,false] ?_;refine tS 4 20 #[true,true,true,true,true,false,false,false,false,false,false] rfl rfl (by kernel_rfl) hHeld pD ?_;refine tS 5 21 #[true,true,true,true,true,true,false,false,false,false,false] rfl rfl (by kernel_rfl) hHeld pD ?_;refine oS 6 22 #[true,true,true,true,true,true,true,false,false,false,false] rfl rfl (fun K hK=>?_);refine gO Tryz.func102 #[bFu g at_] ?_;(with_reducible refine (jN g m at_ c _ hHeld.2.1.out HC.out).mono ?_);rintro e w3 ⟨rfl,hb3⟩;refine ⟨_,rfl,?_⟩;refine hK.out _ _ ⟨⟨bG hHeld.1.out hb3⟩,⟨cP hHeld.2.1.out hb3⟩,(bIy hb3 hHeld.2.2)⟩ (fun hHeld=>?_);clear hK K;refine nS 22 ?_;refine pS 7 23 #[true,true,true,true,true,true,true,true,false,false,false] ?_;refine tS 8 24 #[true,true,true,true,true,true,true,true,true,false,false] rfl rfl (by kernel_rfl) hHeld pD ?_;refine pS 9 25 #[true,true,true,true,true,true,true,true,true,true,false] ?_;refine pS 10 2 #[true,true,true,true,true,true,true,true,true,true,true] ?_;refine kX (by kernel_rfl) ?_;go_wp2;go_ret;exact ⟨by rw [←HR.out];rfl,hHeld.1.out⟩
def mH (m:Mm) (at_ k:Int):Option Bool:=(kY m at_).bind fun c=>
  if c= -1 then some false else if c= -2 then some true
  else if 0≤c∧c<m.fields.length∧0≤k∧k<(bEp m.fields c).length then some (rd (bEp m.fields c) k !=1) else none
theorem jL (g:Nat) (m:Mm) (at_ k:Int) (r:Bool) (w:World) (hm:MV w g m) (h:mH m at_ k=some r):
  Calls Tryz.prog 105 #[bFu g at_,.int .i64 k] w fun e w'=>e= .returned (.bool r)∧Below w.heap.size w w':=by
 unfold mH at h;obtain ⟨c,hc,h⟩:=Option.bind_eq_some_iff.mp h;have HC:=aK hc;have HM:=aK hm;clear hc hm;by_cases c1:c= -1
 ·rw [if_pos c1] at h
  have HR:=aK (bC h);have d1:(c== -1)=true:=beq_iff_eq.mpr c1
  clear c1 h;unfold bFu;go_enter Tryz.func105,Tryz.ntmps105
  go_wp2_with fail
  go_at_call 102;refine (jN g m at_ c _ (cP HM.out (bI (bQ _ _) _)) HC.out).mono ?_;rintro e w1 ⟨rfl,hb⟩;have HB:=aK (bG (bI (bQ _ _) _) hb:Below w.heap.size w w1);clear hb;go_wp2;go_ret;exact ⟨by rw [←HR.out];rfl,HB.out⟩
 rw [if_neg c1] at h;have d1:(c== -1)=false:=tP.mpr c1
 by_cases c2:c= -2
 ·rw [if_pos c2] at h
  have HR:=aK (bC h);have d2:(c== -2)=true:=beq_iff_eq.mpr c2
  clear c1 c2 h;unfold bFu;go_enter Tryz.func105,Tryz.ntmps105
  go_wp2_with fail
  go_at_call 102;refine (jN g m at_ c _ (cP HM.out (bI (bQ _ _) _)) HC.out).mono ?_;rintro e w1 ⟨rfl,hb⟩;have HB:=aK (bG (bI (bQ _ _) _) hb:Below w.heap.size w w1);clear hb;go_wp2;go_ret;exact ⟨by rw [←HR.out];rfl,HB.out⟩
 rw [if_neg c2] at h;have d2:(c== -2)=false:=tP.mpr c2
 split at h
 case isFalse=>simp at h
 case isTrue h2=>
 obtain ⟨c3,c4,c5,c6⟩:=h2;have HR:=aK (bC h);clear h c1 c2;unfold bFu;go_enter Tryz.func105,Tryz.ntmps105
 go_wp2_with fail
 go_at_call 102;refine (jN g m at_ c _ (cP HM.out (bI (bQ _ _) _)) HC.out).mono ?_;rintro e w1 ⟨rfl,hb⟩;have HB:=aK (bG (bI (bQ _ _) _) hb:Below w.heap.size w w1);have hbx:=bAb hb;have HM1:=aK (cP HM.out HB.out);obtain ⟨AW,cW,AC,cC,AF,cF,AB,cB,h0,_,_,hF,_,_⟩:=HM1.out;have p1:=bL c3;have p2:=bL c4;obtain ⟨ad,Af,cf,e0,hx,_,hK⟩:=bJw hF c (by omega) (by omega)
 cases e0
 have p3:=bL c5;have p4:=bL c6;obtain ⟨ad2,e0,hy⟩:=dA hK k (by omega) (by omega)
 cases e0
 have b0:=(bK hbx 0).trans rfl;have b1:=(bK hbx 1).trans rfl;have g5:=(bK h0 5).trans rfl;clear hF hK hbx h0 hb c3 c4 c5 c6;go_wp2;refine sT 14 (S:=fun w'=>Aside0 (Below w.heap.size w w')∧Aside0 (MV w' g (m))∧w'.cell? (⟨w.heap.size,0,none⟩)=some (.pointer (some ⟨g,0,none⟩))∧w'.cell? (⟨w.heap.size,1,none⟩)=some (.int .i64 at_)∧w'.cell? (⟨g,5,none⟩)=some (.slice (some ad) m.fields.length cF)∧w'.cell? (ad.add c.toNat)=some (.slice (some ad2) (bEp m.fields c).length cf)∧w'.cell? (ad2.add k.toNat)=some (.int .i64 (rd (bEp m.fields c) k))) (ds:=[]) ⟨⟨bH HB.out⟩,⟨cP HM1.out (bH (bQ _ _))⟩,(by go_simp),(by go_simp),(by go_simp),(by go_simp),(by go_simp)⟩ (fun hHeld=>?_);refine dL 0 ?_;refine dL 9 ?_;refine tS 1 12 (lA 14 515) rfl rfl (by kernel_rfl) hHeld (by rintro w' ⟨s0,s1,s2,s3,s4,s5,s6⟩;go_simp;with_reducible rfl) ?_;refine dL 2 ?_;refine dL 3 ?_;refine tS 4 15 (lA 14 543) rfl rfl (by kernel_rfl) hHeld (by rintro w' ⟨s0,s1,s2,s3,s4,s5,s6⟩;go_simp;with_reducible rfl) ?_;refine tS 5 16 (lA 14 575) rfl rfl (by kernel_rfl) hHeld (by rintro w' ⟨s0,s1,s2,s3,s4,s5,s6⟩;go_simp;with_reducible rfl) ?_;refine oS 6 17 (lA 14 639) rfl rfl (fun K hK=>?_);refine gO Tryz.func102 #[bFu g at_] ?_;(with_reducible refine (jN g m at_ c _ hHeld.2.1.out HC.out).mono ?_);rintro e w3 ⟨rfl,hb3⟩;refine ⟨_,rfl,?_⟩;refine hK.out _ _ ⟨⟨bG hHeld.1.out hb3⟩,⟨cP hHeld.2.1.out hb3⟩,(yW hb3 hHeld.2.2)⟩ (fun hHeld=>?_);clear hK K;refine nS 17 ?_;refine dL 7 ?_;refine tS 8 19 (lA 14 1023) rfl rfl (by kernel_rfl) hHeld (by rintro w' ⟨s0,s1,s2,s3,s4,s5,s6⟩;go_simp;with_reducible rfl) ?_;refine dL 10 ?_;refine tS 11 22 (lA 14 4095) rfl rfl (by kernel_rfl) hHeld (by rintro w' ⟨s0,s1,s2,s3,s4,s5,s6⟩;go_simp;with_reducible rfl) ?_;refine dL 12 ?_;refine dL 13 ?_;refine kX (by kernel_rfl) ?_;go_wp2;go_ret;exact ⟨by rw [←HR.out];rfl,hHeld.1.out⟩
def nO (a0:Int):Option (Bool):=some (a0 !=a0)
theorem mY (a0:Int) (r:Bool) (w:World) (h:nO a0=some r):
  Calls Tryz.prog 168 #[.int .i64 a0] w fun e w'=>e= .returned (.bool r)∧Drawn0 w w':=by
 have H:(some (a0 !=a0))=some r:=h
 clear h;obtain rfl:=bC H;go_enter Tryz.func168,Tryz.ntmps168;go_wp2;go_ret;exact ⟨kG,nP⟩
def nG (a0:Int) (a1:Int):Option (Bool):=(nO a0).bind fun t321=>(if t321=true then ((nO a1).bind fun t322=>(if t322=true then (some (decide (a0<a1))) else (some true))) else (some (decide (a0<a1))))
theorem xB (a0:Int) (a1:Int) (r:Bool) (w:World) (h:nG a0 a1=some r):
  Calls Tryz.prog 148 #[.int .i64 a0,.int .i64 a1] w fun e w'=>e= .returned (.bool r)∧Drawn0 w w':=by
 have H:((nO a0).bind fun t321=>(if t321=true then ((nO a1).bind fun t322=>(if t322=true then (some (decide (a0<a1))) else (some true))) else (some (decide (a0<a1)))))=some r:=h
 clear h;replace H:=Option.bind_eq_some_iff.mp H;obtain ⟨t321,A30,H⟩:=H;(try dsimp only at H);have A3:=aK A30;clear A30;by_cases c4:t321=true
 ·subst c4
  rw [if_pos rfl] at H;replace H:=Option.bind_eq_some_iff.mp H;obtain ⟨t322,A50,H⟩:=H;(try dsimp only at H);have A5:=aK A50;clear A50;by_cases c6:t322=true
  ·subst c6
   rw [if_pos rfl] at H;obtain rfl:=bC H;go_enter Tryz.func148,Tryz.ntmps148
   go_wp2_with (first|((with_reducible refine cD (f:=168) rfl ?_);refine dT (some 6) rfl rfl Tryz.func168 (by kernel_rfl) rfl #[.int .i64 a0] rfl mO ?_;(with_reducible refine (mY a0 true _ A3.out).mono ?_);rintro e w' ⟨rfl,⟨nd,rfl⟩⟩;refine ⟨_,rfl,?_⟩)|(go_at_call 168;(with_reducible refine (mY a1 true _ A5.out).mono ?_);rintro e w' ⟨rfl,⟨nd,rfl⟩⟩))
   go_ret;exact ⟨kG,nP⟩
  ·replace c6 := Bool.eq_false_iff.mpr c6
   subst c6;rw [if_neg (show¬(false=true) by decide)] at H;obtain rfl:=bC H;go_enter Tryz.func148,Tryz.ntmps148
   go_wp2_with (first|((with_reducible refine cD (f:=168) rfl ?_);refine dT (some 6) rfl rfl Tryz.func168 (by kernel_rfl) rfl #[.int .i64 a0] rfl mO ?_;(with_reducible refine (mY a0 true _ A3.out).mono ?_);rintro e w' ⟨rfl,⟨nd,rfl⟩⟩;refine ⟨_,rfl,?_⟩)|(go_at_call 168;(with_reducible refine (mY a1 false _ A5.out).mono ?_);rintro e w' ⟨rfl,⟨nd,rfl⟩⟩))
   go_ret;exact ⟨kG,nP⟩
 ·replace c4 := Bool.eq_false_iff.mpr c4
  subst c4;rw [if_neg (show¬(false=true) by decide)] at H;obtain rfl:=bC H;go_enter Tryz.func148,Tryz.ntmps148
  go_wp2_with (first|((with_reducible refine cD (f:=168) rfl ?_);refine dT (some 6) rfl rfl Tryz.func168 (by kernel_rfl) rfl #[.int .i64 a0] rfl mO ?_;(with_reducible refine (mY a0 false _ A3.out).mono ?_);rintro e w' ⟨rfl,⟨nd,rfl⟩⟩;refine ⟨_,rfl,?_⟩))
  go_ret;exact ⟨kG,nP⟩
def pQ (a0:Int):Option (Bool):=some (a0 !=a0)
theorem pR (a0:Int) (r:Bool) (w:World) (h:pQ a0=some r):
  Calls Tryz.prog 149 #[.int .i64 a0] w fun e w'=>e= .returned (.bool r)∧Drawn0 w w':=by
 have H:(some (a0 !=a0))=some r:=h
 clear h;obtain rfl:=bC H;go_enter Tryz.func149,Tryz.ntmps149;go_wp2;go_ret;exact ⟨kG,nP⟩
def cQ:Nat→List Int→Int→Int→Int→Int→Option (Int×Bool)
  |0,_,_,_,_,_=>none
  |k+1,x0,x1,x6,x7,x8=>if x7<x8 then (if 0≤(wrap64 ((IntKind.u64.wrap (wrap64 (x7+x8)))/2)) then (if (wrap64 ((IntKind.u64.wrap (wrap64 (x7+x8)))/2))<(x0.length:Int) then ((nG (rd x0 (wrap64 ((IntKind.u64.wrap (wrap64 (x7+x8)))/2))) x1).bind fun t324=>(if t324=true then (cQ k x0 x1 x6 (wrap64 ((wrap64 ((IntKind.u64.wrap (wrap64 (x7+x8)))/2))+1)) x8) else (cQ k x0 x1 x6 x7 (wrap64 ((IntKind.u64.wrap (wrap64 (x7+x8)))/2))))) else (none)) else (none)) else (if x7<x6 then (if 0≤x7 then (if x7<(x0.length:Int) then (if (rd x0 x7)=x1 then (some (x7,true)) else ((pQ (rd x0 x7)).bind fun t327=>(if t327=true then ((pQ x1).bind fun t328=>(some (x7,t328))) else (some (x7,false))))) else (none)) else (none)) else (some (x7,false)))
def fD (k:Nat) (l0:List Int) (a1:Int):Option (Int×Bool):=cQ k l0 a1 (l0.length:Int) 0 (l0.length:Int)
theorem nF: ∀k,(∀y0 y1 y2 y3 y4,bBf (cQ k y0 y1 y2 y3 y4) (cQ (k+1) y0 y1 y2 y3 y4))
 |0=>fun _ _ _ _ _ r h=>by simp [cQ] at h
 | k + 1 => by
  have ih0:=nF k
  ·intro y0 y1 y2 y3 y4
   unfold cQ;repeat' first
   |(with_reducible exact ih0 _ _ _ _ _)
   |(with_reducible exact bBf.refl _)
   |(with_reducible exact bBf.none _)
   |(with_reducible refine bBf.ite ?_ ?_)
   |(with_reducible refine bBf.bind ?_ (fun _=>?_))
   |exact ih0 _ _ _ _ _
   |exact bBf.none _
   |refine bBf.ite ?_ ?_
   |refine bBf.bind ?_ (fun _=>?_)
theorem rX: ∀a0 a1 k,bBf (fD k a0 a1) (fD (k+1) a0 a1):=by
  intro a0 a1 k;have ih0:=nF k;unfold fD
  repeat' first
      |(with_reducible exact ih0 _ _ _ _ _)
      |(with_reducible exact bBf.refl _)
      |(with_reducible exact bBf.none _)
      |(with_reducible refine bBf.ite ?_ ?_)
      |(with_reducible refine bBf.bind ?_ (fun _=>?_))
      |exact ih0 _ _ _ _ _
      |exact bBf.none _
      |refine bBf.ite ?_ ?_
      |refine bBf.bind ?_ (fun _=>?_)
theorem rP (k : Nat) (A0 : Option Addr) (c0 : Nat) (l0 : List Int) (a1 : Int) (r1 : Int) (r2 : Bool) (w : World) (hr0 : Kd.C (Kd.int .i64) w A0 l0.length l0) (hc0 : l0.length ≤ c0) (h : fD k l0 a1 = some (r1, r2)) :
  Calls Tryz.prog 112 #[.slice A0 l0.length c0,.int .i64 a1] w fun e w'=>e= .returned (.tuple #[.int .i64 r1,.bool r2])∧Drawn0 w w':=by
 have HR0:=aK hr0;have HC0:=aK hc0;clear hr0 hc0;have H:(cQ k l0 a1 (l0.length:Int) 0 (l0.length:Int))=some (r1,r2):=h
 clear h;have H':=aK H;clear H;go_enter Tryz.func112,Tryz.ntmps112;go_wp2
 go_loopg [7,8] k (fun kq v7 v8 w'=> ∃(x7_1:Int) (x8_1:Int),v7= .int .i64 x7_1∧v8= .int .i64 x8_1∧Aside0 (cQ kq l0 a1 (l0.length:Int) x7_1 x8_1=some (r1,r2))∧Aside0 (kq≤k)∧Drawn0 w w')
 case atStart=>exact ⟨(0),((l0.length:Int)),kG,kG,H',⟨bV _⟩,by repeat (first|exact Drawn0.refl _|apply Drawn0.step)⟩
 case round =>
  clear H';(try clear c1);(try clear p2);obtain ⟨x7_1,x8_1,rfl,rfl,HA,HK1,⟨m1,rfl⟩⟩:=hrel
  cases gk with
  |zero=>exact absurd HA.out (by simp [cQ])
  | succ k1 =>
   have H:=HA.out;clear HA;simp only [cQ] at H;by_cases c3:x7_1<x8_1
   ·rw [if_pos c3] at H
    have c3b0:decide (x7_1<x8_1)=true:=bB c3
    clear c3;obtain ⟨ji4,hji4⟩: ∃j_:Int,(wrap64 ((IntKind.u64.wrap (wrap64 (x7_1+x8_1)))/2))=j_:=⟨_,rfl⟩;replace H:(if 0≤(ji4) then (if (ji4)<(l0.length:Int) then ((nG (rd l0 (ji4)) a1).bind fun t324=>(if t324=true then (cQ k1 l0 a1 (l0.length:Int) (wrap64 ((ji4)+1)) x8_1) else (cQ k1 l0 a1 (l0.length:Int) x7_1 ji4))) else (none)) else (none))=some (r1,r2):=by first|(rw [hji4] at H;exact H)|(simp only [hji4] at H ⊢;exact H)
    have hji4w:(IntKind.i64.wrap ((IntKind.u64.wrap (wrap64 (x7_1+x8_1)))/2))=ji4:=(mC _).trans hji4
    by_cases c5:0≤(ji4)
    ·rw [if_pos c5] at H
     have c5b0:decide (0≤(ji4))=true:=bB c5
     clear c5;by_cases c6:(ji4)<(l0.length:Int)
     ·rw [if_pos c6] at H
      have c6b0:decide ((ji4)<(l0.length:Int))=true:=bB c6
      clear c6;replace H:=Option.bind_eq_some_iff.mp H;obtain ⟨t324,A70,H⟩:=H;(try dsimp only at H);have A7:=aK A70;clear A70;by_cases c8:t324=true
      ·subst c8
       rw [if_pos rfl] at H;have H':=aK H;clear H;have p323:0≤((ji4):Int):=bA fU
       have q323:(ji4)<(l0.length:Int):=bA fU
       obtain ⟨ad323,e323,hx323_0⟩:=dA HR0.out (ji4) p323 q323
       cases e323
       replace p323:=bL p323;replace q323:=bL q323
       go_wp2_with (first|((with_reducible refine cD (f:=148) rfl ?_);refine dT (some 27) rfl rfl Tryz.func148 (by kernel_rfl) rfl #[.int .i64 (rd l0 (ji4)),.int .i64 a1] rfl (by (try simp only [kH,mR,nK]);first|done|(simp only [hji4];rfl)|rfl|(simp only [dD,dH];rfl)) ?_;(with_reducible refine (xB (rd l0 (ji4)) a1 true _ A7.out).mono ?_);rintro e w' ⟨rfl,⟨nd,rfl⟩⟩;refine ⟨_,rfl,?_⟩))
       go_roundg k1
       case measure=>have:=HK1.out;omega
       case rel=>exact ⟨(wrap64 ((ji4)+1)),(x8_1),(by first|rfl|(simp;done)|(simp only [←hji4]<;>(first|rfl|simp))|(simp [*];done)),kG,H',⟨by have:=HK1.out;omega⟩,by repeat (first|exact Drawn0.refl _|apply Drawn0.step)⟩
      ·replace c8 := Bool.eq_false_iff.mpr c8
       subst c8;rw [if_neg (show¬(false=true) by decide)] at H;have H':=aK H;clear H;have p323:0≤((ji4):Int):=bA fU
       have q323:(ji4)<(l0.length:Int):=bA fU
       obtain ⟨ad323,e323,hx323_0⟩:=dA HR0.out (ji4) p323 q323
       cases e323
       replace p323:=bL p323;replace q323:=bL q323
       go_wp2_with (first|((with_reducible refine cD (f:=148) rfl ?_);refine dT (some 27) rfl rfl Tryz.func148 (by kernel_rfl) rfl #[.int .i64 (rd l0 (ji4)),.int .i64 a1] rfl (by (try simp only [kH,mR,nK]);first|done|(simp only [hji4];rfl)|rfl|(simp only [dD,dH];rfl)) ?_;(with_reducible refine (xB (rd l0 (ji4)) a1 false _ A7.out).mono ?_);rintro e w' ⟨rfl,⟨nd,rfl⟩⟩;refine ⟨_,rfl,?_⟩))
       go_roundg k1
       case measure=>have:=HK1.out;omega
       case rel=>exact ⟨(x7_1),(ji4),kG,(by first|rfl|(simp;done)|(simp only [←hji4]<;>(first|rfl|simp))|(simp [*];done)),H',⟨by have:=HK1.out;omega⟩,by repeat (first|exact Drawn0.refl _|apply Drawn0.step)⟩
     ·rw [if_neg c6] at H
      exact absurd H (by simp)
    ·rw [if_neg c5] at H
     exact absurd H (by simp)
   ·rw [if_neg c3] at H
    have c3b0:decide (x7_1<x8_1)=false:=bJ c3
    clear c3;by_cases c9:x7_1<(l0.length:Int)
    ·rw [if_pos c9] at H
     have c9b0:decide (x7_1<(l0.length:Int))=true:=bB c9
     clear c9;by_cases c10:0≤x7_1
     ·rw [if_pos c10] at H
      have c10b0:decide (0≤x7_1)=true:=bB c10
      clear c10;by_cases c11:x7_1<(l0.length:Int)
      ·rw [if_pos c11] at H
       have c11b0:decide (x7_1<(l0.length:Int))=true:=bB c11
       clear c11;by_cases c12:(rd l0 x7_1)=a1
       ·rw [if_pos c12] at H
        have c12b0:((rd l0 x7_1)==a1)=true:=beq_iff_eq.mpr c12
        have c12b1:((rd l0 x7_1) !=a1)=false:=bne_eq_false_iff_eq.mpr c12
        clear c12;simp only [fE,Prod.mk.injEq] at H;obtain ⟨rfl,rfl⟩:=H;have p325:0≤(x7_1:Int):=bA fU
        have q325:x7_1<(l0.length:Int):=bA fU
        obtain ⟨ad325,e325,hx325_0⟩:=dA HR0.out x7_1 p325 q325
        cases e325
        replace p325:=bL p325;replace q325:=bL q325;go_wp2
        go_ret2
        exact ⟨kG,nP⟩
       ·rw [if_neg c12] at H
        have c12b0:((rd l0 x7_1)==a1)=false:=tP.mpr c12
        have c12b1:((rd l0 x7_1) !=a1)=true:=bne_iff_ne.mpr c12
        replace H:=Option.bind_eq_some_iff.mp H;obtain ⟨t327,A130,H⟩:=H;(try dsimp only at H);have A13:=aK A130;clear A130;by_cases c14:t327=true
        ·subst c14
         rw [if_pos rfl] at H;replace H:=Option.bind_eq_some_iff.mp H;obtain ⟨t328,A150,H⟩:=H;(try dsimp only at H);have A15:=aK A150;clear A150;simp only [fE,Prod.mk.injEq] at H;obtain ⟨rfl,rfl⟩:=H;have p325:0≤(x7_1:Int):=bA fU
         have q325:x7_1<(l0.length:Int):=bA fU
         obtain ⟨ad325,e325,hx325_0⟩:=dA HR0.out x7_1 p325 q325
         cases e325
         replace p325:=bL p325;replace q325:=bL q325;have p326:0≤(x7_1:Int):=bA fU
         have q326:x7_1<(l0.length:Int):=bA fU
         obtain ⟨ad326,e326,hx326_0⟩:=dA HR0.out x7_1 p326 q326;obtain rfl:ad325=ad326:=(by injection e326);replace p326:=bL p326;replace q326:=bL q326
         go_wp2_with (first|(go_at_call 149;(with_reducible refine (pR (rd l0 x7_1) true _ A13.out).mono ?_);rintro e w' ⟨rfl,⟨nd,rfl⟩⟩)|(go_at_call 149;(with_reducible refine (pR a1 t328 _ A15.out).mono ?_);rintro e w' ⟨rfl,⟨nd,rfl⟩⟩))
         go_ret2
         exact ⟨kG,nP⟩
        ·replace c14 := Bool.eq_false_iff.mpr c14
         subst c14;rw [if_neg (show¬(false=true) by decide)] at H;simp only [fE,Prod.mk.injEq] at H;obtain ⟨rfl,rfl⟩:=H;have p325:0≤(x7_1:Int):=bA fU
         have q325:x7_1<(l0.length:Int):=bA fU
         obtain ⟨ad325,e325,hx325_0⟩:=dA HR0.out x7_1 p325 q325
         cases e325
         replace p325:=bL p325;replace q325:=bL q325;have p326:0≤(x7_1:Int):=bA fU
         have q326:x7_1<(l0.length:Int):=bA fU
         obtain ⟨ad326,e326,hx326_0⟩:=dA HR0.out x7_1 p326 q326;obtain rfl:ad325=ad326:=(by injection e326);replace p326:=bL p326;replace q326:=bL q326
         go_wp2_with (first|(go_at_call 149;(with_reducible refine (pR (rd l0 x7_1) false _ A13.out).mono ?_);rintro e w' ⟨rfl,⟨nd,rfl⟩⟩))
         go_ret2
         exact ⟨kG,nP⟩
      ·rw [if_neg c11] at H
       exact absurd H (by simp)
     ·rw [if_neg c10] at H
      exact absurd H (by simp)
    ·rw [if_neg c9] at H
     have c9b0:decide (x7_1<(l0.length:Int))=false:=bJ c9
     clear c9;simp only [fE,Prod.mk.injEq] at H;obtain ⟨rfl,rfl⟩:=H;go_wp2
     go_ret2
     exact ⟨kG,nP⟩
def nR (k:Nat) (m:Mm) (at_:Int):Option Bool:=(fD k m.begins at_).bind fun p=>some p.2
theorem nC (k:Nat) (g:Nat) (m:Mm) (at_:Int) (r:Bool) (w:World) (hm:MV w g m) (h:nR k m at_=some r):
  Calls Tryz.prog 121 #[.pointer (some ⟨g,0,none⟩),.int .i64 at_] w fun e w'=>e= .returned (.bool r)∧Drawn0 w w':=by
 unfold nR at h;obtain ⟨⟨p1,p2⟩,hp,h⟩:=Option.bind_eq_some_iff.mp h;obtain rfl:p2=r:=bC h;have HP:=aK hp;obtain ⟨AW,cW,AC,cC,AF,cF,AB,cB,h0,_,_,_,hB,_,_,_,lB⟩:=hm;have HBg:=aK hB;have HL:=aK lB;have g6:=(bK h0 6).trans rfl;clear hp h h0 hB lB;go_enter Tryz.func121,Tryz.ntmps121
 go_wp2_with (go_at_call 112;refine (rP k AB cB m.begins at_ p1 p2 _ HBg.out HL.out HP.out).mono ?_;rintro e w' ⟨rfl,⟨nd,rfl⟩⟩)
 go_ret;exact ⟨rfl,Drawn0.step (Drawn0.refl _) _⟩
theorem mX (A0:Option Addr) (n0 c0:Nat) (a1 a2 a3:Int) (A4:Option Addr) (n4 c4:Nat) (x:Int) (r:Bool) (w:World) (h:decide (x>a1)=r):
  Calls Tryz.prog 124 #[.agg #[.slice A0 n0 c0,.int .i64 a1,.int .i64 a2,.int .i64 a3,.slice A4 n4 c4],.int .i64 x] w fun e w'=>e= .returned (.bool r)∧Below w.heap.size w w':=by
 go_enter Tryz.func124,Tryz.ntmps124;go_wp2;go_ret;exact ⟨by rw [←h];rfl,bI (bQ _ _) _⟩
def jY (m:Mm) (at_:Int):Option Int:=(kY m at_).bind fun c=>some (if c<0 then at_+1 else at_)
theorem zI {m:Mm} {at_ c:Int} (hc:kY m at_=some c):1≤at_∧at_≤m.words.length∧m.words.length≤281474976710656:=by
 unfold kY at hc
 split at hc
 case isTrue hb=>exact hb
 case isFalse=>simp at hc
theorem jM (g:Nat) (m:Mm) (at_ r:Int) (w:World) (hm:MV w g m) (h:jY m at_=some r):
  Calls Tryz.prog 125 #[bFu g at_] w fun e w'=>e= .returned (.int .i64 r)∧Below w.heap.size w w':=by
 unfold jY at h;obtain ⟨c,hc,h⟩:=Option.bind_eq_some_iff.mp h;have hl:=zI hc;have HR:=aK (bC h);have HC:=aK hc;have HM:=aK hm;obtain ⟨j,hj⟩: ∃j,j=at_+1:=⟨_,rfl⟩;have q:IntKind.i64.wrap (at_+1)=j:=by rw [hj];exact hZ _ ⟨by omega,by omega⟩
 rw [←hj] at HR;clear hc hm h hl hj;by_cases c1:c<0
 ·rw [if_pos c1] at HR
  have d1:decide (c<0)=true:=bB c1
  clear c1;unfold bFu;go_enter Tryz.func125,Tryz.ntmps125
  go_wp2_with fail
  go_at_call 102;refine (jN g m at_ c _ (cP HM.out (bI (bQ _ _) _)) HC.out).mono ?_;rintro e w1 ⟨rfl,hb⟩;have HB:=aK (bG (bI (bQ _ _) _) hb:Below w.heap.size w w1);have hbx:=bAb hb;have b1:=(bK hbx 1).trans rfl;clear hbx hb;go_wp2;go_ret;exact ⟨by rw [←HR.out];rfl,HB.out⟩
 ·rw [if_neg c1] at HR
  have d1:decide (c<0)=false:=bJ c1
  clear c1;unfold bFu;go_enter Tryz.func125,Tryz.ntmps125
  go_wp2_with fail
  go_at_call 102;refine (jN g m at_ c _ (cP HM.out (bI (bQ _ _) _)) HC.out).mono ?_;rintro e w1 ⟨rfl,hb⟩;have HB:=aK (bG (bI (bQ _ _) _) hb:Below w.heap.size w w1);have hbx:=bAb hb;have b1:=(bK hbx 1).trans rfl;clear hbx hb;go_wp2;go_ret;exact ⟨by rw [←HR.out];rfl,HB.out⟩
def nX (a0:Int):Option (Bool):=if a0≥(-128) then (some (decide (a0≤127))) else (some false)
theorem xP (a0:Int) (r:Bool) (w:World) (h:nX a0=some r):
  Calls Tryz.prog 141 #[.int .i64 a0] w fun e w'=>e= .returned (.bool r)∧Drawn0 w w':=by
 have H:(if a0≥(-128) then (some (decide (a0≤127))) else (some false))=some r:=h
 clear h;by_cases c2:a0≥(-128)
 ·rw [if_pos c2] at H
  have c2b0:decide ((-128)≤a0)=true:=bB c2
  clear c2;obtain rfl:=bC H;go_enter Tryz.func141,Tryz.ntmps141;go_wp2;go_ret;exact ⟨kG,nP⟩
 ·rw [if_neg c2] at H
  have c2b0:decide ((-128)≤a0)=false:=bJ c2
  clear c2;obtain rfl:=bC H;go_enter Tryz.func141,Tryz.ntmps141;go_wp2;go_ret;exact ⟨kG,nP⟩
def thing_size.f (m:Mm) (at_:Int):Option Int:=(jY m at_).bind fun a=>(mI m at_).bind fun n=>some (wrap64 (a - (at_ - 1)+n))
theorem bDr {m:Mm} {at_ a:Int} (h:jY m at_=some a):1≤at_∧at_≤m.words.length∧m.words.length≤281474976710656∧(a=at_∨a=at_+1):=by
 unfold jY at h;obtain ⟨c,hc,h⟩:=Option.bind_eq_some_iff.mp h;have t1:=zI hc;have t2:=bC h;refine ⟨t1.1,t1.2.1,t1.2.2,?_⟩
 split at t2<;>omega
theorem zV (A0:Option Addr) (n0 c0:Nat) (a1 a2 a3:Int) (A4:Option Addr) (n4 c4:Nat) (x j c:Int) (w:World) (hj:IntKind.i64.wrap (x - a1)=j) (h:wrap64 (Int.tdiv j 4)=c):
  Calls Tryz.prog 74 #[.agg #[.slice A0 n0 c0,.int .i64 a1,.int .i64 a2,.int .i64 a3,.slice A4 n4 c4],.int .i64 x] w fun e w'=>e= .returned (.int .i64 c)∧Below w.heap.size w w':=by
 go_enter Tryz.func74,Tryz.ntmps74;go_wp2;go_ret;exact ⟨by rw [←h,←mC];rfl,bI (bQ _ _) _⟩
def yV (m:Mm) (at_ v x:Int):Option Bool:=if at_>m.young then (if v>m.young then some true else (if 0≤wrap64 (Int.tdiv (wrap64 (x - m.young)) 4)∧wrap64 (Int.tdiv (wrap64 (x - m.young)) 4)<m.cards.length then some (fW false m.cards (wrap64 (Int.tdiv (wrap64 (x - m.young)) 4))) else none)) else some true
def xT (q:Nat) (m:Mm) (at_ k:Int):Option Bool:=(jY m at_).bind fun a=>if 0≤a+k∧a+k<m.words.length then (mH m at_ k).bind fun b=>if b=true then (if rd m.words (a+k)=0 then some true else (nR q m (rd m.words (a+k))).bind fun h=>if h=true then yV m at_ (rd m.words (a+k)) (a+k) else some false) else nX (rd m.words (a+k)) else none
def wordsOk.l (q:Nat) (m:Mm) (at_ n:Int):Nat→Int→Option Bool
  |0,_=>none
  |j+1,k=>if k<n then (xT q m at_ k).bind fun ok=>if ok=true then wordsOk.l q m at_ n j (k+1) else some false else some true
def rO (q:Nat) (m:Mm) (at_:Int):Option Bool:=(mI m at_).bind fun n=>if n≤1099511627776 then wordsOk.l q m at_ n (n.toNat+1) 0 else none
theorem tT (q g : Nat) (m : Mm) (at_ : Int) (r : Bool) (w : World) (hm : MV w g m) (h : rO q m at_ = some r) :
  Calls Tryz.prog 95 #[bFu g at_] w fun e w'=>e= .returned (.bool r)∧Below w.heap.size w w':=by
 unfold rO at h;obtain ⟨n,hn,h⟩:=Option.bind_eq_some_iff.mp h
 split at h
 case isFalse=>simp at h
 case isTrue hn2=>
 have HN:=aK hn;have HM:=aK hm;have HA:=aK h;have HN2:=aK hn2;clear hm hn h hn2;unfold bFu;go_enter Tryz.func95,Tryz.ntmps95
 go_wp2_with fail
 go_at_call 103;refine (xG g m at_ n _ (cP HM.out (bI (bQ _ _) _)) HN.out).mono ?_;rintro e w1 ⟨rfl,hb⟩;have HB1:=aK (bG (bI (bQ _ _) _) hb:Below w.heap.size w w1);have HX1:=aK (bAb hb);clear hb;go_wp2
 go_loopw [8] (fun i wr=> ∃(j:Nat) (k:Int),i= .int .i64 k∧Aside0 (wordsOk.l q m at_ n j k=some r)∧Aside0 (0≤k)∧Aside0 (wr.heap[w.heap.size]? =some (.cells #[.pointer (some ⟨g,0,none⟩),.int .i64 at_] 124 (0,0)))∧Aside0 (Below w.heap.size w wr)) (fun i _=>(n - intOf i).toNat)
 case atStart=>exact ⟨n.toNat+1,0,rfl,HA,⟨Int.le_refl _⟩,HX1,HB1⟩
 case round =>
  clear HA HX1 HB1;obtain ⟨j,k,rfl,HA,HK,HX,HB⟩:=hrel
  cases j with
  |zero=>exact absurd HA.out (by simp [wordsOk.l])
  | succ j1 =>
   have H:=HA.out;clear HA;unfold wordsOk.l at H;by_cases c0:k<n
   case neg=>
    rw [if_neg c0] at H;have d0:decide (k<n)=false:=bJ c0
    have HR:=aK (bC H);clear H c0;go_wp2;go_ret;exact ⟨by rw [←HR.out];rfl,HB.out⟩
   case pos =>
    rw [if_pos c0] at H;have d0:decide (k<n)=true:=bB c0
    obtain ⟨ok,hk,H⟩:=Option.bind_eq_some_iff.mp H;unfold xT at hk;obtain ⟨a,ha,hk⟩:=Option.bind_eq_some_iff.mp hk
    split at hk
    case isFalse=>simp at hk
    case isTrue hx=>
    obtain ⟨b,hb,hk⟩:=Option.bind_eq_some_iff.mp hk;have lf:=bDr ha;have HFi:=aK ha;have HLe:=aK hb;obtain ⟨x,hx0⟩: ∃x,x=a+k:=⟨_,rfl⟩;have q1:IntKind.i64.wrap (a+k)=x:=by rw [hx0];exact hZ _ ⟨by omega,by omega⟩
    rw [←hx0] at hk hx;obtain ⟨v,hv⟩: ∃v,v=rd m.words x:=⟨_,rfl⟩;rw [←hv] at hk;have HV:=aK hv;have p1:=bL hx.1;have p2:=bL hx.2;have HXw:=aK (show x<(m.words.length:Int)∧0≤x from ⟨hx.2,hx.1⟩);have HLf:=aK lf;have HC0:=aK c0;obtain ⟨k1,hk1⟩: ∃k1,k1=k+1:=⟨_,rfl⟩;have q2:IntKind.i64.wrap (k+1)=k1:=by rw [hk1];exact hZ _ ⟨by have:=HK.out;omega,by have:=HN2.out;omega⟩
    have HK1:=aK hk1;rw [←hk1] at H;have HH:=aK H;have HQ:=aK hk;clear ha hb hx0 hx hv lf c0 hk1 H hk
    cases b with
    | false =>
     have hq:=HQ.out;rw [if_neg (by simp)] at hq;have HQ2:=aK hq;clear hq HQ
     cases ok with
     |false=>
      have HZ:=aK (show false=r by have:=HH.out;rw [if_neg (by simp)] at this;exact bC this);clear HH;have b0:=(bK HX.out 0).trans rfl;have b1:=(bK HX.out 1).trans rfl
      go_wp2_with fail
      go_at_call 125;refine (jM g m at_ a _ (cP HM.out HB.out) HFi.out).mono ?_;rintro e w2 ⟨rfl,hb⟩;clear b0 b1;have HBn:=aK (bG HB.out hb);have HXn:=aK ((hb.block _ (cK HX.out)).trans HX.out);clear hb HB HX;have HB:=HBn;have HX:=HXn;clear HBn HXn;have b0:=(bK HX.out 0).trans rfl;have b1:=(bK HX.out 1).trans rfl;obtain ⟨AW,cW,AC,cC,AF,cF,AB,cB,h0,hW,hC,_⟩:=cP HM.out HB.out;obtain ⟨ad,e0,hcell⟩:=dA hW x (by have:=HXw.out;omega) (by have:=HXw.out;omega)
      cases e0
      rw [←HV.out] at hcell;have g0:=(bK h0 0).trans rfl;have G0:=aK h0;have HCc:=aK hC;clear h0 hW hC
      go_wp2_with fail
      go_at_call 105;refine (jL g m at_ k false _ (cP HM.out HB.out) HLe.out).mono ?_;rintro e w3 ⟨rfl,hb⟩;clear b0 b1 hcell g0;have G0n:=aK ((hb.block _ (cK G0.out)).trans G0.out);have HCn:=aK (bS HCc.out hb);clear G0 HCc;have G0:=G0n;have HCc:=HCn;clear G0n HCn;have HBn:=aK (bG HB.out hb);have HXn:=aK ((hb.block _ (cK HX.out)).trans HX.out);clear hb HB HX;have HB:=HBn;have HX:=HXn;clear HBn HXn
      go_wp2_with (go_at_call 141;refine (xP v false _ HQ2.out).mono ?_;rintro e w4 ⟨rfl,hd⟩;have hb:=hd.below;have HBn:=aK (bG HB.out hb);have HXn:=aK ((hb.block _ (cK HX.out)).trans HX.out);clear hd hb HB HX;have HB:=HBn;have HX:=HXn;clear HBn HXn)
      go_ret;exact ⟨by rw [←HZ.out];rfl,HB.out⟩
     |true=>
      have HZ:=aK (show wordsOk.l q m at_ n j1 k1=some r by have:=HH.out;rw [if_pos rfl] at this;exact this);clear HH;have b0:=(bK HX.out 0).trans rfl;have b1:=(bK HX.out 1).trans rfl
      go_wp2_with fail
      go_at_call 125;refine (jM g m at_ a _ (cP HM.out HB.out) HFi.out).mono ?_;rintro e w2 ⟨rfl,hb⟩;clear b0 b1;have HBn:=aK (bG HB.out hb);have HXn:=aK ((hb.block _ (cK HX.out)).trans HX.out);clear hb HB HX;have HB:=HBn;have HX:=HXn;clear HBn HXn;have b0:=(bK HX.out 0).trans rfl;have b1:=(bK HX.out 1).trans rfl;obtain ⟨AW,cW,AC,cC,AF,cF,AB,cB,h0,hW,hC,_⟩:=cP HM.out HB.out;obtain ⟨ad,e0,hcell⟩:=dA hW x (by have:=HXw.out;omega) (by have:=HXw.out;omega)
      cases e0
      rw [←HV.out] at hcell;have g0:=(bK h0 0).trans rfl;have G0:=aK h0;have HCc:=aK hC;clear h0 hW hC
      go_wp2_with fail
      go_at_call 105;refine (jL g m at_ k false _ (cP HM.out HB.out) HLe.out).mono ?_;rintro e w3 ⟨rfl,hb⟩;clear b0 b1 hcell g0;have G0n:=aK ((hb.block _ (cK G0.out)).trans G0.out);have HCn:=aK (bS HCc.out hb);clear G0 HCc;have G0:=G0n;have HCc:=HCn;clear G0n HCn;have HBn:=aK (bG HB.out hb);have HXn:=aK ((hb.block _ (cK HX.out)).trans HX.out);clear hb HB HX;have HB:=HBn;have HX:=HXn;clear HBn HXn
      go_wp2_with (go_at_call 141;refine (xP v true _ HQ2.out).mono ?_;rintro e w4 ⟨rfl,hd⟩;have hb:=hd.below;have HBn:=aK (bG HB.out hb);have HXn:=aK ((hb.block _ (cK HX.out)).trans HX.out);clear hd hb HB HX;have HB:=HBn;have HX:=HXn;clear HBn HXn)
      go_roundw
      case rel=>exact ⟨j1,k1,rfl,HZ,⟨by have:=HK1.out;have:=HK.out;omega⟩,HX,HB⟩
      case measure=>have:=HK1.out;have:=HC0.out;have:=HK.out;show (n - k1).toNat<(n - k).toNat;omega
    | true =>
     have hq:=HQ.out;rw [if_pos rfl] at hq;by_cases c1:v=0
     ·rw [if_pos c1] at hq
      have e1:(v !=0)=false:=by rw [c1];rfl
      have HQ2:=aK (bC hq);clear hq HQ c1;obtain rfl:=HQ2.out;have HZ:=aK (show wordsOk.l q m at_ n j1 k1=some r by have:=HH.out;rw [if_pos rfl] at this;exact this);clear HH;have b0:=(bK HX.out 0).trans rfl;have b1:=(bK HX.out 1).trans rfl
      go_wp2_with fail
      go_at_call 125;refine (jM g m at_ a _ (cP HM.out HB.out) HFi.out).mono ?_;rintro e w2 ⟨rfl,hb⟩;clear b0 b1;have HBn:=aK (bG HB.out hb);have HXn:=aK ((hb.block _ (cK HX.out)).trans HX.out);clear hb HB HX;have HB:=HBn;have HX:=HXn;clear HBn HXn;have b0:=(bK HX.out 0).trans rfl;have b1:=(bK HX.out 1).trans rfl;obtain ⟨AW,cW,AC,cC,AF,cF,AB,cB,h0,hW,hC,_⟩:=cP HM.out HB.out;obtain ⟨ad,e0,hcell⟩:=dA hW x (by have:=HXw.out;omega) (by have:=HXw.out;omega)
      cases e0
      rw [←HV.out] at hcell;have g0:=(bK h0 0).trans rfl;have G0:=aK h0;have HCc:=aK hC;clear h0 hW hC
      go_wp2_with fail
      go_at_call 105;refine (jL g m at_ k true _ (cP HM.out HB.out) HLe.out).mono ?_;rintro e w3 ⟨rfl,hb⟩;clear b0 b1 hcell g0;have G0n:=aK ((hb.block _ (cK G0.out)).trans G0.out);have HCn:=aK (bS HCc.out hb);clear G0 HCc;have G0:=G0n;have HCc:=HCn;clear G0n HCn;have HBn:=aK (bG HB.out hb);have HXn:=aK ((hb.block _ (cK HX.out)).trans HX.out);clear hb HB HX;have HB:=HBn;have HX:=HXn;clear HBn HXn;go_wp2
      go_roundw
      case rel=>exact ⟨j1,k1,rfl,HZ,⟨by have:=HK1.out;have:=HK.out;omega⟩,HX,HB⟩
      case measure=>have:=HK1.out;have:=HC0.out;have:=HK.out;show (n - k1).toNat<(n - k).toNat;omega
     rw [if_neg c1] at hq;have e1:(v !=0)=true:=bne_iff_ne.mpr c1
     obtain ⟨h,hh,hq⟩:=Option.bind_eq_some_iff.mp hq;have HHa:=aK hh;clear hh c1 HQ
     cases h with
     |false=>
      rw [if_neg (by simp)] at hq;have HQ2:=aK (bC hq);clear hq;obtain rfl:=HQ2.out;have HZ:=aK (show false=r by have:=HH.out;rw [if_neg (by simp)] at this;exact bC this);clear HH;have b0:=(bK HX.out 0).trans rfl;have b1:=(bK HX.out 1).trans rfl
      go_wp2_with fail
      go_at_call 125;refine (jM g m at_ a _ (cP HM.out HB.out) HFi.out).mono ?_;rintro e w2 ⟨rfl,hb⟩;clear b0 b1;have HBn:=aK (bG HB.out hb);have HXn:=aK ((hb.block _ (cK HX.out)).trans HX.out);clear hb HB HX;have HB:=HBn;have HX:=HXn;clear HBn HXn;have b0:=(bK HX.out 0).trans rfl;have b1:=(bK HX.out 1).trans rfl;obtain ⟨AW,cW,AC,cC,AF,cF,AB,cB,h0,hW,hC,_⟩:=cP HM.out HB.out;obtain ⟨ad,e0,hcell⟩:=dA hW x (by have:=HXw.out;omega) (by have:=HXw.out;omega)
      cases e0
      rw [←HV.out] at hcell;have g0:=(bK h0 0).trans rfl;have G0:=aK h0;have HCc:=aK hC;clear h0 hW hC
      go_wp2_with fail
      go_at_call 105;refine (jL g m at_ k true _ (cP HM.out HB.out) HLe.out).mono ?_;rintro e w3 ⟨rfl,hb⟩;clear b0 b1 hcell g0;have G0n:=aK ((hb.block _ (cK G0.out)).trans G0.out);have HCn:=aK (bS HCc.out hb);clear G0 HCc;have G0:=G0n;have HCc:=HCn;clear G0n HCn;have HBn:=aK (bG HB.out hb);have HXn:=aK ((hb.block _ (cK HX.out)).trans HX.out);clear hb HB HX;have HB:=HBn;have HX:=HXn;clear HBn HXn;have b0:=(bK HX.out 0).trans rfl;have b1:=(bK HX.out 1).trans rfl
      go_wp2_with (go_at_call 121;refine (nC q g m v false _ (cP HM.out HB.out) HHa.out).mono ?_;rintro e w5 ⟨rfl,hd⟩;have hb:=hd.below;have HBn:=aK (bG HB.out hb);have HXn:=aK ((hb.block _ (cK HX.out)).trans HX.out);have G0n:=aK ((hb.block _ (cK G0.out)).trans G0.out);have HCn:=aK (bS HCc.out hb);clear hd hb HB HX G0 HCc b0 b1;have HB:=HBn;have HX:=HXn;have G0:=G0n;have HCc:=HCn;clear HBn HXn G0n HCn)
      go_ret;exact ⟨by rw [←HZ.out];rfl,HB.out⟩
     | true =>
      rw [if_pos rfl] at hq;unfold yV at hq;by_cases c2:at_>m.young
      ·rw [if_pos c2] at hq
       have O1:=aK (bB c2);clear c2;by_cases c3:v>m.young
       ·rw [if_pos c3] at hq
        have O2:=aK (bB c3);have HQ2:=aK (bC hq);clear hq c3;obtain rfl:=HQ2.out;have HZ:=aK (show wordsOk.l q m at_ n j1 k1=some r by have:=HH.out;rw [if_pos rfl] at this;exact this);clear HH;have b0:=(bK HX.out 0).trans rfl;have b1:=(bK HX.out 1).trans rfl
        go_wp2_with fail
        go_at_call 125;refine (jM g m at_ a _ (cP HM.out HB.out) HFi.out).mono ?_;rintro e w2 ⟨rfl,hb⟩;clear b0 b1;have HBn:=aK (bG HB.out hb);have HXn:=aK ((hb.block _ (cK HX.out)).trans HX.out);clear hb HB HX;have HB:=HBn;have HX:=HXn;clear HBn HXn;have b0:=(bK HX.out 0).trans rfl;have b1:=(bK HX.out 1).trans rfl;obtain ⟨AW,cW,AC,cC,AF,cF,AB,cB,h0,hW,hC,_⟩:=cP HM.out HB.out;obtain ⟨ad,e0,hcell⟩:=dA hW x (by have:=HXw.out;omega) (by have:=HXw.out;omega)
        cases e0
        rw [←HV.out] at hcell;have g0:=(bK h0 0).trans rfl;have G0:=aK h0;have HCc:=aK hC;clear h0 hW hC
        go_wp2_with fail
        go_at_call 105;refine (jL g m at_ k true _ (cP HM.out HB.out) HLe.out).mono ?_;rintro e w3 ⟨rfl,hb⟩;clear b0 b1 hcell g0;have G0n:=aK ((hb.block _ (cK G0.out)).trans G0.out);have HCn:=aK (bS HCc.out hb);clear G0 HCc;have G0:=G0n;have HCc:=HCn;clear G0n HCn;have HBn:=aK (bG HB.out hb);have HXn:=aK ((hb.block _ (cK HX.out)).trans HX.out);clear hb HB HX;have HB:=HBn;have HX:=HXn;clear HBn HXn;have b0:=(bK HX.out 0).trans rfl;have b1:=(bK HX.out 1).trans rfl
        go_wp2_with (go_at_call 121;refine (nC q g m v true _ (cP HM.out HB.out) HHa.out).mono ?_;rintro e w5 ⟨rfl,hd⟩;have hb:=hd.below;have HBn:=aK (bG HB.out hb);have HXn:=aK ((hb.block _ (cK HX.out)).trans HX.out);have G0n:=aK ((hb.block _ (cK G0.out)).trans G0.out);have HCn:=aK (bS HCc.out hb);clear hd hb HB HX G0 HCc b0 b1;have HB:=HBn;have HX:=HXn;have G0:=G0n;have HCc:=HCn;clear HBn HXn G0n HCn;have b0:=(bK HX.out 0).trans rfl;have b1:=(bK HX.out 1).trans rfl;have g0:=(bK G0.out 0).trans rfl;have g1:=(bK G0.out 1).trans rfl;have g2:=(bK G0.out 2).trans rfl;have g3:=(bK G0.out 3).trans rfl;have g4:=(bK G0.out 4).trans rfl;have HM1:=aK (cP HM.out HB.out);try clear HCc)
        refine sT 36 (S:=fun w'=>Aside0 (Below w.heap.size w w')∧Aside0 (MV w' g (m))∧Aside0 (w'.heap[w.heap.size]? =some (.cells #[.pointer (some ⟨g,0,none⟩),.int .i64 at_] 124 (0,0)))∧w'.cell? (⟨w.heap.size,0,none⟩)=some (.pointer (some ⟨g,0,none⟩))∧w'.cell? (⟨w.heap.size,1,none⟩)=some (.int .i64 at_)∧w'.cell? (⟨g,0,none⟩)=some (.slice (some ad) m.words.length cW)∧w'.cell? (⟨g,1,none⟩)=some (.int .i64 m.young)∧w'.cell? (⟨g,2,none⟩)=some (.int .i64 m.top)∧w'.cell? (⟨g,3,none⟩)=some (.int .i64 m.old)∧w'.cell? (⟨g,4,none⟩)=some (.slice AC m.cards.length cC)) (ds:=[]) ⟨⟨bH HB.out⟩,⟨cP HM1.out (bH (bQ _ _))⟩,⟨bW HX.out⟩,(by go_simp),(by go_simp),(by go_simp),(by go_simp),(by go_simp),(by go_simp),(by go_simp)⟩ (fun hHeld=>?_);refine dL 0 ?_;refine dL 5 ?_;refine tS 1 41 (lA 36 35) rfl rfl (by kernel_rfl) hHeld bGl ?_;refine dL 2 ?_;refine dL 3 ?_;refine tS 4 44 (lA 36 63) rfl rfl (by kernel_rfl) hHeld bGl ?_;refine tS 6 46 (lA 36 127) rfl rfl (by kernel_rfl) hHeld bGl ?_;refine oS 7 47 (lA 36 255) rfl rfl (fun K hK=>?_);refine gO Tryz.func124 #[.agg #[.slice (some ad) m.words.length cW,.int .i64 m.young,.int .i64 m.top,.int .i64 m.old,.slice AC m.cards.length cC],.int .i64 at_] ?_;(with_reducible refine (mX (some ad) m.words.length cW m.young m.top m.old AC m.cards.length cC at_ true _ O1.out).mono ?_);rintro e w9 ⟨rfl,hb3⟩;refine ⟨_,rfl,?_⟩;refine hK.out _ _ ⟨⟨bG hHeld.1.out hb3⟩,⟨cP hHeld.2.1.out hb3⟩,⟨(hb3.block _ (cK hHeld.2.2.1.out)).trans hHeld.2.2.1.out⟩,(b7_7 hb3 hHeld.2.2.2)⟩ (fun hHeld=>?_);clear hK K;refine nS 47 ?_;refine dL 8 ?_;refine dL 9 ?_;refine dL 14 ?_;refine tS 10 50 (lA 36 18431) rfl rfl (by kernel_rfl) hHeld bGl ?_;refine dL 11 ?_;refine dL 12 ?_;refine tS 13 53 (lA 36 32767) rfl rfl (by kernel_rfl) hHeld bGl ?_;refine oS 15 55 (lA 36 65535) rfl rfl (fun K hK=>?_);refine gO Tryz.func124 #[.agg #[.slice (some ad) m.words.length cW,.int .i64 m.young,.int .i64 m.top,.int .i64 m.old,.slice AC m.cards.length cC],.int .i64 v] ?_;(with_reducible refine (mX (some ad) m.words.length cW m.young m.top m.old AC m.cards.length cC v true _ O2.out).mono ?_);rintro e w9 ⟨rfl,hb3⟩;refine ⟨_,rfl,?_⟩;refine hK.out _ _ ⟨⟨bG hHeld.1.out hb3⟩,⟨cP hHeld.2.1.out hb3⟩,⟨(hb3.block _ (cK hHeld.2.2.1.out)).trans hHeld.2.2.1.out⟩,(b7_7 hb3 hHeld.2.2.2)⟩ (fun hHeld=>?_);clear hK K;refine nS 55 ?_;refine dL 16 ?_;refine dL 17 ?_;refine dL 18 ?_;refine fN 19 ?_;refine fN 20 ?_;refine fN 21 ?_;refine fN 22 ?_;refine fN 23 ?_;refine fN 24 ?_;refine fN 25 ?_;refine fN 26 ?_;refine fN 27 ?_;refine fN 28 ?_;refine fN 29 ?_;refine fN 30 ?_;refine fN 31 ?_;refine fN 32 ?_;refine fN 33 ?_;refine fN 34 ?_;refine dL 35 ?_;refine kX (by kernel_rfl) ?_;have HBn:=hHeld.1;have HXn:=hHeld.2.2.1;clear hHeld HB HX;have HB:=HBn;have HX:=HXn;clear HBn HXn;go_wp2
        go_roundw
        case rel=>exact ⟨j1,k1,rfl,HZ,⟨by have:=HK1.out;have:=HK.out;omega⟩,HX,HB⟩
        case measure=>have:=HK1.out;have:=HC0.out;have:=HK.out;show (n - k1).toNat<(n - k).toNat;omega
       ·rw [if_neg c3] at hq
        have O2:=aK (bJ c3);clear c3;obtain ⟨cj,hcj⟩: ∃cj,cj=wrap64 (x - m.young):=⟨_,rfl⟩;obtain ⟨ci,hci⟩: ∃ci,ci=wrap64 (Int.tdiv cj 4):=⟨_,rfl⟩;rw [←hcj,←hci] at hq;have O3:=aK (show IntKind.i64.wrap (x - m.young)=cj by rw [hcj,mC]);have O4:=aK (show wrap64 (Int.tdiv cj 4)=ci from hci.symm);clear hcj hci
        split at hq
        case isFalse=>simp at hq
        case isTrue ht=>
        have t1:=bL ht.1;have t2:=bL ht.2;obtain ⟨cv,hcv⟩: ∃cv,cv=fW false m.cards ci:=⟨_,rfl⟩;rw [←hcv] at hq;have O5:=aK hcv.symm;have HQ2:=aK (bC hq);clear hq ht hcv;obtain rfl:=HQ2.out
        cases cv with
        |false=>
         have HZ:=aK (show false=r by have:=HH.out;rw [if_neg (by simp)] at this;exact bC this);clear HH;have b0:=(bK HX.out 0).trans rfl;have b1:=(bK HX.out 1).trans rfl
         go_wp2_with fail
         go_at_call 125;refine (jM g m at_ a _ (cP HM.out HB.out) HFi.out).mono ?_;rintro e w2 ⟨rfl,hb⟩;clear b0 b1;have HBn:=aK (bG HB.out hb);have HXn:=aK ((hb.block _ (cK HX.out)).trans HX.out);clear hb HB HX;have HB:=HBn;have HX:=HXn;clear HBn HXn;have b0:=(bK HX.out 0).trans rfl;have b1:=(bK HX.out 1).trans rfl;obtain ⟨AW,cW,AC,cC,AF,cF,AB,cB,h0,hW,hC,_⟩:=cP HM.out HB.out;obtain ⟨ad,e0,hcell⟩:=dA hW x (by have:=HXw.out;omega) (by have:=HXw.out;omega)
         cases e0
         rw [←HV.out] at hcell;have g0:=(bK h0 0).trans rfl;have G0:=aK h0;have HCc:=aK hC;clear h0 hW hC
         go_wp2_with fail
         go_at_call 105;refine (jL g m at_ k true _ (cP HM.out HB.out) HLe.out).mono ?_;rintro e w3 ⟨rfl,hb⟩;clear b0 b1 hcell g0;have G0n:=aK ((hb.block _ (cK G0.out)).trans G0.out);have HCn:=aK (bS HCc.out hb);clear G0 HCc;have G0:=G0n;have HCc:=HCn;clear G0n HCn;have HBn:=aK (bG HB.out hb);have HXn:=aK ((hb.block _ (cK HX.out)).trans HX.out);clear hb HB HX;have HB:=HBn;have HX:=HXn;clear HBn HXn;have b0:=(bK HX.out 0).trans rfl;have b1:=(bK HX.out 1).trans rfl
         go_wp2_with (go_at_call 121;refine (nC q g m v true _ (cP HM.out HB.out) HHa.out).mono ?_;rintro e w5 ⟨rfl,hd⟩;have hb:=hd.below;have HBn:=aK (bG HB.out hb);have HXn:=aK ((hb.block _ (cK HX.out)).trans HX.out);have G0n:=aK ((hb.block _ (cK G0.out)).trans G0.out);have HCn:=aK (bS HCc.out hb);clear hd hb HB HX G0 HCc b0 b1;have HB:=HBn;have HX:=HXn;have G0:=G0n;have HCc:=HCn;clear HBn HXn G0n HCn;have b0:=(bK HX.out 0).trans rfl;have b1:=(bK HX.out 1).trans rfl;have g0:=(bK G0.out 0).trans rfl;have g1:=(bK G0.out 1).trans rfl;have g2:=(bK G0.out 2).trans rfl;have g3:=(bK G0.out 3).trans rfl;have g4:=(bK G0.out 4).trans rfl;have HM1:=aK (cP HM.out HB.out);obtain ⟨ad4,e4,hc4⟩:=gQ HCc.out ci (of_eq_true t1) (of_eq_true t2);cases e4;rw [O5.out] at hc4;try clear HCc)
         refine sT 36 (S:=fun w'=>Aside0 (Below w.heap.size w w')∧Aside0 (MV w' g (m))∧Aside0 (w'.heap[w.heap.size]? =some (.cells #[.pointer (some ⟨g,0,none⟩),.int .i64 at_] 124 (0,0)))∧w'.cell? (⟨w.heap.size,0,none⟩)=some (.pointer (some ⟨g,0,none⟩))∧w'.cell? (⟨w.heap.size,1,none⟩)=some (.int .i64 at_)∧w'.cell? (⟨g,0,none⟩)=some (.slice (some ad) m.words.length cW)∧w'.cell? (⟨g,1,none⟩)=some (.int .i64 m.young)∧w'.cell? (⟨g,2,none⟩)=some (.int .i64 m.top)∧w'.cell? (⟨g,3,none⟩)=some (.int .i64 m.old)∧w'.cell? (⟨g,4,none⟩)=some (.slice (some ad4) m.cards.length cC)∧w'.cell? (ad4.add ci.toNat)=some (.bool false)) (ds:=[]) ⟨⟨bH HB.out⟩,⟨cP HM1.out (bH (bQ _ _))⟩,⟨bW HX.out⟩,(by go_simp),(by go_simp),(by go_simp),(by go_simp),(by go_simp),(by go_simp),(by go_simp),(by go_simp)⟩ (fun hHeld=>?_);refine dL 0 ?_;refine dL 5 ?_;refine tS 1 41 (lA 36 35) rfl rfl (by kernel_rfl) hHeld xE ?_;refine dL 2 ?_;refine dL 3 ?_;refine tS 4 44 (lA 36 63) rfl rfl (by kernel_rfl) hHeld xE ?_;refine tS 6 46 (lA 36 127) rfl rfl (by kernel_rfl) hHeld xE ?_;refine oS 7 47 (lA 36 255) rfl rfl (fun K hK=>?_);refine gO Tryz.func124 #[.agg #[.slice (some ad) m.words.length cW,.int .i64 m.young,.int .i64 m.top,.int .i64 m.old,.slice (some ad4) m.cards.length cC],.int .i64 at_] ?_;(with_reducible refine (mX (some ad) m.words.length cW m.young m.top m.old (some ad4) m.cards.length cC at_ true _ O1.out).mono ?_);rintro e w9 ⟨rfl,hb3⟩;refine ⟨_,rfl,?_⟩;refine hK.out _ _ ⟨⟨bG hHeld.1.out hb3⟩,⟨cP hHeld.2.1.out hb3⟩,⟨(hb3.block _ (cK hHeld.2.2.1.out)).trans hHeld.2.2.1.out⟩,(bP hb3 hHeld.2.2.2.1),(bP hb3 hHeld.2.2.2.2.1),(bP hb3 hHeld.2.2.2.2.2.1),(bP hb3 hHeld.2.2.2.2.2.2.1),(bP hb3 hHeld.2.2.2.2.2.2.2.1),(bP hb3 hHeld.2.2.2.2.2.2.2.2.1),(bP hb3 hHeld.2.2.2.2.2.2.2.2.2.1),(bP hb3 hHeld.2.2.2.2.2.2.2.2.2.2)⟩ (fun hHeld=>?_);clear hK K;refine nS 47 ?_;refine dL 8 ?_;refine dL 9 ?_;refine dL 14 ?_;refine tS 10 50 (lA 36 18431) rfl rfl (by kernel_rfl) hHeld xE ?_;refine dL 11 ?_;refine dL 12 ?_;refine tS 13 53 (lA 36 32767) rfl rfl (by kernel_rfl) hHeld xE ?_;refine oS 15 55 (lA 36 65535) rfl rfl (fun K hK=>?_);refine gO Tryz.func124 #[.agg #[.slice (some ad) m.words.length cW,.int .i64 m.young,.int .i64 m.top,.int .i64 m.old,.slice (some ad4) m.cards.length cC],.int .i64 v] ?_;(with_reducible refine (mX (some ad) m.words.length cW m.young m.top m.old (some ad4) m.cards.length cC v false _ O2.out).mono ?_);rintro e w9 ⟨rfl,hb3⟩;refine ⟨_,rfl,?_⟩;refine hK.out _ _ ⟨⟨bG hHeld.1.out hb3⟩,⟨cP hHeld.2.1.out hb3⟩,⟨(hb3.block _ (cK hHeld.2.2.1.out)).trans hHeld.2.2.1.out⟩,(bP hb3 hHeld.2.2.2.1),(bP hb3 hHeld.2.2.2.2.1),(bP hb3 hHeld.2.2.2.2.2.1),(bP hb3 hHeld.2.2.2.2.2.2.1),(bP hb3 hHeld.2.2.2.2.2.2.2.1),(bP hb3 hHeld.2.2.2.2.2.2.2.2.1),(bP hb3 hHeld.2.2.2.2.2.2.2.2.2.1),(bP hb3 hHeld.2.2.2.2.2.2.2.2.2.2)⟩ (fun hHeld=>?_);clear hK K;refine nS 55 ?_;refine dL 16 ?_;refine dL 17 ?_;refine dL 18 ?_;refine dL 19 ?_;refine dL 25 ?_;refine dL 30 ?_;refine tS 20 60 (lA 36 1109393407) rfl rfl (by kernel_rfl) hHeld xE ?_;refine dL 21 ?_;refine dL 22 ?_;refine dL 23 ?_;refine tS 24 64 (lA 36 1140850687) rfl rfl (by kernel_rfl) hHeld xE ?_;refine tS 26 66 (lA 36 1207959551) rfl rfl (by kernel_rfl) hHeld xE ?_;refine dL 27 ?_;refine dL 28 ?_;refine tS 29 69 (lA 36 2147483647) rfl rfl (by kernel_rfl) hHeld xE ?_;refine oS 31 71 (lA 36 4294967295) rfl rfl (fun K hK=>?_);refine gO Tryz.func74 #[.agg #[.slice (some ad) m.words.length cW,.int .i64 m.young,.int .i64 m.top,.int .i64 m.old,.slice (some ad4) m.cards.length cC],.int .i64 x] ?_;(with_reducible refine (zV (some ad) m.words.length cW m.young m.top m.old (some ad4) m.cards.length cC x cj ci _ O3.out O4.out).mono ?_);rintro e w9 ⟨rfl,hb3⟩;refine ⟨_,rfl,?_⟩
         refine hK.out _ _ ⟨⟨bG hHeld.1.out hb3⟩,⟨cP hHeld.2.1.out hb3⟩,⟨(hb3.block _ (cK hHeld.2.2.1.out)).trans hHeld.2.2.1.out⟩,(bP hb3 hHeld.2.2.2.1),(bP hb3 hHeld.2.2.2.2.1),(bP hb3 hHeld.2.2.2.2.2.1),(bP hb3 hHeld.2.2.2.2.2.2.1),(bP hb3 hHeld.2.2.2.2.2.2.2.1),(bP hb3 hHeld.2.2.2.2.2.2.2.2.1),(bP hb3 hHeld.2.2.2.2.2.2.2.2.2.1),(bP hb3 hHeld.2.2.2.2.2.2.2.2.2.2)⟩ (fun hHeld=>?_);clear hK K;refine nS 71 ?_;refine dL 32 ?_;refine tS 33 73 (lA 36 17179869183) rfl rfl (by kernel_rfl) hHeld xE ?_;refine dL 34 ?_;refine dL 35 ?_;refine kX (by kernel_rfl) ?_;have HBn:=hHeld.1;have HXn:=hHeld.2.2.1;clear hHeld HB HX;have HB:=HBn;have HX:=HXn;clear HBn HXn;go_wp2;go_ret;exact ⟨by rw [←HZ.out];rfl,HB.out⟩
        |true=>
         have HZ:=aK (show wordsOk.l q m at_ n j1 k1=some r by have:=HH.out;rw [if_pos rfl] at this;exact this);clear HH;have b0:=(bK HX.out 0).trans rfl;have b1:=(bK HX.out 1).trans rfl
         go_wp2_with fail
         go_at_call 125;refine (jM g m at_ a _ (cP HM.out HB.out) HFi.out).mono ?_;rintro e w2 ⟨rfl,hb⟩;clear b0 b1;have HBn:=aK (bG HB.out hb);have HXn:=aK ((hb.block _ (cK HX.out)).trans HX.out);clear hb HB HX;have HB:=HBn;have HX:=HXn;clear HBn HXn;have b0:=(bK HX.out 0).trans rfl;have b1:=(bK HX.out 1).trans rfl;obtain ⟨AW,cW,AC,cC,AF,cF,AB,cB,h0,hW,hC,_⟩:=cP HM.out HB.out;obtain ⟨ad,e0,hcell⟩:=dA hW x (by have:=HXw.out;omega) (by have:=HXw.out;omega)
         cases e0
         rw [←HV.out] at hcell;have g0:=(bK h0 0).trans rfl;have G0:=aK h0;have HCc:=aK hC;clear h0 hW hC
         go_wp2_with fail
         go_at_call 105;refine (jL g m at_ k true _ (cP HM.out HB.out) HLe.out).mono ?_;rintro e w3 ⟨rfl,hb⟩;clear b0 b1 hcell g0;have G0n:=aK ((hb.block _ (cK G0.out)).trans G0.out);have HCn:=aK (bS HCc.out hb);clear G0 HCc;have G0:=G0n;have HCc:=HCn;clear G0n HCn;have HBn:=aK (bG HB.out hb);have HXn:=aK ((hb.block _ (cK HX.out)).trans HX.out);clear hb HB HX;have HB:=HBn;have HX:=HXn;clear HBn HXn;have b0:=(bK HX.out 0).trans rfl;have b1:=(bK HX.out 1).trans rfl
         go_wp2_with (go_at_call 121;refine (nC q g m v true _ (cP HM.out HB.out) HHa.out).mono ?_;rintro e w5 ⟨rfl,hd⟩;have hb:=hd.below;have HBn:=aK (bG HB.out hb);have HXn:=aK ((hb.block _ (cK HX.out)).trans HX.out);have G0n:=aK ((hb.block _ (cK G0.out)).trans G0.out);have HCn:=aK (bS HCc.out hb);clear hd hb HB HX G0 HCc b0 b1;have HB:=HBn;have HX:=HXn;have G0:=G0n;have HCc:=HCn;clear HBn HXn G0n HCn;have b0:=(bK HX.out 0).trans rfl;have b1:=(bK HX.out 1).trans rfl;have g0:=(bK G0.out 0).trans rfl;have g1:=(bK G0.out 1).trans rfl;have g2:=(bK G0.out 2).trans rfl;have g3:=(bK G0.out 3).trans rfl;have g4:=(bK G0.out 4).trans rfl;have HM1:=aK (cP HM.out HB.out);obtain ⟨ad4,e4,hc4⟩:=gQ HCc.out ci (of_eq_true t1) (of_eq_true t2);cases e4;rw [O5.out] at hc4;try clear HCc)
         refine sT 36 (S:=fun w'=>Aside0 (Below w.heap.size w w')∧Aside0 (MV w' g (m))∧Aside0 (w'.heap[w.heap.size]? =some (.cells #[.pointer (some ⟨g,0,none⟩),.int .i64 at_] 124 (0,0)))∧w'.cell? (⟨w.heap.size,0,none⟩)=some (.pointer (some ⟨g,0,none⟩))∧w'.cell? (⟨w.heap.size,1,none⟩)=some (.int .i64 at_)∧w'.cell? (⟨g,0,none⟩)=some (.slice (some ad) m.words.length cW)∧w'.cell? (⟨g,1,none⟩)=some (.int .i64 m.young)∧w'.cell? (⟨g,2,none⟩)=some (.int .i64 m.top)∧w'.cell? (⟨g,3,none⟩)=some (.int .i64 m.old)∧w'.cell? (⟨g,4,none⟩)=some (.slice (some ad4) m.cards.length cC)∧w'.cell? (ad4.add ci.toNat)=some (.bool true)) (ds:=[]) ⟨⟨bH HB.out⟩,⟨cP HM1.out (bH (bQ _ _))⟩,⟨bW HX.out⟩,(by go_simp),(by go_simp),(by go_simp),(by go_simp),(by go_simp),(by go_simp),(by go_simp),(by go_simp)⟩ (fun hHeld=>?_);refine dL 0 ?_;refine dL 5 ?_;refine tS 1 41 (lA 36 35) rfl rfl (by kernel_rfl) hHeld xE ?_;refine dL 2 ?_;refine dL 3 ?_;refine tS 4 44 (lA 36 63) rfl rfl (by kernel_rfl) hHeld xE ?_;refine tS 6 46 (lA 36 127) rfl rfl (by kernel_rfl) hHeld xE ?_;refine oS 7 47 (lA 36 255) rfl rfl (fun K hK=>?_);refine gO Tryz.func124 #[.agg #[.slice (some ad) m.words.length cW,.int .i64 m.young,.int .i64 m.top,.int .i64 m.old,.slice (some ad4) m.cards.length cC],.int .i64 at_] ?_;(with_reducible refine (mX (some ad) m.words.length cW m.young m.top m.old (some ad4) m.cards.length cC at_ true _ O1.out).mono ?_);rintro e w9 ⟨rfl,hb3⟩;refine ⟨_,rfl,?_⟩;refine hK.out _ _ ⟨⟨bG hHeld.1.out hb3⟩,⟨cP hHeld.2.1.out hb3⟩,⟨(hb3.block _ (cK hHeld.2.2.1.out)).trans hHeld.2.2.1.out⟩,(bP hb3 hHeld.2.2.2.1),(bP hb3 hHeld.2.2.2.2.1),(bP hb3 hHeld.2.2.2.2.2.1),(bP hb3 hHeld.2.2.2.2.2.2.1),(bP hb3 hHeld.2.2.2.2.2.2.2.1),(bP hb3 hHeld.2.2.2.2.2.2.2.2.1),(bP hb3 hHeld.2.2.2.2.2.2.2.2.2.1),(bP hb3 hHeld.2.2.2.2.2.2.2.2.2.2)⟩ (fun hHeld=>?_);clear hK K;refine nS 47 ?_;refine dL 8 ?_;refine dL 9 ?_;refine dL 14 ?_;refine tS 10 50 (lA 36 18431) rfl rfl (by kernel_rfl) hHeld xE ?_;refine dL 11 ?_;refine dL 12 ?_;refine tS 13 53 (lA 36 32767) rfl rfl (by kernel_rfl) hHeld xE ?_;refine oS 15 55 (lA 36 65535) rfl rfl (fun K hK=>?_);refine gO Tryz.func124 #[.agg #[.slice (some ad) m.words.length cW,.int .i64 m.young,.int .i64 m.top,.int .i64 m.old,.slice (some ad4) m.cards.length cC],.int .i64 v] ?_;(with_reducible refine (mX (some ad) m.words.length cW m.young m.top m.old (some ad4) m.cards.length cC v false _ O2.out).mono ?_);rintro e w9 ⟨rfl,hb3⟩;refine ⟨_,rfl,?_⟩;refine hK.out _ _ ⟨⟨bG hHeld.1.out hb3⟩,⟨cP hHeld.2.1.out hb3⟩,⟨(hb3.block _ (cK hHeld.2.2.1.out)).trans hHeld.2.2.1.out⟩,(bP hb3 hHeld.2.2.2.1),(bP hb3 hHeld.2.2.2.2.1),(bP hb3 hHeld.2.2.2.2.2.1),(bP hb3 hHeld.2.2.2.2.2.2.1),(bP hb3 hHeld.2.2.2.2.2.2.2.1),(bP hb3 hHeld.2.2.2.2.2.2.2.2.1),(bP hb3 hHeld.2.2.2.2.2.2.2.2.2.1),(bP hb3 hHeld.2.2.2.2.2.2.2.2.2.2)⟩ (fun hHeld=>?_);clear hK K;refine nS 55 ?_;refine dL 16 ?_;refine dL 17 ?_;refine dL 18 ?_;refine dL 19 ?_;refine dL 25 ?_;refine dL 30 ?_;refine tS 20 60 (lA 36 1109393407) rfl rfl (by kernel_rfl) hHeld xE ?_;refine dL 21 ?_;refine dL 22 ?_;refine dL 23 ?_;refine tS 24 64 (lA 36 1140850687) rfl rfl (by kernel_rfl) hHeld xE ?_;refine tS 26 66 (lA 36 1207959551) rfl rfl (by kernel_rfl) hHeld xE ?_;refine dL 27 ?_;refine dL 28 ?_;refine tS 29 69 (lA 36 2147483647) rfl rfl (by kernel_rfl) hHeld xE ?_;refine oS 31 71 (lA 36 4294967295) rfl rfl (fun K hK=>?_);refine gO Tryz.func74 #[.agg #[.slice (some ad) m.words.length cW,.int .i64 m.young,.int .i64 m.top,.int .i64 m.old,.slice (some ad4) m.cards.length cC],.int .i64 x] ?_;(with_reducible refine (zV (some ad) m.words.length cW m.young m.top m.old (some ad4) m.cards.length cC x cj ci _ O3.out O4.out).mono ?_);rintro e w9 ⟨rfl,hb3⟩;refine ⟨_,rfl,?_⟩
         refine hK.out _ _ ⟨⟨bG hHeld.1.out hb3⟩,⟨cP hHeld.2.1.out hb3⟩,⟨(hb3.block _ (cK hHeld.2.2.1.out)).trans hHeld.2.2.1.out⟩,(bP hb3 hHeld.2.2.2.1),(bP hb3 hHeld.2.2.2.2.1),(bP hb3 hHeld.2.2.2.2.2.1),(bP hb3 hHeld.2.2.2.2.2.2.1),(bP hb3 hHeld.2.2.2.2.2.2.2.1),(bP hb3 hHeld.2.2.2.2.2.2.2.2.1),(bP hb3 hHeld.2.2.2.2.2.2.2.2.2.1),(bP hb3 hHeld.2.2.2.2.2.2.2.2.2.2)⟩ (fun hHeld=>?_);clear hK K;refine nS 71 ?_;refine dL 32 ?_;refine tS 33 73 (lA 36 17179869183) rfl rfl (by kernel_rfl) hHeld xE ?_;refine dL 34 ?_;refine dL 35 ?_;refine kX (by kernel_rfl) ?_;have HBn:=hHeld.1;have HXn:=hHeld.2.2.1;clear hHeld HB HX;have HB:=HBn;have HX:=HXn;clear HBn HXn;go_wp2
         go_roundw
         case rel=>exact ⟨j1,k1,rfl,HZ,⟨by have:=HK1.out;have:=HK.out;omega⟩,HX,HB⟩
         case measure=>have:=HK1.out;have:=HC0.out;have:=HK.out;show (n - k1).toNat<(n - k).toNat;omega
      ·rw [if_neg c2] at hq
       have O1:=aK (bJ c2);have HQ2:=aK (bC hq);clear hq c2;obtain rfl:=HQ2.out;have HZ:=aK (show wordsOk.l q m at_ n j1 k1=some r by have:=HH.out;rw [if_pos rfl] at this;exact this);clear HH;have b0:=(bK HX.out 0).trans rfl;have b1:=(bK HX.out 1).trans rfl
       go_wp2_with fail
       go_at_call 125;refine (jM g m at_ a _ (cP HM.out HB.out) HFi.out).mono ?_;rintro e w2 ⟨rfl,hb⟩;clear b0 b1;have HBn:=aK (bG HB.out hb);have HXn:=aK ((hb.block _ (cK HX.out)).trans HX.out);clear hb HB HX;have HB:=HBn;have HX:=HXn;clear HBn HXn;have b0:=(bK HX.out 0).trans rfl;have b1:=(bK HX.out 1).trans rfl;obtain ⟨AW,cW,AC,cC,AF,cF,AB,cB,h0,hW,hC,_⟩:=cP HM.out HB.out;obtain ⟨ad,e0,hcell⟩:=dA hW x (by have:=HXw.out;omega) (by have:=HXw.out;omega)
       cases e0
       rw [←HV.out] at hcell;have g0:=(bK h0 0).trans rfl;have G0:=aK h0;have HCc:=aK hC;clear h0 hW hC
       go_wp2_with fail
       go_at_call 105;refine (jL g m at_ k true _ (cP HM.out HB.out) HLe.out).mono ?_;rintro e w3 ⟨rfl,hb⟩;clear b0 b1 hcell g0;have G0n:=aK ((hb.block _ (cK G0.out)).trans G0.out);have HCn:=aK (bS HCc.out hb);clear G0 HCc;have G0:=G0n;have HCc:=HCn;clear G0n HCn;have HBn:=aK (bG HB.out hb);have HXn:=aK ((hb.block _ (cK HX.out)).trans HX.out);clear hb HB HX;have HB:=HBn;have HX:=HXn;clear HBn HXn;have b0:=(bK HX.out 0).trans rfl;have b1:=(bK HX.out 1).trans rfl
       go_wp2_with (go_at_call 121;refine (nC q g m v true _ (cP HM.out HB.out) HHa.out).mono ?_;rintro e w5 ⟨rfl,hd⟩;have hb:=hd.below;have HBn:=aK (bG HB.out hb);have HXn:=aK ((hb.block _ (cK HX.out)).trans HX.out);have G0n:=aK ((hb.block _ (cK G0.out)).trans G0.out);have HCn:=aK (bS HCc.out hb);clear hd hb HB HX G0 HCc b0 b1;have HB:=HBn;have HX:=HXn;have G0:=G0n;have HCc:=HCn;clear HBn HXn G0n HCn;have b0:=(bK HX.out 0).trans rfl;have b1:=(bK HX.out 1).trans rfl;have g0:=(bK G0.out 0).trans rfl;have g1:=(bK G0.out 1).trans rfl;have g2:=(bK G0.out 2).trans rfl;have g3:=(bK G0.out 3).trans rfl;have g4:=(bK G0.out 4).trans rfl;have HM1:=aK (cP HM.out HB.out);try clear HCc)
       refine sT 36 (S:=fun w'=>Aside0 (Below w.heap.size w w')∧Aside0 (MV w' g (m))∧Aside0 (w'.heap[w.heap.size]? =some (.cells #[.pointer (some ⟨g,0,none⟩),.int .i64 at_] 124 (0,0)))∧w'.cell? (⟨w.heap.size,0,none⟩)=some (.pointer (some ⟨g,0,none⟩))∧w'.cell? (⟨w.heap.size,1,none⟩)=some (.int .i64 at_)∧w'.cell? (⟨g,0,none⟩)=some (.slice (some ad) m.words.length cW)∧w'.cell? (⟨g,1,none⟩)=some (.int .i64 m.young)∧w'.cell? (⟨g,2,none⟩)=some (.int .i64 m.top)∧w'.cell? (⟨g,3,none⟩)=some (.int .i64 m.old)∧w'.cell? (⟨g,4,none⟩)=some (.slice AC m.cards.length cC)) (ds:=[]) ⟨⟨bH HB.out⟩,⟨cP HM1.out (bH (bQ _ _))⟩,⟨bW HX.out⟩,(by go_simp),(by go_simp),(by go_simp),(by go_simp),(by go_simp),(by go_simp),(by go_simp)⟩ (fun hHeld=>?_);refine dL 0 ?_;refine dL 5 ?_;refine tS 1 41 (lA 36 35) rfl rfl (by kernel_rfl) hHeld bGl ?_;refine dL 2 ?_;refine dL 3 ?_;refine tS 4 44 (lA 36 63) rfl rfl (by kernel_rfl) hHeld bGl ?_;refine tS 6 46 (lA 36 127) rfl rfl (by kernel_rfl) hHeld bGl ?_;refine oS 7 47 (lA 36 255) rfl rfl (fun K hK=>?_);refine gO Tryz.func124 #[.agg #[.slice (some ad) m.words.length cW,.int .i64 m.young,.int .i64 m.top,.int .i64 m.old,.slice AC m.cards.length cC],.int .i64 at_] ?_;(with_reducible refine (mX (some ad) m.words.length cW m.young m.top m.old AC m.cards.length cC at_ false _ O1.out).mono ?_);rintro e w9 ⟨rfl,hb3⟩;refine ⟨_,rfl,?_⟩;refine hK.out _ _ ⟨⟨bG hHeld.1.out hb3⟩,⟨cP hHeld.2.1.out hb3⟩,⟨(hb3.block _ (cK hHeld.2.2.1.out)).trans hHeld.2.2.1.out⟩,(b7_7 hb3 hHeld.2.2.2)⟩ (fun hHeld=>?_);clear hK K;refine nS 47 ?_;refine dL 8 ?_;refine fN 9 ?_;refine fN 10 ?_;refine fN 11 ?_;refine fN 12 ?_;refine fN 13 ?_;refine fN 14 ?_;refine fN 15 ?_;refine fN 16 ?_;refine dL 17 ?_;refine dL 18 ?_;refine fN 19 ?_;refine fN 20 ?_;refine fN 21 ?_;refine fN 22 ?_;refine fN 23 ?_;refine fN 24 ?_;refine fN 25 ?_;refine fN 26 ?_;refine fN 27 ?_;refine fN 28 ?_;refine fN 29 ?_;refine fN 30 ?_;refine fN 31 ?_;refine fN 32 ?_;refine fN 33 ?_;refine fN 34 ?_;refine dL 35 ?_;refine kX (by kernel_rfl) ?_;have HBn:=hHeld.1;have HXn:=hHeld.2.2.1;clear hHeld HB HX;have HB:=HBn;have HX:=HXn;clear HBn HXn;go_wp2
       go_roundw
       case rel=>exact ⟨j1,k1,rfl,HZ,⟨by have:=HK1.out;have:=HK.out;omega⟩,HX,HB⟩
       case measure=>have:=HK1.out;have:=HC0.out;have:=HK.out;show (n - k1).toNat<(n - k).toNat;omega
def pG (q:Nat) (m:Mm):List Int→Option Bool
  |[]=>some true
  |a::r=>(rO q m a).bind fun ok=>if ok=true then pG q m r else some false
def yY (k q : Nat) (l0 : List S78) (ws : List Int) (y t o : Int) (cs : List Bool) : Option (Option Mm) :=
  (qW k l0).bind fun c=>if c=true then ((jW ws y t o cs).bind fun p=>if p=true then ((qV k l0).bind fun F=>
    if F.all (fun r=>decide (r.length≤4294967296))=true∧ws.length≤1048576∧cs.length≤1048576 then ((bAo ws F t q 0 []).bind fun r1=>if r1.1=true then (if r1.2.length≤1048576 then ((bAo ws F o q y r1.2).bind fun r2=>if r2.1=true then (if r2.2.length≤1048576 then ((pG q ⟨ws,y,t,o,cs,F,r2.2⟩ r2.2).bind fun ok=>if ok=true then some (some ⟨ws,y,t,o,cs,F,r2.2⟩) else some none) else none) else some none) else none) else some none) else none) else some none) else some none
def bHv (w:World) (r:Option Mm) (e:Ending) (w':World):Prop:=
  match r with
  |none=>e= .returned (.tuple #[.pointer none,.bool false])∧Below w.heap.size w w'
  |some m=> ∃g,e= .returned (.tuple #[.pointer (some ⟨g,0,none⟩),.bool true])∧MO w' w.heap.size g m∧Below w.heap.size w w'
theorem bKt {F:List (List Int)} (h:F.all (fun r=>decide (r.length≤4294967296))=true):bCl F:=by
 intro c h0 h1;have h2:c.toNat<F.length:=by omega
 have h3:=nH.mp h (F[c.toNat]) (pN h2);have h4:bEp F c=F[c.toNat]:=by unfold bEp;rw [bM,bO h2];rfl
 rw [h4];exact bA h3
theorem bIk {ws:List Int} {y t o:Int} {cs:List Bool} (h:jW ws y t o cs=some true):0≤y∧y≤40∧0≤t∧t≤y∧y≤o∧o≤ws.length:=by
 unfold jW at h
 split at h
 case isFalse=>simp at h
 case isTrue=>
 have h:=bC h;simp only [dS] at h;obtain ⟨⟨⟨⟨⟨⟨h0,h1⟩,h2⟩,h3⟩,h4⟩,h5⟩,h6⟩:=h;unfold pV at h0 h2 h3;have h0:=bA h0;have h2:=bA h2;have h3:=bA h3;exact ⟨h0.1,h0.2,h2.1,h2.2,h3.1,h3.2⟩
theorem yJ {w:World} {b g:Nat} {m:Mm} (h:MO w b g m):w.cell? ⟨g,1,none⟩=some (.int .i64 m.young)∧w.cell? ⟨g,2,none⟩=some (.int .i64 m.top)∧w.cell? ⟨g,3,none⟩=some (.int .i64 m.old):=by
  obtain ⟨_,_,_,_,_,_,_,_,h0,_⟩:=h;exact ⟨(bK h0 1).trans rfl,(bK h0 2).trans rfl,(bK h0 3).trans rfl⟩
theorem MO_new {w3 w4:World} {b:Nat} {AU AV AF:Option Addr} {cU cV cF:Nat} {l0:List Int} {l4:List Bool} {F:List (List Int)} {a1 a2 a3:Int} (hb:b≤w3.heap.size) (hw:Below w3.heap.size w3 w4)
  (h1:Kd.R (Kd.int .i64) 3 w3 b (fun k=>some k≠(Value.slice AV l4.length cV).ownBlock) (.slice AU l0.length cU) l0)
  (h2:Kd.R Kd.bool 4 w3 b (fun k=>some k≠(Value.slice AU l0.length cU).ownBlock) (.slice AV l4.length cV) l4)
  (h3:Kd.S (Kd.slice 3 (Kd.int .i64)) 24 w4 w3.heap.size (fun _=>True) (.slice AF F.length cF) F):
  MO (w4.alloc (.cells #[.slice AU l0.length cU,.int .i64 a1,.int .i64 a2,.int .i64 a3,.slice AV l4.length cV,.slice AF F.length cF,.slice none 0 0] 85 (0,0))) b w4.heap.size ⟨l0,a1,a2,a3,l4,F,[]⟩:=by
 have hs:=hw.size;have u1:=rN h1;have u2:=rN h2;have nn: ∀k:Nat,some k≠(Value.slice none 0 0).ownBlock:=fun k=>by simp [Value.ownBlock]
 have al:=bI (bQ w4.heap.size w4) (.cells #[.slice AU l0.length cU,.int .i64 a1,.int .i64 a2,.int .i64 a3,.slice AV l4.length cV,.slice AF F.length cF,.slice none 0 0] 85 (0,0));refine ⟨AU,cU,AV,cV,AF,cF,none,0,pX _ _,by show b≤w4.heap.size;omega,(bR (Kd.S_R h3)).2.1,?_,?_,?_,?_⟩
 ·exact cA (fG (cA (qT h1) hw) (fun k hk=>⟨⟨by have:=hk.2.2.1;omega,hk.1⟩,nn k⟩)) al
 ·exact cA (fG (cA (qT h2) hw) (fun k hk=>⟨⟨by have:=hk.2.2.1;omega,hk.1⟩,nn k⟩)) al
 ·exact Kd.F_below (Kd.F_mono (Kd.R_F (qT (Kd.S_R h3))) (fun k hk=>⟨⟨⟨by have:=hk.2.2.1;omega,fun e=>by have:=u1 k e.symm;have:=hk.2.1;omega⟩,fun e=>by have:=u2 k e.symm;have:=hk.2.1;omega⟩,nn k⟩)) al
 ·exact Kd.R_nil _ _ _ _ _
theorem bEy (k q:Nat) (A0:Option Addr) (c0:Nat) (l0:List S78) (AW:Option Addr) (cW:Nat) (ws:List Int) (y t o:Int) (AC:Option Addr) (cC:Nat) (cs:List Bool) (r:Option Mm) (w:World)
  (hr0:Kd.C yD w A0 l0.length l0) (hc0:l0.length≤c0) (hrW:Kd.C (Kd.int .i64) w AW ws.length ws) (hcW:ws.length≤cW) (hrC:Kd.C Kd.bool w AC cs.length cs) (hcC:cs.length≤cC) (h:yY k q l0 ws y t o cs=some r):
  Calls Tryz.prog 46 #[.slice A0 l0.length c0,.agg #[.slice AW ws.length cW,.int .i64 y,.int .i64 t,.int .i64 o,.slice AC cs.length cC]] w (bHv w r):=by
 have HR0:=aK hr0;have HC0:=aK hc0;have HRW:=aK hrW;have HCW:=aK hcW;have HRC:=aK hrC;have HCC:=aK hcC;clear hr0 hc0 hrW hcW hrC hcC;unfold yY at h;obtain ⟨c,hc,h⟩:=Option.bind_eq_some_iff.mp h;have H1:=aK hc;clear hc;have HB0:=aK (bI (bQ w.heap.size w) (.cells #[.slice AW ws.length cW,.int .i64 y,.int .i64 t,.int .i64 o,.slice AC cs.length cC] 27 (0,0)));have HX0:=aK (pX w (.cells #[.slice AW ws.length cW,.int .i64 y,.int .i64 t,.int .i64 o,.slice AC cs.length cC] 27 (0,0)))
 cases c with
 |false=>
  rw [if_neg (by simp)] at h;have HR:=aK (bC h);clear h;go_enter Tryz.func46,Tryz.ntmps46
  go_wp2_with (go_at_call 90;refine (qS k A0 c0 l0 false _ (bS HR0.out HB0.out) HC0.out H1.out).mono ?_;rintro e w1 ⟨rfl,hb⟩;have HB:=aK (bG HB0.out hb);have HX:=aK ((hb.block _ (cK HX0.out)).trans HX0.out);clear hb HB0 HX0;have x0:=(bK HX.out 0).trans rfl;have x1:=(bK HX.out 1).trans rfl;have x2:=(bK HX.out 2).trans rfl;have x3:=(bK HX.out 3).trans rfl;have x4:=(bK HX.out 4).trans rfl)
  go_ret2
  rw [←HR.out];exact ⟨rfl,HB.out⟩
 |true=>
 rw [if_pos rfl] at h;obtain ⟨p,hp,h⟩:=Option.bind_eq_some_iff.mp h;have H2:=aK hp;clear hp
 cases p with
 |false=>
  rw [if_neg (by simp)] at h;have HR:=aK (bC h);clear h;go_enter Tryz.func46,Tryz.ntmps46
  go_wp2_with first|(go_at_call 90;refine (qS k A0 c0 l0 true _ (bS HR0.out HB0.out) HC0.out H1.out).mono ?_;rintro e w1 ⟨rfl,hb⟩;have HB:=aK (bG HB0.out hb);have HX:=aK ((hb.block _ (cK HX0.out)).trans HX0.out);clear hb HB0 HX0;have x0:=(bK HX.out 0).trans rfl;have x1:=(bK HX.out 1).trans rfl;have x2:=(bK HX.out 2).trans rfl;have x3:=(bK HX.out 3).trans rfl;have x4:=(bK HX.out 4).trans rfl)|(go_at_call 91;refine (vY AW cW ws y t o AC cC cs false _ (bS HRW.out HB.out) HCW.out H2.out).mono ?_;rintro e w2 ⟨rfl,hb⟩;have HBn:=aK (bG HB.out hb);have HXn:=aK ((hb.block _ (cK HX.out)).trans HX.out);clear hb HB HX x0 x1 x2 x3 x4;have HB:=HBn;have HX:=HXn;clear HBn HXn;have x0:=(bK HX.out 0).trans rfl;have x1:=(bK HX.out 1).trans rfl;have x2:=(bK HX.out 2).trans rfl;have x3:=(bK HX.out 3).trans rfl;have x4:=(bK HX.out 4).trans rfl)
  go_ret2
  rw [←HR.out];exact ⟨rfl,HB.out⟩
 |true=>
 rw [if_pos rfl] at h;obtain ⟨F,hF,h⟩:=Option.bind_eq_some_iff.mp h;have H3:=aK hF;clear hF
 split at h
 case isFalse=>simp at h
 case isTrue hl=>
 have HL1:=aK (bKt hl.1);have HL2:=aK hl.2.1;have HL3:=aK hl.2.2;clear hl;have HP:=aK (bIk H2.out);obtain ⟨r1,hr1,h⟩:=Option.bind_eq_some_iff.mp h;have H4:=aK hr1;clear hr1;have H:=aK h;clear h;go_enter Tryz.func46,Tryz.ntmps46
 go_wp2_with first|(go_at_call 90;refine (qS k A0 c0 l0 true _ (bS HR0.out HB0.out) HC0.out H1.out).mono ?_;rintro e w1 ⟨rfl,hb⟩;have HB:=aK (bG HB0.out hb);have HX:=aK ((hb.block _ (cK HX0.out)).trans HX0.out);clear hb HB0 HX0;have x0:=(bK HX.out 0).trans rfl;have x1:=(bK HX.out 1).trans rfl;have x2:=(bK HX.out 2).trans rfl;have x3:=(bK HX.out 3).trans rfl;have x4:=(bK HX.out 4).trans rfl)|(go_at_call 91;refine (vY AW cW ws y t o AC cC cs true _ (bS HRW.out HB.out) HCW.out H2.out).mono ?_;rintro e w2 ⟨rfl,hb⟩;have HBn:=aK (bG HB.out hb);have HXn:=aK ((hb.block _ (cK HX.out)).trans HX.out);clear hb HB HX x0 x1 x2 x3 x4;have HB:=HBn;have HX:=HXn;clear HBn HXn;have x0:=(bK HX.out 0).trans rfl;have x1:=(bK HX.out 1).trans rfl;have x2:=(bK HX.out 2).trans rfl;have x3:=(bK HX.out 3).trans rfl;have x4:=(bK HX.out 4).trans rfl)|fail
 go_at_call 69;refine (bAl AW cW ws y t o AC cC cs _ (bS HRW.out HB.out) HCW.out (bS HRC.out HB.out) HCC.out (by have:=HL2.out;omega) (by have:=HL3.out;omega)).mono ?_;rintro e w3 ⟨u,v,rfl,hu,hv,hb⟩;have HS2:=aK (bN HB.out);have HBn:=aK (bG HB.out hb);have HU:=aK (dR hu HS2.out);have HV:=aK (dR hv HS2.out);obtain ⟨AU,cU,rfl⟩:=cH hu;obtain ⟨AV,cV,rfl⟩:=cH hv;clear hu hv hb HB HX HS2 x0 x1 x2 x3 x4;have HB:=HBn;clear HBn
 go_wp2_with fail
 go_at_call 92;refine (zQ k A0 c0 l0 F _ (bS HR0.out HB.out) HC0.out H3.out).mono ?_;rintro e w4 ⟨vf,rfl,hf,hb⟩;obtain ⟨AF,cF,rfl⟩:=jX hf;have HM0:=aK (MO_new (a1:=y) (a2:=t) (a3:=o) (bN HB.out) hb HU.out HV.out hf);have HBn:=aK (bI (bG HB.out hb) (.cells #[.slice AU ws.length cU,.int .i64 y,.int .i64 t,.int .i64 o,.slice AV cs.length cV,.slice AF F.length cF,.slice none 0 0] 85 (0,0)));clear hf hb HB HU HV;have HB:=HBn;clear HBn;obtain ⟨g,hg⟩: ∃g,g=w4.heap.size:=⟨_,rfl⟩;have HG:=aK hg;go_wp2;rw [←hg] at HM0 ⊢;clear hg;generalize w4.alloc (.cells #[.slice AU ws.length cU,.int .i64 y,.int .i64 t,.int .i64 o,.slice AV cs.length cV,.slice AF F.length cF,.slice none 0 0] 85 (0,0))=W5 at HB HM0 ⊢;obtain ⟨k1,k2,k3⟩:=yJ HM0.out;dsimp only at k1 k2 k3;obtain ⟨r1b,r1l⟩:=r1;have hh:=H.out
 cases r1b with
 |false=>
  rw [if_neg (by simp)] at hh;have HR:=aK (bC hh);clear hh H;refine sT 23 (S:=fun w'=>Aside0 (Below w.heap.size w w')∧w'.cell? ⟨g,1,none⟩=some (.int .i64 y)∧w'.cell? ⟨g,2,none⟩=some (.int .i64 t)∧w'.cell? ⟨g,3,none⟩=some (.int .i64 o)) (ds:=[]) ⟨⟨bH HB.out⟩,(by go_simp),(by go_simp),(by go_simp)⟩ (fun hHeld=>?_);refine dL 0 ?_;refine dL 1 ?_;refine dL 2 ?_;refine dL 3 ?_;refine dL 4 ?_;refine tS 5 28 (lA 23 63) rfl rfl (by kernel_rfl) hHeld yL ?_;refine oS 6 29 (lA 23 127) rfl rfl (fun K hK=>?_);refine gO Tryz.func93 #[.pointer (some ⟨g,0,none⟩),.int .i64 0,.int .i64 t] ?_;(with_reducible refine (nQ w.heap.size g _ 0 t q (false,r1l) _ (sH HM0.out (bH (bQ _ _))) hHeld.1.out.size (by decide) (by have:=HP.out;show t≤(ws.length:Int);omega) HL2.out (xD _) HL1.out H4.out).mono ?_);rintro e w5 ⟨rfl,ho1,hb1⟩;have hMO1:=aK ho1;have hB1:=aK hb1;obtain ⟨c1_,c2_,c3_⟩:=yJ ho1;dsimp only at c1_ c2_ c3_;refine ⟨_,rfl,?_⟩;refine hK.out _ _ ⟨⟨hHeld.1.out.trans hB1.out⟩,c1_,c2_,c3_⟩ (fun hHeld=>?_);clear hK K;refine nS 29 ?_;refine dL 7 ?_;refine dL 8 ?_;refine fN 9 ?_;refine fN 10 ?_;refine fN 11 ?_;refine fN 12 ?_;refine fN 13 ?_;refine fN 14 ?_;refine fN 15 ?_;refine fN 16 ?_;refine fN 17 ?_;refine fN 18 ?_;refine fN 19 ?_;refine fN 20 ?_;refine fN 21 ?_;refine dL 22 ?_;refine kX (by kernel_rfl) ?_;go_wp2
  go_ret2
  rw [←HR.out];exact ⟨rfl,hHeld.1.out⟩
 |true=>
 rw [if_pos rfl] at hh
 split at hh
 case isFalse=>simp at hh
 case isTrue hl=>
 have HL4:=aK hl;clear hl;obtain ⟨r2,hr2,hh⟩:=Option.bind_eq_some_iff.mp hh;have H5:=aK hr2;clear hr2 H;obtain ⟨r2b,r2l⟩:=r2
 cases r2b with
 |false=>
  rw [if_neg (by simp)] at hh;have HR:=aK (bC hh);clear hh;refine sT 23 (S:=fun w'=>Aside0 (Below w.heap.size w w')∧w'.cell? ⟨g,1,none⟩=some (.int .i64 y)∧w'.cell? ⟨g,2,none⟩=some (.int .i64 t)∧w'.cell? ⟨g,3,none⟩=some (.int .i64 o)) (ds:=[]) ⟨⟨bH HB.out⟩,(by go_simp),(by go_simp),(by go_simp)⟩ (fun hHeld=>?_);refine dL 0 ?_;refine dL 1 ?_;refine dL 2 ?_;refine dL 3 ?_;refine dL 4 ?_;refine tS 5 28 (lA 23 63) rfl rfl (by kernel_rfl) hHeld yL ?_;refine oS 6 29 (lA 23 127) rfl rfl (fun K hK=>?_);refine gO Tryz.func93 #[.pointer (some ⟨g,0,none⟩),.int .i64 0,.int .i64 t] ?_;(with_reducible refine (nQ w.heap.size g _ 0 t q (true,r1l) _ (sH HM0.out (bH (bQ _ _))) hHeld.1.out.size (by decide) (by have:=HP.out;show t≤(ws.length:Int);omega) HL2.out (xD _) HL1.out H4.out).mono ?_);rintro e w5 ⟨rfl,ho1,hb1⟩;have hMO1:=aK ho1;have hB1:=aK hb1;obtain ⟨c1_,c2_,c3_⟩:=yJ ho1;dsimp only at c1_ c2_ c3_;refine ⟨_,rfl,?_⟩;refine hK.out _ _ ⟨⟨hHeld.1.out.trans hB1.out⟩,c1_,c2_,c3_⟩ (fun hHeld=>?_);clear hK K;refine nS 29 ?_;refine dL 7 ?_;refine dL 8 ?_;refine dL 9 ?_;refine dL 10 ?_;refine dL 11 ?_;refine dL 12 ?_;refine dL 13 ?_;refine dL 15 ?_;refine dL 16 ?_;refine dL 17 ?_;refine dL 18 ?_;refine tS 14 37 (lA 23 524287) rfl rfl (by kernel_rfl) hHeld yL ?_;refine tS 19 42 (lA 23 1048575) rfl rfl (by kernel_rfl) hHeld yL ?_;refine oS 20 43 (lA 23 2097151) rfl rfl (fun K hK=>?_);refine gO Tryz.func93 #[.pointer (some ⟨g,0,none⟩),.int .i64 y,.int .i64 o] ?_;(with_reducible refine (nQ w.heap.size g _ y o q (false,r2l) _ hMO1.out hHeld.1.out.size HP.out.1 (by have:=HP.out;show o≤(ws.length:Int);omega) HL2.out HL4.out HL1.out H5.out).mono ?_);rintro e w6 ⟨rfl,ho2,hb2⟩;have hMO2:=aK ho2;have hB2:=aK hb2;obtain ⟨d1_,d2_,d3_⟩:=yJ ho2;dsimp only at d1_ d2_ d3_;refine ⟨_,rfl,?_⟩;refine hK.out _ _ ⟨⟨hHeld.1.out.trans hB2.out⟩,d1_,d2_,d3_⟩ (fun hHeld=>?_);clear hK K;refine nS 43 ?_;refine dL 21 ?_;refine dL 22 ?_;refine kX (by kernel_rfl) ?_;go_wp2
  go_ret2
  rw [←HR.out];exact ⟨rfl,hHeld.1.out⟩
 |true=>
 rw [if_pos rfl] at hh
 split at hh
 case isFalse=>simp at hh
 case isTrue hl=>
 have HL5:=aK hl;clear hl;obtain ⟨ok,hok,hh⟩:=Option.bind_eq_some_iff.mp hh;have H6:=aK hok;have H7:=aK hh;clear hok hh;refine sT 23 (S:=fun w'=>Aside0 (Below w.heap.size w w')∧w'.cell? ⟨g,1,none⟩=some (.int .i64 y)∧w'.cell? ⟨g,2,none⟩=some (.int .i64 t)∧w'.cell? ⟨g,3,none⟩=some (.int .i64 o)) (ds:=[]) ⟨⟨bH HB.out⟩,(by go_simp),(by go_simp),(by go_simp)⟩ (fun hHeld=>?_);refine dL 0 ?_;refine dL 1 ?_;refine dL 2 ?_;refine dL 3 ?_;refine dL 4 ?_;refine tS 5 28 (lA 23 63) rfl rfl (by kernel_rfl) hHeld yL ?_;refine oS 6 29 (lA 23 127) rfl rfl (fun K hK=>?_);refine gO Tryz.func93 #[.pointer (some ⟨g,0,none⟩),.int .i64 0,.int .i64 t] ?_;(with_reducible refine (nQ w.heap.size g _ 0 t q (true,r1l) _ (sH HM0.out (bH (bQ _ _))) hHeld.1.out.size (by decide) (by have:=HP.out;show t≤(ws.length:Int);omega) HL2.out (xD _) HL1.out H4.out).mono ?_);rintro e w5 ⟨rfl,ho1,hb1⟩;have hMO1:=aK ho1;have hB1:=aK hb1;obtain ⟨c1_,c2_,c3_⟩:=yJ ho1;dsimp only at c1_ c2_ c3_;refine ⟨_,rfl,?_⟩;refine hK.out _ _ ⟨⟨hHeld.1.out.trans hB1.out⟩,c1_,c2_,c3_⟩ (fun hHeld=>?_);clear hK K;refine nS 29 ?_;refine dL 7 ?_;refine dL 8 ?_;refine dL 9 ?_;refine dL 10 ?_;refine dL 11 ?_;refine dL 12 ?_;refine dL 13 ?_;refine dL 15 ?_;refine dL 16 ?_;refine dL 17 ?_;refine dL 18 ?_;refine tS 14 37 (lA 23 524287) rfl rfl (by kernel_rfl) hHeld yL ?_;refine tS 19 42 (lA 23 1048575) rfl rfl (by kernel_rfl) hHeld yL ?_;refine oS 20 43 (lA 23 2097151) rfl rfl (fun K hK=>?_);refine gO Tryz.func93 #[.pointer (some ⟨g,0,none⟩),.int .i64 y,.int .i64 o] ?_;(with_reducible refine (nQ w.heap.size g _ y o q (true,r2l) _ hMO1.out hHeld.1.out.size HP.out.1 (by have:=HP.out;show o≤(ws.length:Int);omega) HL2.out HL4.out HL1.out H5.out).mono ?_);rintro e w6 ⟨rfl,ho2,hb2⟩;have hMO2:=aK ho2;have hB2:=aK hb2;obtain ⟨d1_,d2_,d3_⟩:=yJ ho2;dsimp only at d1_ d2_ d3_;refine ⟨_,rfl,?_⟩;refine hK.out _ _ ⟨⟨hHeld.1.out.trans hB2.out⟩,d1_,d2_,d3_⟩ (fun hHeld=>?_);clear hK K;refine nS 43 ?_;refine dL 21 ?_;refine dL 22 ?_;refine kX (by kernel_rfl) ?_;have HB:=hHeld.1;clear hHeld;obtain ⟨AW6,cW6,AC6,cC6,AF6,cF6,AB,cB,g0,hg1,_,_,_,_,rB⟩:=hMO2.out;have k6:=(bK g0 6).trans rfl;have HCB:=aK (bR rB).2.2;clear g0 rB hg1;go_wp2
 go_loopw [51] (fun i wr=> ∃j:Nat,i= .int .i64 j∧j≤r2l.length∧Aside0 (pG q ⟨ws,y,t,o,cs,F,r2l⟩ (r2l.drop j)=some ok)∧Aside0 (Below w6.heap.size w6 wr)) (fun i _=>r2l.length - (intOf i).toNat)
 case atStart=>exact ⟨0,rfl,xD _,⟨by rw [nM];exact H6.out⟩,⟨bQ _ _⟩⟩
 case round=>
  clear H6;obtain ⟨j,rfl,hj,HT,HB6⟩:=hrel;by_cases hlt:j<r2l.length
  ·have hd := fO hlt
   have hg:r2l[j]=rd r2l j:=by unfold rd;rw [dK,bM,bO hlt];rfl
   obtain ⟨ad,e0,hcell⟩:=dA (bS HCB.out HB6.out) j (by omega) (by omega)
   cases e0
   rw [dK] at hcell;have ht:=HT.out;rw [hd,hg] at ht;unfold pG at ht;obtain ⟨o1,ho1,ht⟩:=Option.bind_eq_some_iff.mp ht;have HO1:=aK ho1;clear hd hg HT ho1;generalize rd r2l j=x at*
   cases o1 with
   |false=>
    rw [if_neg (by simp)] at ht;have h7:=H7.out;rw [←bC ht,if_neg (by simp)] at h7;have HR:=aK (bC h7);clear ht h7
    go_wp2_with fail
    go_at_call 94;refine (rJ g x _).mono ?_;rintro e w7 ⟨rfl,hb⟩;have HB7:=aK (bG HB6.out hb);clear hb
    go_wp2_with fail
    go_at_call 95;refine (tT q g _ x false _ (cP (bEo hMO2.out) HB7.out) HO1.out).mono ?_;rintro e w8 ⟨rfl,hb⟩;have HB8:=aK (bG HB7.out hb);clear hb HB7;go_wp2
    go_ret2
    rw [←HR.out];exact ⟨rfl,pY HB.out (dW (bV _) HB.out.size) HB8.out⟩
   |true=>
    rw [if_pos rfl] at ht;have HT2:=aK ht;clear ht
    go_wp2_with fail
    go_at_call 94;refine (rJ g x _).mono ?_;rintro e w7 ⟨rfl,hb⟩;have HB7:=aK (bG HB6.out hb);clear hb
    go_wp2_with fail
    go_at_call 95;refine (tT q g _ x true _ (cP (bEo hMO2.out) HB7.out) HO1.out).mono ?_;rintro e w8 ⟨rfl,hb⟩;have HB8:=aK (bG HB7.out hb);clear hb HB7;go_wp2
    go_roundw
    case rel=>exact ⟨j+1,by rw [show wrap64 ((j:Int)+1)=((j+1:Nat):Int) by have:=HL5.out;unfold wrap64;omega],by omega,HT2,HB8⟩
    case measure=>rw [show wrap64 ((j:Int)+1)=((j+1:Nat):Int) by have:=HL5.out;unfold wrap64;omega];simp only [intOf,dK];omega
  ·have d0 : decide ((j : Int) < r2l.length) = false := bJ (by omega)
   have ht:=HT.out;rw [kW (by omega)] at ht;have h7:=H7.out;rw [←bC ht,if_pos rfl] at h7;have HR:=aK (bC h7);clear ht h7;go_wp2
   go_ret2
   rw [←HR.out];exact ⟨g,rfl,sH hMO2.out HB6.out,pY HB.out HB.out.size HB6.out⟩
def bDw (k:Nat) (m:Mm) (x:Int):Option Bool:=if x=0 then some true else nR k m x
def rC (k:Nat) (m:Mm):List Int→Option Bool
  |[]=>some true
  |x::r=>(bDw k m x).bind fun b=>if b=true then rC k m r else some false
theorem vB (k gp g:Nat) (m:Mm) (x:Int) (b:Bool) (w:World) (hp:w.heap[gp]? =some (.cells #[.pointer (some ⟨g,0,none⟩)] 66 (0,0))) (hm:MV w g m) (h:bDw k m x=some b):
  Calls Tryz.prog 120 #[.int .i64 x,.pointer (some ⟨gp,0,none⟩)] w fun e w'=>e= .returned (.bool b)∧Below w.heap.size w w':=by
 have q0:=(bK hp 0).trans rfl;have HM:=aK hm;clear hp hm;unfold bDw at h;by_cases c:x=0
 ·rw [if_pos c] at h
  have HR:=aK (bC h);have d0:(x==0)=true:=beq_iff_eq.mpr c
  clear c h;go_enter Tryz.func120,Tryz.ntmps120;go_wp2;go_ret;exact ⟨by rw [←HR.out];rfl,by repeat (first|exact bQ _ _|apply bH|apply bF)⟩
 ·rw [if_neg c] at h
  have H:=aK h;have d0:(x==0)=false:=tP.mpr c
  clear c h;go_enter Tryz.func120,Tryz.ntmps120
  go_wp2_with (go_at_call 121;refine cL (fun hng=>?_))
  refine hng ?_;clear hng;refine (nC k g m x b _ HM.out H.out).mono ?_;rintro e w1 ⟨rfl,hd⟩;have HB:=aK hd.below;clear hd;go_wp2;go_ret;exact ⟨rfl,HB.out⟩
theorem zC (q gp g:Nat) (m:Mm) (A:Option Addr) (c:Nat) (l:List Int) (b:Bool) (W:World) (hp:W.heap[gp]? =some (.cells #[.pointer (some ⟨g,0,none⟩)] 66 (0,0))) (hm:MV W g m) (hr:Kd.C (Kd.int .i64) W A l.length l) (hl:l.length≤281474976710656) (h:rC q m l=some b):
  Calls Tryz.prog 119 #[.slice A l.length c,.func (.func 120) #[] #[.pointer (some ⟨gp,0,none⟩)]] W fun e W'=>e= .returned (.bool b)∧Below W.heap.size W W':=by
 have HR:=aK hr;have HL:=aK hl;have HP:=aK hp;have HM:=aK hm;have H:=aK (show rC q m (l.drop 0)=some b by rw [nM];exact h);clear hr hl hp hm h;go_enter Tryz.func119,Tryz.ntmps119;go_wp2
 go_loopw [9] (fun i wr=> ∃k:Nat,k≤l.length∧i= .int .i64 k∧Aside0 (rC q m (l.drop k)=some b)∧Aside0 (Below W.heap.size W wr)) (fun i _=>l.length - (intOf i).toNat)
 case atStart=>exact ⟨0,xD _,rfl,H,⟨bQ _ _⟩⟩
 case round=>
  clear H;obtain ⟨k,hk,rfl,HN,HB⟩:=hrel;by_cases hlt:k<l.length
  ·have hd := fO hlt
   have hg:l[k]=rd l k:=by unfold rd;rw [dK,bM,bO hlt];rfl
   obtain ⟨ad,e0,hcell⟩:=dA (bS HR.out HB.out) k (by omega) (by omega)
   cases e0
   rw [dK] at hcell;have HN2:=HN.out;rw [hd,hg] at HN2;unfold rC at HN2;obtain ⟨y,hy,HN2⟩:=Option.bind_eq_some_iff.mp HN2;have HX:=aK HN2;have HY:=aK hy;clear hd hg HN HN2 hy;generalize rd l k=x at*;have HP2:=aK (cJ HP.out HB.out);have HM2:=aK (cP HM.out HB.out)
   cases y with
   |true=>
    have HZ:=aK (show rC q m (l.drop (k+1))=some b by have:=HX.out;rw [if_pos rfl] at this;exact this);clear HX
    go_wp2_with fail
    refine (vB q gp g m x true _ HP2.out HM2.out HY.out).mono ?_;rintro e w2 ⟨rfl,hb2⟩;have HB2:=aK (bG HB.out hb2);clear hb2;go_wp2
    go_roundw
    case rel=>exact ⟨k+1,by omega,by rw [show wrap64 ((k:Int)+1)=((k+1:Nat):Int) by have:=HL.out;unfold wrap64;omega],HZ,HB2⟩
    case measure=>rw [show wrap64 ((k:Int)+1)=((k+1:Nat):Int) by have:=HL.out;unfold wrap64;omega];simp only [intOf,dK];omega
   |false=>
    have HZ:=aK (show false=b by have:=HX.out;rw [if_neg (by simp)] at this;exact bC this);clear HX
    go_wp2_with fail
    refine (vB q gp g m x false _ HP2.out HM2.out HY.out).mono ?_;rintro e w2 ⟨rfl,hb2⟩;have HB2:=aK (bG HB.out hb2);clear hb2;go_wp2;go_ret;exact ⟨by rw [←HZ.out];rfl,HB2.out⟩
  ·have d0 : decide ((k : Int) < l.length) = false := bJ (by omega)
   have HZ:=aK (show true=b by have:=HN.out;rw [kW (by omega)] at this;exact bC this);go_wp2;go_ret;exact ⟨by rw [←HZ.out];rfl,HB.out⟩
theorem zO (q g:Nat) (m:Mm) (A:Option Addr) (c:Nat) (l:List Int) (b:Bool) (w:World) (hm:MV w g m) (hr:Kd.C (Kd.int .i64) w A l.length l) (hl:l.length≤281474976710656) (h:rC q m l=some b):
  Calls Tryz.prog 67 #[.pointer (some ⟨g,0,none⟩),.slice A l.length c] w fun e w'=>e= .returned (.bool b)∧Below w.heap.size w w':=by
 have HR:=aK hr;have HL:=aK hl;have HM:=aK hm;have H:=aK h;have HB:=aK (bQ w.heap.size w);clear hr hl hm h;go_enter Tryz.func67,Tryz.ntmps67
 go_wp2_with ((with_reducible refine dG (N:=2) rfl ?_);refine cL (fun hng=>?_))
 refine hng ?_;clear hng;refine dN ?hg (N:=2) ?hd (cs:= #[.pointer (some ⟨g,0,none⟩)]) (t:=66) ?hr ?_
 (case hd=>rfl)
 (case hg=>rfl)
 (case hr=>first|(go_simp;done)|(go_simp;rfl))
 intro gp hg w1 hbox hb;have BP:=aK hbox;replace HB:=aK (bG HB.out hb);clear hb hbox hg
 go_wp2_with fail
 go_at_call 119;refine (zC q gp g m A c l b _ BP.out (cP HM.out HB.out) (bS HR.out HB.out) HL.out H.out).mono ?_;rintro e w2 ⟨rfl,hb⟩;replace HB:=aK (bG HB.out hb);clear hb;go_wp2;go_ret;exact ⟨rfl,HB.out⟩
end Go.Proofs.YtbaklikaoleplaaGreat.K
