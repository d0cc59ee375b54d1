import Derived.Test.YtnlieahdakafbaaPb24
import Derived.Test.YtnlieahdakafbaaPb25
import Derived.Test.YtnlieahdakafbaaPb26
import Derived.Test.YtnlieahdakafbaaPb27
import Derived.Test.YtnlieahdakafbaaPb32
import Derived.Test.YtnlieahdakafbaaPb37
import Derived.Test.YtnlieahdakafbaaPb38
import Derived.Test.YtnlieahdakafbaaPb33
import Derived.Test.YtnlieahdakafbaaPb31
import Derived.Test.YtnlieahdakafbaaPb30
import Derived.Test.YtnlieahdakafbaaPb36
import Derived.Test.YtnlieahdakafbaaPb39
import Derived.Test.YtnlieahdakafbaaPb34
namespace Go.Proofs.Ytnlieahdakafbaa.K
open Go.RowKit Go.Proofs.YtnlieahdakafbaaW.PrintWords Go.Proofs.YtnlieahdakafbaaW.PrintLast Go.Proofs.YtnlieahdakafbaaW.PrintMore
attribute [local go_sem] max2_int min2_int max_two min_two max_three min_three max_four min_four
set_option linter.unusedVariables false
set_option linter.unusedSimpArgs false
def laws_leHas.l0:Nat→List Int→Int→Int→Option (Bool)
  |0,_,_,_=>none
  |k+1,x0,x1,x5=>if x5<(x0.length:Int) then (if 0≤x5 then (if (rd x0 x5)=x1 then (some true) else (laws_leHas.l0 k x0 x1 (wrap64 (x5+1)))) else (none)) else (some false)
def laws_leHas.f (k:Nat) (l0:List Int) (a1:Int):Option (Bool):=laws_leHas.l0 k l0 a1 0
set_option maxHeartbeats 8000000 in
set_option maxRecDepth 100000 in
theorem laws_leHas.calls (k:Nat) (A0:Option Addr) (c0:Nat) (l0:List Int) (a1:Int) (r:Bool) (w:World) (hr0:Kd.C (Kd.int .i64) w A0 l0.length l0) (hc0:l0.length≤c0) (h:laws_leHas.f k l0 a1=some r):
  Calls Try.prog 16 #[.slice A0 l0.length c0,.int .i64 a1] w fun e w'=>e= .returned (.bool r)∧Drawn0 w w':=by
 have HR0:=aK hr0;have HC0:=aK hc0;clear hr0 hc0;have H:(laws_leHas.l0 k l0 a1 0)=some r:=h
 clear h;have H':=aK H;clear H;go_enter Try.func16,Try.ntmps16;go_wp2
 go_loopg [5] k (fun kq v5 w'=> ∃(x5_1:Int),v5= .int .i64 x5_1∧Aside0 (laws_leHas.l0 kq l0 a1 x5_1=some r)∧Aside0 (kq≤k)∧Drawn0 w w')
 case atStart=>exact ⟨(0),z7,H',⟨Nat.le_refl _⟩,by repeat (first|exact Drawn0.refl _|apply Drawn0.step)⟩
 case round =>
  clear H';(try clear c1);(try clear p2);obtain ⟨x5_1,rfl,HA,HK1,⟨m1,rfl⟩⟩:=hrel
  cases gk with
  |zero=>exact absurd HA.out (by simp [laws_leHas.l0])
  | succ k1 =>
   have H:=HA.out;clear HA;simp only [laws_leHas.l0] at H;by_cases c3:x5_1<(l0.length:Int)
   ·rw [if_pos c3] at H
    have c3b0:decide (x5_1<(l0.length:Int))=true:=decide_eq_true c3
    clear c3;by_cases c4:0≤x5_1
    ·rw [if_pos c4] at H
     have c4b0:decide (0≤x5_1)=true:=decide_eq_true c4
     clear c4;by_cases c5:(rd l0 x5_1)=a1
     ·rw [if_pos c5] at H
      have c5b0:((rd l0 x5_1)==a1)=true:=beq_iff_eq.mpr c5
      have c5b1:((rd l0 x5_1) !=a1)=false:=bne_eq_false_iff_eq.mpr c5
      clear c5;obtain rfl:=Option.some.inj H;have p385:0≤(x5_1:Int):=of_decide_eq_true z3
      have q385:x5_1<(l0.length:Int):=of_decide_eq_true z3
      obtain ⟨ad385,e385,hx385_0⟩:=Kd.at_int HR0.out x5_1 p385 q385
      cases e385
      replace p385:=eq_true p385;replace q385:=eq_true q385;go_wp2;go_ret;exact ⟨z7,z13⟩
     ·rw [if_neg c5] at H
      have c5b0:((rd l0 x5_1)==a1)=false:=beq_eq_false_iff_ne.mpr c5
      have c5b1:((rd l0 x5_1) !=a1)=true:=bne_iff_ne.mpr c5
      have H':=aK H;clear H;have p385:0≤(x5_1:Int):=of_decide_eq_true z3
      have q385:x5_1<(l0.length:Int):=of_decide_eq_true z3
      obtain ⟨ad385,e385,hx385_0⟩:=Kd.at_int HR0.out x5_1 p385 q385
      cases e385
      replace p385:=eq_true p385;replace q385:=eq_true q385;go_wp2
      go_roundg k1
      case measure=>have:=HK1.out;omega
      case rel=>exact ⟨(wrap64 (x5_1+1)),z7,H',⟨by have:=HK1.out;omega⟩,by repeat (first|exact Drawn0.refl _|apply Drawn0.step)⟩
    ·rw [if_neg c4] at H
     exact absurd H (by simp)
   ·rw [if_neg c3] at H
    have c3b0:decide (x5_1<(l0.length:Int))=false:=decide_eq_false c3
    clear c3;obtain rfl:=Option.some.inj H;go_wp2;go_ret;exact ⟨z7,z13⟩
def spec_l21Is.f (k:Nat) (l0:List (S112)) (l1_0:List Int) (a1_1:Int) (a1_2:Int) (a1_3:Int) (l1_4:List Bool) (a2:Int):Option (Bool):=(spec_l21Walk.f k l0 l1_0 a1_1 a1_2 a1_3 l1_4).bind fun bt348=>((spec_l6In.f a2 1 (l1_0.length:Int)).bind fun t352=>(if t352=true then ((spec_l21Starts.f k (l1_0.length:Int) bt348.1).bind fun t353=>(if 0≤(wrap64 (a2 - 1)) then (if (wrap64 (a2 - 1))<(t353.length:Int) then (some (rdOf false t353 (wrap64 (a2 - 1)))) else (none)) else (none))) else (some false)))
def spec_l21Inside.f (k:Nat) (l0:List (S112)) (l1_0:List Int) (a1_1:Int) (a1_2:Int) (a1_3:Int) (l1_4:List Bool) (a2:Int) (a3:Int):Option (Int×Bool):=(spec_l21Is.f k l0 l1_0 a1_1 a1_2 a1_3 l1_4 a2).bind fun t358=>(if t358=true then (if 0≤(wrap64 (a2 - 1)) then (if (wrap64 (a2 - 1))<(l1_0.length:Int) then ((spec_l21Head.f (rd l1_0 (wrap64 (a2 - 1)))).bind fun t360=>((spec_l21Size.f k l0 l1_0 (wrap64 (a2 - 1)) (l1_0.length:Int)).bind fun t361=>((spec_l6In.f a3 0 (wrap64 ((wrap64 (t361 - t360)) - 1))).bind fun t362=>(some (wrap64 ((wrap64 ((wrap64 (a2 - 1))+t360))+a3),t362))))) else (none)) else (none)) else (some (0,false)))
def sput_end (k:Nat) (ok:Bool) (m_0:List Int) (y t o:Int) (m_4:List Bool) (x v:Int) (ref:Bool):Option (List Int×Int×Int×Int×List Bool×Bool):=
  if ok=true then (spec_l21Copy.f m_0 y t o m_4).bind fun c=>(spec_l21Put.f c.1 c.2.1 c.2.2.1 c.2.2.2.1 c.2.2.2.2 x v ref).bind fun p=>some (p.1,p.2.1,p.2.2.1,p.2.2.2.1,p.2.2.2.2,true) else some ([],0,0,0,[],false)
def spec_MemPut.f (k:Nat) (l0:List (S112)) (l1_0:List Int) (a1_1:Int) (a1_2:Int) (a1_3:Int) (l1_4:List Bool) (a2 a3 a4:Int):Option (List Int×Int×Int×Int×List Bool×Bool):=
 (spec_MemOk.f k l0 l1_0 a1_1 a1_2 a1_3 l1_4).bind fun b => if b = true then (spec_l21Inside.f k l0 l1_0 a1_1 a1_2 a1_3 l1_4 a2 a3).bind fun i => if i.2 = true then (spec_l21Refs.f k l0 l1_0 (wrap64 (a2 - 1))).bind fun R =>
  if 0≤wrap64 (wrap64 (i.1 - a2)+1)∧wrap64 (wrap64 (i.1 - a2)+1)<(R.length:Int) then (spec_l21Walk.f k l0 l1_0 a1_1 a1_2 a1_3 l1_4).bind fun W=>
   if rdOf false R (wrap64 (wrap64 (i.1 - a2)+1))=true then (spec_l21Starts.f k (l1_0.length:Int) W.1).bind fun T=>(spec_l21Lead.f T a4).bind fun ld=>sput_end k ld l1_0 a1_1 a1_2 a1_3 l1_4 i.1 a4 true
   else (spec_l1Word.f a4).bind fun z=>sput_end k z l1_0 a1_1 a1_2 a1_3 l1_4 i.1 a4 false
  else none
 else some ([],0,0,0,[],false) else some ([],0,0,0,[],false)
end Go.Proofs.Ytnlieahdakafbaa.K
namespace Go.Proofs.Ytnlieahdakafbaa.Pure
open Go.RowKit Go.Proofs.Ytnlieahdakafbaa.K Go.Proofs.YtnlieahdakafbaaW.PrintWords Go.Proofs.YtnlieahdakafbaaW.PrintLast Go.Proofs.YtnlieahdakafbaaW.PrintMore
set_option linter.unusedVariables false
set_option linter.unusedSimpArgs false
theorem leHas_l0 (xs:List Int) (hl:xs.length≤1048576) (v:Int) (d:Nat): ∀(k i:Nat),i+d=xs.length→d<k→laws_leHas.l0 k xs v i=some (decide (v∈xs.drop i)):=by
 induction d with
 |zero=>
  intro k i hi hk;obtain ⟨k,rfl⟩: ∃m,k=m+1:=⟨k - 1,by omega⟩;rw [laws_leHas.l0,if_neg (by omega),List.drop_eq_nil_of_le (by omega)];simp
 | succ d ih =>
  intro k i hi hk;obtain ⟨k,rfl⟩: ∃m,k=m+1:=⟨k - 1,by omega⟩;have hlt:i<xs.length:=by omega
  rw [laws_leHas.l0,if_pos (by omega),if_pos (by omega),rd_mem hlt,List.drop_eq_getElem_cons hlt];by_cases c:xs[i]=v
  ·rw [if_pos c];simp [c]
  ·rw [if_neg c, wrap_inc (n := 1048577) (by omega) (by omega) (by omega)]
   have:=ih k (i+1) (by omega) (by omega)
   rw [show ((i+1:Nat):Int)=(i:Int)+1 by omega] at this;rw [this];exact congrArg some (decide_eq_decide.mpr ⟨fun h=>List.mem_cons_of_mem _ h,fun h=>(List.mem_cons.mp h).resolve_left (fun e=>c e.symm)⟩)
theorem leHas_at (xs:List Int) (hl:xs.length≤1048576) (v:Int) (k:Nat) (hk:1048578≤k):laws_leHas.f k xs v=some (decide (v∈xs)):=by
 unfold laws_leHas.f;have:=leHas_l0 xs hl v xs.length k 0 (by omega) (by omega)
 rw [List.drop_zero] at this;exact this
theorem makeempty_eq {cs:Cs} (hf:fewF cs) {ws:List Int} {y t o:Int} {cards:List Bool} (hn:ws.length≤1000) (hc:cards.length≤1000) (a b:Int) (v:Bool):
  ∃ (p1 : List Int) (p2 p3 p4 : Int) (p5 : List Bool) (p6 : Int), impl_MemMake.f 5000000 cs ws y t o cards a b v = some (p1, p2, p3, p4, p5, p6) ∧ spec_MemMake.f 5000000 cs ws y t o cards a b v = some (p1, p2, p3, p4, p5, p6) ∧ laws_leMem.f 5000000 p1 p2 p3 p4 p5 p1 p2 p3 p4 p5 = some true ∧
   (p6 ≠ 0 → 1 ≤ p6 ∧ p6 ≤ 1000 ∧ p6 ≤ p1.length ∧ decide (y < p6) = v ∧ rd p1 (p6 - 1) = a ∧ ∃ (s s' : List Int) (n : Int), s.length ≤ 200 ∧ (s'.length : Int) = s.length + 1 ∧ 0 ≤ n ∧ n ≤ 1000 ∧ impl_MemWalk.f 5000000 cs ws y t o cards = some s ∧ impl_MemWalk.f 5000000 cs p1 p2 p3 p4 p5 = some s' ∧ laws_leHas.f 5000000 s p6 = some false ∧ laws_leWant.f 5000000 cs a b = some n ∧
    (∀i:Int,0≤i→i<s.length→∃z:Int,0≤z∧z≤1000∧1≤rd s i∧rd s i≤1000∧impl_MemSize.f 5000000 cs ws y t o cards (rd s i)=some z∧∀k,0≤k→k<z→rd s i - 1+k<ws.length∧rd s i - 1+k<p1.length∧rd p1 (rd s i - 1+k)=rd ws (rd s i - 1+k))∧
    (∀k:Int,∃(g:Int) (gb:Bool),impl_MemGet.f 5000000 cs p1 p2 p3 p4 p5 p6 k=some (g,gb)∧(gb=true→g=0))):=by
 obtain ⟨⟨p1,p2,p3,p4,p5,p6⟩,l1,l5,e1,e2⟩:=MemMake_eq (cs:=cs) hf (ws:=ws) (y:=y) (t:=t) (o:=o) (cards:=cards) (by omega) (by omega) a b v;obtain ⟨r,h1,h2,h3⟩:=opn_of (cs:=cs) hf (ws:=ws) (y:=y) (t:=t) (o:=o) (cards:=cards) (by omega) (by omega);dsimp only at l1 l5;refine ⟨p1,p2,p3,p4,p5,p6,e1 5000000 (by decide),e2 5000000 (by decide),leMem_at p1 p2 p3 p4 p5 l1 l5 5000000 (by decide),fun h6=>?_⟩
 cases r with
 |none=>
  have:=e1 5000000 (by decide)
  unfold impl_MemMake.f at this;rw [h1 5000000 (by decide)] at this;simp only [Option.bind_some,makeOf,Option.some.injEq,Prod.mk.injEq] at this;exact absurd this.2.2.2.2.2.symm h6
 | some m =>
  obtain ⟨W,h,hm,hk⟩:=h3 m rfl;have n0:=h.b.n0;have n1:=h.b.n1;have y0:=h.b.y0;have y1:=h.b.y1;have t0:=h.b.t0;have t1:=h.b.t1;have o0:=h.b.o0;have o1:=h.b.o1;by_cases z0:measN (allF cs) a b=0
  ·have hM := make_zero h a b v z0 5000000 (by decide)
   rw [e1 5000000 (by decide)] at hM;simp only [Option.some.injEq,Prod.mk.injEq] at hM;exact absurd hM.2.2.2.2.2 h6
  have hM:=make_imp h a b v z0 5000000 (by decide);rw [e1 5000000 (by decide),tryM_eq] at hM;obtain ⟨s,hs⟩: ∃s,s=measN (allF cs) a b:=⟨_,rfl⟩;rw [←hs] at hM z0;by_cases hr2:if v=true then o+s≤(ws.length:Int) else t+s≤y
  case neg=>
   rw [if_neg hr2] at hM;simp only [Option.some.injEq,Prod.mk.injEq] at hM;exact absurd hM.2.2.2.2.2 h6
  rw [if_pos hr2] at hM;obtain ⟨W',K,k1,k2,k3,k4,k5,k6,k7,k8,k9⟩:=make_keep h hs z0 hr2;simp only [Option.some.injEq,Prod.mk.injEq] at hM;obtain ⟨r1,r2,r3,r4,r5,r6⟩:=hM;rw [←r1,←r3,←r4] at K;rw [←r1] at k7 k8 k9;have hlen:p1.length=ws.length:=by rw [r1];exact mkW_len ws _ a b
  have hcx:rd p1 (mkX t o v)=a:=by rw [r1];exact mkW_at k5 (by omega)
  subst r2 r5;have hwl:=h.wlk.len
  have ha:a<cs.length∧(a<0→ -2≤a∧0≤b∧b≤6):=by
   have q:=z0;rw [hs] at q;unfold measN at q;rw [allF_len] at q;by_cases c1:a= -1∨a= -2
   ·rw [if_pos c1] at q
    by_cases c2:0≤b∧b≤6
    ·exact ⟨by omega,fun _=>⟨by omega,c2⟩⟩
    ·rw [if_neg c2] at q;exact absurd rfl q
   ·rw [if_neg c1] at q
    by_cases c2:0≤a∧a<(cs.length:Int)
    ·exact ⟨c2.2,fun e=>by omega⟩
    ·rw [if_neg c2] at q;exact absurd rfl q
  obtain ⟨q1,q2,q3⟩:=leWant_at hf h.b.ok ha.1 ha.2;rw [←hs] at q1 q2 q3
  have hxv:decide (p2<p6)=v:=by
   rw [r6]
   cases v with
   |true=>exact decide_eq_true (show p2<o+1 by omega)
   |false=>exact decide_eq_false (show¬p2<t+1 by rw [if_neg (by simp)] at hr2;omega)
  refine ⟨by omega,by omega,by omega,hxv,by rw [r6,show mkX t o v+1 - 1=mkX t o v by omega];exact hcx,W.map (· +1),W'.map (· +1),s,by rw [List.length_map];exact hwl,by rw [List.length_map,List.length_map];omega,by omega,by omega,walk_imp h 5000000 (by decide),walk_imp K 5000000 (by decide),?_,q1,fun i i0 i1=>?_,fun k=>?_⟩
  ·rw [leHas_at _ (by rw [List.length_map]; omega) p6 5000000 (by decide), decide_eq_false (fun q => k3 ?_)]
   rw [mem_map1,r6,show mkX t o v+1 - 1=mkX t o v by omega] at q;exact q
  ·rw [List.length_map] at i1
   obtain ⟨i,rfl⟩: ∃q:Nat,i=q:=⟨i.toNat,by omega⟩;have hj:i<W.length:=by omega
   have hr:rd (W.map (· +1)) (i:Int)=W[i]+1:=by rw [rd_mem (by rw [List.length_map];exact hj),List.getElem_map]
   rw [hr];have hz:=List.getElem_mem hj;generalize W[i]=z at hz;obtain ⟨u0,u1,d0,d8,ze,hzh,hz2⟩:=h.know hz;refine ⟨szN cs ws z,by omega,by omega,by omega,by omega,size_imp h hz 5000000 (by decide),fun k k0 k1'=>?_⟩;have hfar:=(k7 z hz).2.2;rw [show z+1 - 1+k=z+k by omega];refine ⟨by omega,by omega,?_⟩;rw [r1,mkW_ne k5 (by omega) (by omega) (fun hneg=>?_)];have h2:2≤s:=by have:=measN_size h.b.ok a b;rw [←hs] at this;exact this.2.2 hneg z0
   omega
  ·have hpx : p6 - 1 = mkX t o v := by omega
   by_cases c:InT cs p1 W' p6 k
   ·have g1 := get_in K c 5000000 (by decide)
    have c2:=c.2;rw [hpx,k8,hcx] at c2;rw [hpx,hcx,k9 _ (by omega) (by omega)] at g1;exact ⟨0,true,g1,fun _=>rfl⟩
   ·exact ⟨0,false,get_out K c 5000000 (by decide),fun e=>by cases e⟩
end Go.Proofs.Ytnlieahdakafbaa.Pure
namespace Go.Proofs.Ytnlieahdakafbaa.K
open Go.RowKit Go.Proofs.YtnlieahdakafbaaW.PrintWords Go.Proofs.YtnlieahdakafbaaW.PrintLast Go.Proofs.YtnlieahdakafbaaW.PrintMore
attribute [local go_sem] max2_int min2_int max_two min_two max_three min_three max_four min_four
set_option linter.unusedVariables false
set_option linter.unusedSimpArgs false
open Go.Proofs.Ytnlieahdakafbaa.Pure
def laws_FnMakeEmpty.f (l0:List Int):Option Bool:=if (∀x∈l0,(Lit.int .u8 x).wf=true) then some true else none
set_option maxHeartbeats 32000000 in
set_option maxRecDepth 100000 in
theorem laws_FnMakeEmpty.calls (AC:Option Addr) (cC:Nat) (lC:List Int) (r:Bool) (w:World) (hr_:Aside0 (r=true)) (hr0:Kd.C (Kd.int .u8) w AC lC.length lC) (hc0:lC.length≤cC) (h:laws_FnMakeEmpty.f lC=some r):
  Calls Try.prog 9 #[.slice AC lC.length cC] w fun e w'=>e= .returned (.bool r)∧Below w.heap.size w w':=by
 obtain rfl:=hr_.out;unfold laws_FnMakeEmpty.f at h
 split at h
 case isFalse=>simp at h
 case isTrue hl=>
 clear h hr_;have HR0:=aK hr0;have HC0:=aK hc0;have HL:=aK hl;clear hr0 hc0 hl;by_cases c1:1048576<(lC.length:Int)
 ·have d1 : decide (1048576 < (lC.length : Int)) = true := decide_eq_true c1
  go_enter Try.func9,Try.ntmps9;go_wp2;go_ret;exact ⟨rfl,by first|exact Below.refl _ _|exact below_drew1 (Below.refl _ _)⟩
 have d1:decide (1048576<(lC.length:Int))=false:=decide_eq_false c1
 clear c1;go_enter Try.func9,Try.ntmps9
 go_wp2_with (go_at_call 26;refine Classical.byContradiction (fun hng=>?_))
 refine hng ?_;clear hng;refine (memmake_any AC cC lC _ HR0.out HC0.out HL.out).mono ?_;rintro e w1 ⟨A5,c5,A0,c0,A4,c4,cs,ws,y,t,o,cards,a,b,_,⟨v,rfl⟩,rfl,hd,hb⟩;have HD1:=aK (hd.bound.mono (ok':=fun k=>k<w1.heap.size) (fun k hk=>hk.2));have HB1:=aK hb;clear hd hb HR0 HC0 HL d1
 go_wp2_with ((with_reducible refine gate_dst (N:=4) rfl ?_);refine Classical.byContradiction (fun hng=>?_))
 refine hng ?_;clear hng;refine box_event ?hg (N:=4) ?hd (cs:= #[.slice none 0 0,.int .i64 0,.int .i64 0,.int .i64 0,.slice none 0 0]) (t:=27) ?hr ?_
 (case hd=>rfl)
 (case hg=>rfl)
 (case hr=>first|(go_simp;done)|(go_simp;rfl))
 intro gm hg w2 hbox hb;have BM2:=aK hbox;have HD2:=aK ((HD1.out.below hb).mono (ok':=fun k=>k<gm) (fun k hk=>by rw [hg];exact hk));have HB2:=aK (below_step HB1.out hb);have HGm:=aK (show w.heap.size≤gm by rw [hg];exact below_size HB1.out);clear hb hbox hg HD1 HB1;have qc0:=(blk_cell BM2.out 0).trans rfl;have qc1:=(blk_cell BM2.out 1).trans rfl;have qc2:=(blk_cell BM2.out 2).trans rfl;have qc3:=(blk_cell BM2.out 3).trans rfl;have qc4:=(blk_cell BM2.out 4).trans rfl;have qf0:=blk_frozen BM2.out 0;have qf1:=blk_frozen BM2.out 1;have qf2:=blk_frozen BM2.out 2;have qf3:=blk_frozen BM2.out 3;have qf4:=blk_frozen BM2.out 4
 go_wp2_with ((with_reducible refine gate_store (t:=27) (p:=4) rfl ?_);refine Classical.byContradiction (fun hng=>?_))
 refine hng ?_;clear hng;refine store_event (t:=27) (p:=4) (v:=?vm1) (w1:=(memBox w2 gm (.slice A0 ws.length c0) (.int .i64 y) (.int .i64 t) (.int .i64 o) (.slice A4 cards.length c4))) ?hg ?ho ?hn ?hr ?_
 (case ho=>rfl)
 (case hg=>rfl)
 (case hn=>rfl)
 (case hr=>first|(go_simp;done)|(go_simp;rfl))
 intro w3 hw;have hc4:Ch (fun k=>k=gm) w2 w3:=by rw [hw];exact (Ch.refl (fun k=>k=gm) _).box5 (.inl rfl) _ _ _ _ _
 have HD:=aK (HD2.out.ch hc4 (fun k hk=>by omega));have BM:=aK (show w3.heap[gm]? =some (.cells #[.slice A0 ws.length c0,.int .i64 y,.int .i64 t,.int .i64 o,.slice A4 cards.length c4] 27 (0,0)) by rw [hw];exact blk_box5 BM2.out);have HB:=aK (HB2.out.trans (hc4.toBelow (B:=w.heap.size) (below_size HB2.out) (fun k hk=>by have:=HGm.out;omega)));clear hw hc4 HD2 HB2 BM2;clear qc0 qc1 qc2 qc3 qc4;clear qf0 qf1 qf2 qf3 qf4;obtain ⟨p1,p2,p3,p4,p5,p6,hp1,hp2,hp3,hp5⟩:=makeempty_eq (cs:=cs) (fewF_few HD.out.l5.2.2) (ws:=ws) (y:=y) (t:=t) (o:=o) (cards:=cards) HD.out.l0.2 HD.out.l4 a b v;have H1:=aK hp1;have H2:=aK hp2;have H3:=aK hp3;have H5:=aK hp5;clear hp1 hp2 hp3 hp5;have q0:=(blk_cell BM.out 0).trans rfl;have q1:=(blk_cell BM.out 1).trans rfl;have q2:=(blk_cell BM.out 2).trans rfl;have q3:=(blk_cell BM.out 3).trans rfl;have q4:=(blk_cell BM.out 4).trans rfl
 go_wp2_with (go_at_call 27;refine Classical.byContradiction (fun hng=>?_))
 refine hng ?_;clear hng;refine (impl_MemMake.calls 5000000 A5 c5 cs A0 c0 ws y t o A4 c4 cards a b v p1 p2 p3 p4 p5 p6 _ HD.out.C5 HD.out.n5 HD.out.C0 HD.out.n0 HD.out.C4 HD.out.n4 H1.out).mono ?_;rintro e w4 ⟨vP0,vP4,rfl,h0_,h4_,hb⟩;clear q0 q1 q2 q3 q4;replace HD:=aK (HD.out.below hb);replace BM:=aK (blk_below BM.out hb);replace HB:=aK (below_step HB.out hb);have HP0:=aK (Kd.R_mono (Kd.R_bound (Kd.R_lower h0_ (Nat.zero_le _))) (ok':=fun k=>k<w4.heap.size) (fun k hk=>hk.2.2.1));have HP4:=aK (Kd.R_mono (Kd.R_bound (Kd.R_lower h4_ (Nat.zero_le _))) (ok':=fun k=>k<w4.heap.size) (fun k hk=>hk.2.2.1));obtain ⟨AP0,cP0,e0_⟩:=Kd.R_slice HP0.out;subst e0_;obtain ⟨AP4,cP4,e4_⟩:=Kd.R_slice HP4.out;subst e4_;clear h0_ h4_ hb
 go_wp2_with ((with_reducible refine gate_dst (N:=8) rfl ?_);refine Classical.byContradiction (fun hng=>?_))
 refine hng ?_;clear hng;refine box_event ?hg (N:=8) ?hd (cs:= #[.slice none 0 0,.int .i64 0,.int .i64 0,.int .i64 0,.slice none 0 0]) (t:=27) ?hr ?_
 (case hd=>rfl)
 (case hg=>rfl)
 (case hr=>first|(go_simp;done)|(go_simp;rfl))
 intro gP hg w5 hbox hb;have HgP:=aK (show gm<gP by rw [hg];exact blk_lt BM.out);replace HD:=aK (HD.out.below hb);replace BM:=aK (blk_below BM.out hb);replace HB:=aK (below_step HB.out hb);replace HP0:=aK (Kd.R_mono (Kd.R_below HP0.out hb) (ok':=fun k=>k<gP) (fun k hk=>by rw [hg];exact hk));replace HP4:=aK (Kd.R_mono (Kd.R_below HP4.out hb) (ok':=fun k=>k<gP) (fun k hk=>by rw [hg];exact hk));have BP:=aK hbox;clear hb hbox hg;have qc0:=(blk_cell BP.out 0).trans rfl;have qc1:=(blk_cell BP.out 1).trans rfl;have qc2:=(blk_cell BP.out 2).trans rfl;have qc3:=(blk_cell BP.out 3).trans rfl;have qc4:=(blk_cell BP.out 4).trans rfl;have qf0:=blk_frozen BP.out 0;have qf1:=blk_frozen BP.out 1;have qf2:=blk_frozen BP.out 2;have qf3:=blk_frozen BP.out 3;have qf4:=blk_frozen BP.out 4
 go_wp2_with ((with_reducible refine gate_store (t:=27) (p:=8) rfl ?_);refine Classical.byContradiction (fun hng=>?_))
 refine hng ?_;clear hng;refine store_event (t:=27) (p:=8) (v:=?vmP) (w1:=(memBox w5 gP (.slice AP0 (p1).length cP0) (.int .i64 p2) (.int .i64 p3) (.int .i64 p4) (.slice AP4 (p5).length cP4))) ?hg ?ho ?hn ?hr ?_
 (case ho=>rfl)
 (case hg=>rfl)
 (case hn=>rfl)
 (case hr=>first|(go_simp;done)|(go_simp;rfl))
 intro w6 hw;have hc:Ch (fun k=>k=gP) w5 w6:=by rw [hw];exact (Ch.refl (fun k=>k=gP) _).box5 (.inl rfl) _ _ _ _ _
 replace HD:=aK (HD.out.ch hc (fun k hk=>by have:=HgP.out;omega));replace BM:=aK (hc.blk BM.out (by have:=HgP.out;omega));replace HB:=aK (HB.out.trans (hc.toBelow (B:=w.heap.size) (below_size HB.out) (fun k hk=>by have:=HgP.out;have:=HGm.out;omega)));replace HP0:=aK (hc.R HP0.out (fun k hk=>by have:=HgP.out;omega));replace HP4:=aK (hc.R HP4.out (fun k hk=>by have:=HgP.out;omega));replace BP:=aK (show w6.heap[gP]? =some (.cells #[.slice AP0 (p1).length cP0,.int .i64 p2,.int .i64 p3,.int .i64 p4,.slice AP4 (p5).length cP4] 27 (0,0)) by rw [hw];exact blk_box5 BP.out);clear hw hc;clear qc0 qc1 qc2 qc3 qc4;clear qf0 qf1 qf2 qf3 qf4;have q0:=(blk_cell BM.out 0).trans rfl;have q1:=(blk_cell BM.out 1).trans rfl;have q2:=(blk_cell BM.out 2).trans rfl;have q3:=(blk_cell BM.out 3).trans rfl;have q4:=(blk_cell BM.out 4).trans rfl
 go_wp2_with (go_at_call 28;refine Classical.byContradiction (fun hng=>?_))
 refine hng ?_;clear hng;refine (spec_MemMake.calls 5000000 A5 c5 cs A0 c0 ws y t o A4 c4 cards a b v p1 p2 p3 p4 p5 p6 _ HD.out.C5 HD.out.n5 HD.out.C0 HD.out.n0 HD.out.C4 HD.out.n4 H2.out).mono ?_;rintro e w7 ⟨vQ0,vQ4,rfl,h0_,h4_,hb⟩;clear q0 q1 q2 q3 q4;replace HD:=aK (HD.out.below hb);replace BM:=aK (blk_below BM.out hb);replace HB:=aK (below_step HB.out hb);replace HP0:=aK (Kd.R_below HP0.out hb);replace HP4:=aK (Kd.R_below HP4.out hb);replace BP:=aK (blk_below BP.out hb);have HQ0:=aK (Kd.R_mono (Kd.R_bound (Kd.R_lower h0_ (Nat.zero_le _))) (ok':=fun k=>k<w7.heap.size) (fun k hk=>hk.2.2.1));have HQ4:=aK (Kd.R_mono (Kd.R_bound (Kd.R_lower h4_ (Nat.zero_le _))) (ok':=fun k=>k<w7.heap.size) (fun k hk=>hk.2.2.1));obtain ⟨AQ0,cQ0,e0_⟩:=Kd.R_slice HQ0.out;subst e0_;obtain ⟨AQ4,cQ4,e4_⟩:=Kd.R_slice HQ4.out;subst e4_;clear h0_ h4_ hb
 go_wp2_with ((with_reducible refine gate_dst (N:=10) rfl ?_);refine Classical.byContradiction (fun hng=>?_))
 refine hng ?_;clear hng;refine box_event ?hg (N:=10) ?hd (cs:= #[.slice none 0 0,.int .i64 0,.int .i64 0,.int .i64 0,.slice none 0 0]) (t:=27) ?hr ?_
 (case hd=>rfl)
 (case hg=>rfl)
 (case hr=>first|(go_simp;done)|(go_simp;rfl))
 intro gQ hg w8 hbox hb;have HgQ:=aK (show gm<gQ∧gP<gQ by rw [hg];exact ⟨blk_lt BM.out,blk_lt BP.out⟩);replace HD:=aK (HD.out.below hb);replace BM:=aK (blk_below BM.out hb);replace HB:=aK (below_step HB.out hb);replace HP0:=aK (Kd.R_below HP0.out hb);replace HP4:=aK (Kd.R_below HP4.out hb);replace BP:=aK (blk_below BP.out hb);replace HQ0:=aK (Kd.R_mono (Kd.R_below HQ0.out hb) (ok':=fun k=>k<gQ) (fun k hk=>by rw [hg];exact hk));replace HQ4:=aK (Kd.R_mono (Kd.R_below HQ4.out hb) (ok':=fun k=>k<gQ) (fun k hk=>by rw [hg];exact hk));have BQ:=aK hbox;clear hb hbox hg;have qc0:=(blk_cell BQ.out 0).trans rfl;have qc1:=(blk_cell BQ.out 1).trans rfl;have qc2:=(blk_cell BQ.out 2).trans rfl;have qc3:=(blk_cell BQ.out 3).trans rfl;have qc4:=(blk_cell BQ.out 4).trans rfl;have qf0:=blk_frozen BQ.out 0;have qf1:=blk_frozen BQ.out 1;have qf2:=blk_frozen BQ.out 2;have qf3:=blk_frozen BQ.out 3;have qf4:=blk_frozen BQ.out 4
 go_wp2_with ((with_reducible refine gate_store (t:=27) (p:=10) rfl ?_);refine Classical.byContradiction (fun hng=>?_))
 refine hng ?_;clear hng;refine store_event (t:=27) (p:=10) (v:=?vmQ) (w1:=(memBox w8 gQ (.slice AQ0 (p1).length cQ0) (.int .i64 p2) (.int .i64 p3) (.int .i64 p4) (.slice AQ4 (p5).length cQ4))) ?hg ?ho ?hn ?hr ?_
 (case ho=>rfl)
 (case hg=>rfl)
 (case hn=>rfl)
 (case hr=>first|(go_simp;done)|(go_simp;rfl))
 intro w9 hw;have hc:Ch (fun k=>k=gQ) w8 w9:=by rw [hw];exact (Ch.refl (fun k=>k=gQ) _).box5 (.inl rfl) _ _ _ _ _
 replace HD:=aK (HD.out.ch hc (fun k hk=>by have:=HgQ.out;omega));replace BM:=aK (hc.blk BM.out (by have:=HgQ.out;omega));replace HB:=aK (HB.out.trans (hc.toBelow (B:=w.heap.size) (below_size HB.out) (fun k hk=>by have:=HgQ.out;have:=HGm.out;omega)));replace HP0:=aK (hc.R HP0.out (fun k hk=>by have:=HgQ.out;omega));replace HP4:=aK (hc.R HP4.out (fun k hk=>by have:=HgQ.out;omega));replace BP:=aK (hc.blk BP.out (by have:=HgQ.out;omega));replace HQ0:=aK (hc.R HQ0.out (fun k hk=>by have:=HgQ.out;omega));replace HQ4:=aK (hc.R HQ4.out (fun k hk=>by have:=HgQ.out;omega));replace BQ:=aK (show w9.heap[gQ]? =some (.cells #[.slice AQ0 (p1).length cQ0,.int .i64 p2,.int .i64 p3,.int .i64 p4,.slice AQ4 (p5).length cQ4] 27 (0,0)) by rw [hw];exact blk_box5 BQ.out);clear hw hc;clear qc0 qc1 qc2 qc3 qc4;clear qf0 qf1 qf2 qf3 qf4;replace HD:=aK (HD.out.mono (ok':=fun _=>True) (fun _ _=>trivial));replace HP0:=aK (Kd.R_mono HP0.out (ok':=fun _=>True) (fun _ _=>trivial));replace HP4:=aK (Kd.R_mono HP4.out (ok':=fun _=>True) (fun _ _=>trivial));replace HQ0:=aK (Kd.R_mono HQ0.out (ok':=fun _=>True) (fun _ _=>trivial));replace HQ4:=aK (Kd.R_mono HQ4.out (ok':=fun _=>True) (fun _ _=>trivial));clear H1 H2;have x0:=(blk_cell BP.out 0).trans rfl;have x1:=(blk_cell BP.out 1).trans rfl;have x2:=(blk_cell BP.out 2).trans rfl;have x3:=(blk_cell BP.out 3).trans rfl;have x4:=(blk_cell BP.out 4).trans rfl;have z0:=(blk_cell BQ.out 0).trans rfl;have z1:=(blk_cell BQ.out 1).trans rfl;have z2:=(blk_cell BQ.out 2).trans rfl;have z3:=(blk_cell BQ.out 3).trans rfl;have z4:=(blk_cell BQ.out 4).trans rfl
 go_wp2_with (go_at_call 13;refine Classical.byContradiction (fun hng=>?_))
 refine hng ?_;clear hng;refine (laws_leMem.calls 5000000 AP0 cP0 p1 p2 p3 p4 AP4 cP4 p5 AQ0 cQ0 p1 p2 p3 p4 AQ4 cQ4 p5 true _ (Kd.R_reads' HP0.out).2.2 (Kd.R_reads' HP0.out).2.1 (Kd.R_reads' HP4.out).2.2 (Kd.R_reads' HP4.out).2.1 (Kd.R_reads' HQ0.out).2.2 (Kd.R_reads' HQ0.out).2.1 (Kd.R_reads' HQ4.out).2.2 (Kd.R_reads' HQ4.out).2.1 H3.out).mono ?_;rintro e w10 ⟨rfl,hb⟩;clear x0 x1 x2 x3 x4;clear z0 z1 z2 z3 z4;replace HD:=aK (HD.out.below hb);replace BM:=aK (blk_below BM.out hb);replace HB:=aK (below_step HB.out hb);replace BP:=aK (blk_below BP.out hb);replace HP0:=aK (Kd.R_below HP0.out hb);replace HP4:=aK (Kd.R_below HP4.out hb);replace BQ:=aK (blk_below BQ.out hb);replace HQ0:=aK (Kd.R_below HQ0.out hb);replace HQ4:=aK (Kd.R_below HQ4.out hb);clear hb;by_cases c6:p6=0
 ·subst c6
  have x0:=(blk_cell BP.out 0).trans rfl;have x1:=(blk_cell BP.out 1).trans rfl;have x2:=(blk_cell BP.out 2).trans rfl;have x3:=(blk_cell BP.out 3).trans rfl;have x4:=(blk_cell BP.out 4).trans rfl;have z0:=(blk_cell BQ.out 0).trans rfl;have z1:=(blk_cell BQ.out 1).trans rfl;have z2:=(blk_cell BQ.out 2).trans rfl;have z3:=(blk_cell BQ.out 3).trans rfl;have z4:=(blk_cell BQ.out 4).trans rfl
  go_wp2_with (go_at_call 13;refine Classical.byContradiction (fun hng=>?_))
  refine hng ?_;clear hng;refine (laws_leMem.calls 5000000 AP0 cP0 p1 p2 p3 p4 AP4 cP4 p5 AQ0 cQ0 p1 p2 p3 p4 AQ4 cQ4 p5 true _ (Kd.R_reads' HP0.out).2.2 (Kd.R_reads' HP0.out).2.1 (Kd.R_reads' HP4.out).2.2 (Kd.R_reads' HP4.out).2.1 (Kd.R_reads' HQ0.out).2.2 (Kd.R_reads' HQ0.out).2.1 (Kd.R_reads' HQ4.out).2.2 (Kd.R_reads' HQ4.out).2.1 H3.out).mono ?_;rintro e w11 ⟨rfl,hb⟩;clear x0 x1 x2 x3 x4;clear z0 z1 z2 z3 z4;replace HD:=aK (HD.out.below hb);replace BM:=aK (blk_below BM.out hb);replace HB:=aK (below_step HB.out hb);replace BP:=aK (blk_below BP.out hb);replace HP0:=aK (Kd.R_below HP0.out hb);replace HP4:=aK (Kd.R_below HP4.out hb);replace BQ:=aK (blk_below BQ.out hb);replace HQ0:=aK (Kd.R_below HQ0.out hb);replace HQ4:=aK (Kd.R_below HQ4.out hb);clear hb;go_wp2;go_ret;exact ⟨by simp,by first|exact HB.out|exact below_drew1 HB.out⟩
 ·have d6 : (p6 == 0) = false := beq_eq_false_iff_ne.mpr c6
  have f6:=eq_false c6;obtain ⟨hb1,hb2,hb3,hv,hcx,s,s',n,hs0,hs1,hn0,hn1,hw,hw',hh,hl,hi,hk⟩:=H5.out c6;have G0:=aK hv;have G1:=aK hcx;have G2:=aK (And.intro hs0 hs1);have G3:=aK (And.intro hn0 hn1);have G4:=aK hw;have G5:=aK hw';have G6:=aK hh;have G7:=aK hl;have G8:=aK hi;have G9:=aK hk;have HB6:=aK (show 1≤p6∧p6≤1000∧p6≤p1.length from ⟨hb1,hb2,hb3⟩);clear hb1 hb2 hb3 hv hcx hs0 hs1 hn0 hn1 hw hw' hh hl hi hk c6 H5 H3 BQ HQ0 HQ4;have q0:=(blk_cell BM.out 0).trans rfl;have q1:=(blk_cell BM.out 1).trans rfl;have q2:=(blk_cell BM.out 2).trans rfl;have q3:=(blk_cell BM.out 3).trans rfl;have q4:=(blk_cell BM.out 4).trans rfl
  go_wp2_with (go_at_call 17;refine Classical.byContradiction (fun hng=>?_))
  refine hng ?_;clear hng;refine (impl_MemWalk.calls 5000000 A5 c5 cs A0 c0 ws y t o A4 c4 cards s _ HD.out.C5 HD.out.n5 HD.out.C0 HD.out.n0 HD.out.C4 HD.out.n4 G4.out).mono ?_;rintro e w11 ⟨vX,rfl,h_,hb⟩;clear q0 q1 q2 q3 q4;replace HD:=aK (HD.out.below hb);replace BM:=aK (blk_below BM.out hb);replace HB:=aK (below_step HB.out hb);replace BP:=aK (blk_below BP.out hb);replace HP0:=aK (Kd.R_below HP0.out hb);replace HP4:=aK (Kd.R_below HP4.out hb);have HX:=aK (Kd.R_mono (Kd.R_lower h_ (Nat.zero_le _)) (ok':=fun _=>True) (fun _ _=>trivial));obtain ⟨AX,cX,e_⟩:=Kd.R_slice HX.out;subst e_;clear h_;clear hb;clear d6 f6;go_wp2
  go_loopw [13] (fun v13 wr=> ∃i:Nat,v13= .int .i64 (i:Int)∧Aside0 (i≤s.length)∧Aside0 (Dr wr (fun _=>True) A5 c5 A0 c0 A4 c4 cs ws cards)∧Aside0 (wr.heap[gm]? =some (.cells #[.slice A0 ws.length c0,.int .i64 y,.int .i64 t,.int .i64 o,.slice A4 cards.length c4] 27 (0,0)))∧Aside0 (Below w.heap.size w wr)∧Aside0 (wr.heap[gP]? =some (.cells #[.slice AP0 p1.length cP0,.int .i64 p2,.int .i64 p3,.int .i64 p4,.slice AP4 p5.length cP4] 27 (0,0)))∧Aside0 (Kd.R (Kd.int .i64) 3 wr 0 (fun _=>True) (.slice AP0 p1.length cP0) p1)∧Aside0 (Kd.R Kd.bool 4 wr 0 (fun _=>True) (.slice AP4 p5.length cP4) p5)∧Aside0 (Kd.R (Kd.int .i64) 3 wr 0 (fun _=>True) (.slice AX s.length cX) s)) (fun v13 _=>s.length - (intOf v13).toNat)
  case atStart=>exact ⟨0,rfl,⟨Nat.zero_le _⟩,HD,BM,HB,BP,HP0,HP4,HX⟩
  case round =>
   clear HD BM HB BP HP0 HP4 HX;obtain ⟨i,rfl,HIl,HD,BM,HB,BP,HP0,HP4,HX⟩:=hrel;by_cases cx:(i:Int)<(s.length:Int)
   ·have d0 : decide ((i : Int) < (s.length : Int)) = true := decide_eq_true cx
    have d0b:=eq_true (show i<s.length by omega);have HI1:=aK (show i<s.length by omega);obtain ⟨z,z0,z1,x0,x1,hsz,hkk⟩:=G8.out (i:Int) (by omega) cx;obtain ⟨x,hx⟩: ∃x,x=rd s (i:Int):=⟨_,rfl⟩;rw [←hx] at x0 x1 hsz hkk;have HSz:=aK hsz;have HKK:=aK hkk;have HZ:=aK (And.intro (And.intro z0 z1) (And.intro x0 x1));have HXx:=aK hx;clear z0 z1 x0 x1 hsz hkk hx cx;go_wp2
    go_loopw [14] (fun v14 wr=> ∃k:Nat,v14= .int .i64 (k:Int)∧Aside0 (k≤z.toNat)∧Aside0 (Dr wr (fun _=>True) A5 c5 A0 c0 A4 c4 cs ws cards)∧Aside0 (wr.heap[gm]? =some (.cells #[.slice A0 ws.length c0,.int .i64 y,.int .i64 t,.int .i64 o,.slice A4 cards.length c4] 27 (0,0)))∧Aside0 (Below w.heap.size w wr)∧Aside0 (wr.heap[gP]? =some (.cells #[.slice AP0 p1.length cP0,.int .i64 p2,.int .i64 p3,.int .i64 p4,.slice AP4 p5.length cP4] 27 (0,0)))∧Aside0 (Kd.R (Kd.int .i64) 3 wr 0 (fun _=>True) (.slice AP0 p1.length cP0) p1)∧Aside0 (Kd.R Kd.bool 4 wr 0 (fun _=>True) (.slice AP4 p5.length cP4) p5)∧Aside0 (Kd.R (Kd.int .i64) 3 wr 0 (fun _=>True) (.slice AX s.length cX) s)) (fun v14 _=>z.toNat - (intOf v14).toNat)
    case atStart=>exact ⟨0,rfl,⟨Nat.zero_le _⟩,HD,BM,HB,BP,HP0,HP4,HX⟩
    case round=>
     clear d0 d0b HD BM HB BP HP0 HP4 HX;obtain ⟨k,rfl,HKl,HD,BM,HB,BP,HP0,HP4,HX⟩:=hrel;obtain ⟨gX,cX',eX,_,_,_⟩:=Kd.R_form HX.out (by have:=HI1.out;omega);injection eX with a1 a2 a3;subst a1;clear a2 a3;have hcell:=(Kd.R_cell (enc:=Value.int .i64) (h1:=fun _=>rfl) 0 HX.out (i:Int) (by omega) (by have:=HI1.out;omega)).1;rw [Int.toNat_natCast] at hcell;change _=some (Value.int .i64 (rd s (i:Int))) at hcell
     rw [←HXx.out] at hcell;have r1:=eq_true (show 0≤(i:Int) by omega);have r2:=eq_true (show (i:Int)<(s.length:Int) by have:=HI1.out;omega);have q0:=(blk_cell BM.out 0).trans rfl;have q1:=(blk_cell BM.out 1).trans rfl;have q2:=(blk_cell BM.out 2).trans rfl;have q3:=(blk_cell BM.out 3).trans rfl;have q4:=(blk_cell BM.out 4).trans rfl;by_cases ck:(k:Int)<z
     ·have dck : decide ((k : Int) < z) = true := decide_eq_true ck
      have fck:=eq_true ck;go_wp2;refine sT 9 (S:=fun w'=>Aside0 (Below wr.heap.size wr w')∧w'.cell? ⟨gm,0,none⟩=some (.slice A0 ws.length c0)∧w'.cell? ⟨gm,1,none⟩=some (.int .i64 y)∧w'.cell? ⟨gm,2,none⟩=some (.int .i64 t)∧w'.cell? ⟨gm,3,none⟩=some (.int .i64 o)∧w'.cell? ⟨gm,4,none⟩=some (.slice A4 cards.length c4)∧w'.cell? ⟨gX,i,none⟩=some (.int .i64 x)) (ds:=[]) ⟨⟨below_drew1 (Below.refl _ _)⟩,(by go_simp),(by go_simp),(by go_simp),(by go_simp),(by go_simp),(by go_simp)⟩ (fun hHeld=>?_);refine pS 0 77 #[true,false,false,false,false,false,false,false,false] ?_;refine pS 1 78 #[true,true,false,false,false,false,false,false,false] ?_;refine pS 3 80 #[true,true,false,true,false,false,false,false,false] ?_;refine pS 4 81 #[true,true,false,true,true,false,false,false,false] ?_;refine pS 5 82 #[true,true,false,true,true,true,false,false,false] ?_;refine tS 2 79 #[true,true,true,true,true,true,false,false,false] rfl rfl (by kernel_rfl) hHeld z48 ?_;refine tS 6 83 #[true,true,true,true,true,true,true,false,false] rfl rfl (by kernel_rfl) hHeld z48 ?_;refine oS 7 84 #[true,true,true,true,true,true,true,true,false] rfl rfl (fun K hK=>?_);refine gO Try.func25 #[.slice A5 cs.length c5,.agg #[.slice A0 ws.length c0,.int .i64 y,.int .i64 t,.int .i64 o,.slice A4 cards.length c4],.int .i64 x] ?_;(with_reducible refine (impl_MemSize.calls 5000000 A5 c5 cs A0 c0 ws y t o A4 c4 cards x z _ (Kd.C_below HD.out.C5 hHeld.1.out) HD.out.n5 (Kd.C_below HD.out.C0 hHeld.1.out) HD.out.n0 (Kd.C_below HD.out.C4 hHeld.1.out) HD.out.n4 HSz.out).mono ?_);rintro e w9 ⟨rfl,hb9⟩;refine ⟨_,rfl,?_⟩;refine hK.out _ _ ⟨⟨below_step hHeld.1.out hb9⟩,(pw_cell_below hb9 hHeld.2.1),(pw_cell_below hb9 hHeld.2.2.1),(pw_cell_below hb9 hHeld.2.2.2.1),(pw_cell_below hb9 hHeld.2.2.2.2.1),(pw_cell_below hb9 hHeld.2.2.2.2.2.1),(pw_cell_below hb9 hHeld.2.2.2.2.2.2)⟩ (fun hHeld=>?_);clear hK K;refine nS 84 ?_;refine pS 8 85 #[true,true,true,true,true,true,true,true,true] ?_;refine done_ (by kernel_rfl) ?_;clear hcell r1 r2 q0 q1 q2 q3 q4;have hb:=hHeld.1.out;clear hHeld;replace HD:=aK (HD.out.below hb);replace BM:=aK (blk_below BM.out hb);replace HB:=aK (below_step HB.out hb);replace BP:=aK (blk_below BP.out hb);replace HP0:=aK (Kd.R_below HP0.out hb);replace HP4:=aK (Kd.R_below HP4.out hb);replace HX:=aK (Kd.R_below HX.out hb);clear hb;have gck:=eq_false (show¬z≤(k:Int) by omega);obtain ⟨hk1,hk2,hk3⟩:=HKK.out (k:Int) (by omega) ck;have HCk:=aK ck;clear ck;obtain ⟨xm,hxm⟩: ∃z,z=x - 1:=⟨_,rfl⟩;rw [←hxm] at hk1 hk2 hk3;obtain ⟨j,hj⟩: ∃z,z=xm+(k:Int):=⟨_,rfl⟩;rw [←hj] at hk1 hk2 hk3;have hj0:0≤j:=by have:=HZ.out;omega
      have u1:IntKind.i64.wrap (x - 1)=xm:=by rw [hxm];exact IntWalk.i64_in _ (by have:=HZ.out;omega)
      have u2:IntKind.i64.wrap (xm+(k:Int))=j:=by rw [hj];exact IntWalk.i64_in _ (by have:=HZ.out;have:=HCk.out;omega)
      have u3:IntKind.i64.wrap ((k:Int)+1)=(k:Int)+1:=IntWalk.i64_in _ (by have:=HZ.out;have:=HCk.out;omega)
      obtain ⟨a0,e0,hc0⟩:=Kd.at_int HD.out.C0 j hj0 hk1;obtain ⟨a1,e1,hc1⟩:=Kd.at_int (Kd.R_reads' HP0.out).2.2 j hj0 hk2;subst e0 e1;rw [hk3] at hc1;obtain ⟨q,hq⟩: ∃z,z=rd ws j:=⟨_,rfl⟩;rw [←hq] at hc0 hc1;have r3:=eq_true hj0;have r4:=eq_true hk1;have r5:=eq_true hk2;clear hk1 hk2 hk3 hj0 hxm hj hq;have hcell:=(Kd.R_cell (enc:=Value.int .i64) (h1:=fun _=>rfl) 0 HX.out (i:Int) (by omega) (by have:=HI1.out;omega)).1;rw [Int.toNat_natCast] at hcell;change _=some (Value.int .i64 (rd s (i:Int))) at hcell
      rw [←HXx.out] at hcell;have r1:=eq_true (show 0≤(i:Int) by omega);have r2:=eq_true (show (i:Int)<(s.length:Int) by have:=HI1.out;omega);have s0:=(blk_cell BM.out 0).trans rfl;have s1:=(blk_cell BM.out 1).trans rfl;have s2:=(blk_cell BM.out 2).trans rfl;have s3:=(blk_cell BM.out 3).trans rfl;have s4:=(blk_cell BM.out 4).trans rfl;have x0:=(blk_cell BP.out 0).trans rfl;have x1:=(blk_cell BP.out 1).trans rfl;have x2:=(blk_cell BP.out 2).trans rfl;have x3:=(blk_cell BP.out 3).trans rfl;have x4:=(blk_cell BP.out 4).trans rfl;go_wp2;refine sT 23 (S:=fun w'=>Aside0 (Below w9.heap.size w9 w')∧w'.cell? ⟨gm,0,none⟩=some (.slice (some a0) ws.length c0)∧w'.cell? ⟨gP,0,none⟩=some (.slice (some a1) p1.length cP0)∧w'.cell? ⟨gX,i,none⟩=some (.int .i64 x)∧w'.cell? (a0.add j.toNat)=some (.int .i64 q)∧w'.cell? (a1.add j.toNat)=some (.int .i64 q)) (ds:=[]) ⟨⟨below_drew1 (Below.refl _ _)⟩,(by go_simp),(by go_simp),(by go_simp),(by go_simp),(by go_simp)⟩ (fun hHeld=>?_);refine pS 0 88 (lA 23 1) ?_;refine pS 2 90 (lA 23 5) ?_;refine pS 3 91 (lA 23 13) ?_;refine pS 4 92 (lA 23 29) ?_;refine pS 7 95 (lA 23 157) ?_;refine pS 11 99 (lA 23 2205) ?_;refine pS 13 101 (lA 23 10397) ?_;refine pS 14 102 (lA 23 26781) ?_;refine pS 15 103 (lA 23 59549) ?_;refine pS 18 106 (lA 23 321693) ?_;refine tS 1 89 (lA 23 321695) rfl rfl (by kernel_rfl) hHeld z4 ?_;refine tS 5 93 (lA 23 321727) rfl rfl (by kernel_rfl) hHeld z4 ?_;refine pS 6 94 (lA 23 321791) ?_;refine pS 8 96 (lA 23 322047) ?_;refine pS 9 97 (lA 23 322559) ?_;refine tS 10 98 (lA 23 323583) rfl rfl (by kernel_rfl) hHeld z4 ?_;refine tS 12 100 (lA 23 327679) rfl rfl (by kernel_rfl) hHeld z4 ?_;refine tS 16 104 (lA 23 393215) rfl rfl (by kernel_rfl) hHeld z4 ?_;refine pS 17 105 (lA 23 524287) ?_;refine pS 19 107 (lA 23 1048575) ?_;refine pS 20 108 (lA 23 2097151) ?_;refine tS 21 109 (lA 23 4194303) rfl rfl (by kernel_rfl) hHeld z4 ?_;refine pS 22 110 (lA 23 8388607) ?_;refine done_ (by kernel_rfl) ?_;clear hcell hc0 hc1 r1 r2 r3 r4 r5 u1 u2 s0 x0 s1 x1 s2 x2 s3 x3 s4 x4;have hb:=hHeld.1.out;clear hHeld;replace HD:=aK (HD.out.below hb);replace BM:=aK (blk_below BM.out hb);replace HB:=aK (below_step HB.out hb);replace BP:=aK (blk_below BP.out hb);replace HP0:=aK (Kd.R_below HP0.out hb);replace HP4:=aK (Kd.R_below HP4.out hb);replace HX:=aK (Kd.R_below HX.out hb);clear hb;go_wp2
      go_roundw
      case rel=>exact ⟨k+1,rfl,⟨by have:=HCk.out;have:=HZ.out;omega⟩,HD,BM,HB,BP,HP0,HP4,HX⟩
      case measure=>have:=HCk.out;have:=HZ.out;simp only [intOf];omega
     ·have dck : decide ((k : Int) < z) = false := decide_eq_false ck
      have fck:=eq_false ck;go_wp2;refine sT 9 (S:=fun w'=>Aside0 (Below wr.heap.size wr w')∧w'.cell? ⟨gm,0,none⟩=some (.slice A0 ws.length c0)∧w'.cell? ⟨gm,1,none⟩=some (.int .i64 y)∧w'.cell? ⟨gm,2,none⟩=some (.int .i64 t)∧w'.cell? ⟨gm,3,none⟩=some (.int .i64 o)∧w'.cell? ⟨gm,4,none⟩=some (.slice A4 cards.length c4)∧w'.cell? ⟨gX,i,none⟩=some (.int .i64 x)) (ds:=[]) ⟨⟨below_drew1 (Below.refl _ _)⟩,(by go_simp),(by go_simp),(by go_simp),(by go_simp),(by go_simp),(by go_simp)⟩ (fun hHeld=>?_);refine pS 0 77 #[true,false,false,false,false,false,false,false,false] ?_;refine pS 1 78 #[true,true,false,false,false,false,false,false,false] ?_;refine pS 3 80 #[true,true,false,true,false,false,false,false,false] ?_;refine pS 4 81 #[true,true,false,true,true,false,false,false,false] ?_;refine pS 5 82 #[true,true,false,true,true,true,false,false,false] ?_;refine tS 2 79 #[true,true,true,true,true,true,false,false,false] rfl rfl (by kernel_rfl) hHeld z48 ?_;refine tS 6 83 #[true,true,true,true,true,true,true,false,false] rfl rfl (by kernel_rfl) hHeld z48 ?_;refine oS 7 84 #[true,true,true,true,true,true,true,true,false] rfl rfl (fun K hK=>?_);refine gO Try.func25 #[.slice A5 cs.length c5,.agg #[.slice A0 ws.length c0,.int .i64 y,.int .i64 t,.int .i64 o,.slice A4 cards.length c4],.int .i64 x] ?_;(with_reducible refine (impl_MemSize.calls 5000000 A5 c5 cs A0 c0 ws y t o A4 c4 cards x z _ (Kd.C_below HD.out.C5 hHeld.1.out) HD.out.n5 (Kd.C_below HD.out.C0 hHeld.1.out) HD.out.n0 (Kd.C_below HD.out.C4 hHeld.1.out) HD.out.n4 HSz.out).mono ?_);rintro e w9 ⟨rfl,hb9⟩;refine ⟨_,rfl,?_⟩;refine hK.out _ _ ⟨⟨below_step hHeld.1.out hb9⟩,(pw_cell_below hb9 hHeld.2.1),(pw_cell_below hb9 hHeld.2.2.1),(pw_cell_below hb9 hHeld.2.2.2.1),(pw_cell_below hb9 hHeld.2.2.2.2.1),(pw_cell_below hb9 hHeld.2.2.2.2.2.1),(pw_cell_below hb9 hHeld.2.2.2.2.2.2)⟩ (fun hHeld=>?_);clear hK K;refine nS 84 ?_;refine pS 8 85 #[true,true,true,true,true,true,true,true,true] ?_;refine done_ (by kernel_rfl) ?_;clear hcell r1 r2 q0 q1 q2 q3 q4;have hb:=hHeld.1.out;clear hHeld;replace HD:=aK (HD.out.below hb);replace BM:=aK (blk_below BM.out hb);replace HB:=aK (below_step HB.out hb);replace BP:=aK (blk_below BP.out hb);replace HP0:=aK (Kd.R_below HP0.out hb);replace HP4:=aK (Kd.R_below HP4.out hb);replace HX:=aK (Kd.R_below HX.out hb);clear hb;have gck:=eq_true (show z≤(k:Int) by omega);clear ck;have u3:IntKind.i64.wrap ((i:Int)+1)=(i:Int)+1:=IntWalk.i64_in _ (by have:=HI1.out;have:=G2.out;omega)
      go_wp2
      go_roundw
      case rel=>exact ⟨i+1,rfl,⟨HI1.out⟩,HD,BM,HB,BP,HP0,HP4,HX⟩
      case measure=>have:=HI1.out;simp only [intOf];omega
   ·have d0 : decide ((i : Int) < (s.length : Int)) = false := decide_eq_false cx
    have d0b:=eq_false (show¬i<s.length by omega);clear cx G8 HIl;go_wp2
    go_loopw [15] (fun v15 wr=> ∃k:Nat,v15= .int .i64 (k:Int)∧Aside0 (k≤n.toNat)∧Aside0 (Dr wr (fun _=>True) A5 c5 A0 c0 A4 c4 cs ws cards)∧Aside0 (wr.heap[gm]? =some (.cells #[.slice A0 ws.length c0,.int .i64 y,.int .i64 t,.int .i64 o,.slice A4 cards.length c4] 27 (0,0)))∧Aside0 (Below w.heap.size w wr)∧Aside0 (wr.heap[gP]? =some (.cells #[.slice AP0 p1.length cP0,.int .i64 p2,.int .i64 p3,.int .i64 p4,.slice AP4 p5.length cP4] 27 (0,0)))∧Aside0 (Kd.R (Kd.int .i64) 3 wr 0 (fun _=>True) (.slice AP0 p1.length cP0) p1)∧Aside0 (Kd.R Kd.bool 4 wr 0 (fun _=>True) (.slice AP4 p5.length cP4) p5)∧Aside0 (Kd.R (Kd.int .i64) 3 wr 0 (fun _=>True) (.slice AX s.length cX) s)) (fun v15 _=>n.toNat - (intOf v15).toNat)
    case atStart=>exact ⟨0,rfl,⟨Nat.zero_le _⟩,HD,BM,HB,BP,HP0,HP4,HX⟩
    case round=>
     clear d0 d0b HD BM HB BP HP0 HP4 HX;obtain ⟨k,rfl,HKl,HD,BM,HB,BP,HP0,HP4,HX⟩:=hrel
     go_wp2_with (go_at_call 29;refine Classical.byContradiction (fun hng=>?_))
     refine hng ?_;clear hng;refine (laws_leWant.calls 5000000 A5 c5 cs a b n _ HD.out.C5 HD.out.n5 G7.out).mono ?_;rintro e w91 ⟨rfl,hb⟩;replace HD:=aK (HD.out.below hb);replace BM:=aK (blk_below BM.out hb);replace HB:=aK (below_step HB.out hb);replace BP:=aK (blk_below BP.out hb);replace HP0:=aK (Kd.R_below HP0.out hb);replace HP4:=aK (Kd.R_below HP4.out hb);replace HX:=aK (Kd.R_below HX.out hb);clear hb;by_cases ck:(k:Int)<n
     ·have dck : decide ((k : Int) < n) = true := decide_eq_true ck
      have fck:=eq_true ck;have HCk:=aK ck;have u3:IntKind.i64.wrap ((k:Int)+1)=(k:Int)+1:=IntWalk.i64_in _ (by have:=G3.out;omega)
      obtain ⟨g,gb,hg,hgz⟩:=G9.out (k:Int);have GG:=aK hg;have GZ:=aK hgz;clear hg hgz ck;have x0:=(blk_cell BP.out 0).trans rfl;have x1:=(blk_cell BP.out 1).trans rfl;have x2:=(blk_cell BP.out 2).trans rfl;have x3:=(blk_cell BP.out 3).trans rfl;have x4:=(blk_cell BP.out 4).trans rfl
      go_wp2_with (go_at_call 15;refine Classical.byContradiction (fun hng=>?_))
      refine hng ?_;clear hng;refine (impl_MemGet.calls 5000000 A5 c5 cs AP0 cP0 p1 p2 p3 p4 AP4 cP4 p5 p6 (k:Int) g gb _ HD.out.C5 HD.out.n5 (Kd.R_reads' HP0.out).2.2 (Kd.R_reads' HP0.out).2.1 (Kd.R_reads' HP4.out).2.2 (Kd.R_reads' HP4.out).2.1 GG.out).mono ?_;rintro e w92 ⟨rfl,hb⟩;clear x0 x1 x2 x3 x4;replace HD:=aK (HD.out.below hb);replace BM:=aK (blk_below BM.out hb);replace HB:=aK (below_step HB.out hb);replace BP:=aK (blk_below BP.out hb);replace HP0:=aK (Kd.R_below HP0.out hb);replace HP4:=aK (Kd.R_below HP4.out hb);replace HX:=aK (Kd.R_below HX.out hb);clear hb
      cases gb with
      |false=>
       go_wp2
       go_roundw
       case rel=>exact ⟨k+1,rfl,⟨by have:=HCk.out;omega⟩,HD,BM,HB,BP,HP0,HP4,HX⟩
       case measure=>have:=HCk.out;simp only [intOf];omega
      |true=>
       obtain rfl:=GZ.out rfl;clear GZ GG;go_wp2
       go_roundw
       case rel=>exact ⟨k+1,rfl,⟨by have:=HCk.out;omega⟩,HD,BM,HB,BP,HP0,HP4,HX⟩
       case measure=>have:=HCk.out;simp only [intOf];omega
     ·have dck : decide ((k : Int) < n) = false := decide_eq_false ck
      have fck:=eq_false ck;clear ck HKl G9;obtain ⟨j,hj⟩: ∃z,z=p6 - 1:=⟨_,rfl⟩;have hj0:0≤j∧j<p1.length:=by have:=HB6.out;omega
      have hcx:=G1.out;rw [←hj] at hcx;obtain ⟨a1,e1,hc1⟩:=Kd.at_int (Kd.R_reads' HP0.out).2.2 j hj0.1 hj0.2;subst e1;rw [hcx] at hc1;have r1:=eq_true hj0.1;have r2:=eq_true hj0.2;have u1:IntKind.i64.wrap (p6 - 1)=j:=by rw [hj];exact IntWalk.i64_in _ (by have:=HB6.out;omega)
      have u2:IntKind.i64.wrap ((s.length:Int)+1)=(s'.length:Int):=by rw [G2.out.2];exact IntWalk.i64_in _ (by have:=G2.out;omega)
      have dv:=G0.out;clear hcx hj hj0;have x0:=(blk_cell BP.out 0).trans rfl;have x1:=(blk_cell BP.out 1).trans rfl;have x2:=(blk_cell BP.out 2).trans rfl;have x3:=(blk_cell BP.out 3).trans rfl;have x4:=(blk_cell BP.out 4).trans rfl
      go_wp2_with (go_at_call 17;refine Classical.byContradiction (fun hng=>?_))
      refine hng ?_;clear hng;refine (impl_MemWalk.calls 5000000 A5 c5 cs (some a1) cP0 p1 p2 p3 p4 AP4 cP4 p5 s' _ HD.out.C5 HD.out.n5 (Kd.R_reads' HP0.out).2.2 (Kd.R_reads' HP0.out).2.1 (Kd.R_reads' HP4.out).2.2 (Kd.R_reads' HP4.out).2.1 G5.out).mono ?_;rintro e w92 ⟨vY,rfl,h_,hb⟩;clear x0 x1 x2 x3 x4;replace HD:=aK (HD.out.below hb);replace BM:=aK (blk_below BM.out hb);replace HB:=aK (below_step HB.out hb);replace BP:=aK (blk_below BP.out hb);replace HP0:=aK (Kd.R_below HP0.out hb);replace HP4:=aK (Kd.R_below HP4.out hb);replace HX:=aK (Kd.R_below HX.out hb);have HY:=aK (Kd.R_mono (Kd.R_lower h_ (Nat.zero_le _)) (ok':=fun _=>True) (fun _ _=>trivial));obtain ⟨AY,cY,e_⟩:=Kd.R_slice HY.out;subst e_;clear h_;clear hb;clear hc1 r1 r2
      go_wp2_with (go_at_call 16;refine Classical.byContradiction (fun hng=>?_))
      refine hng ?_;clear hng;refine (laws_leHas.calls 5000000 AX cX s p6 false _ (Kd.R_reads' HX.out).2.2 (Kd.R_reads' HX.out).2.1 G6.out).mono ?_;rintro e w93 ⟨rfl,hb⟩;have hb:=hb.below;replace HD:=aK (HD.out.below hb);replace BM:=aK (blk_below BM.out hb);replace HB:=aK (below_step HB.out hb);replace BP:=aK (blk_below BP.out hb);replace HP0:=aK (Kd.R_below HP0.out hb);replace HP4:=aK (Kd.R_below HP4.out hb);replace HX:=aK (Kd.R_below HX.out hb);replace HY:=aK (Kd.R_below HY.out hb);clear hb;have q0:=(blk_cell BM.out 0).trans rfl;have q1:=(blk_cell BM.out 1).trans rfl;have q2:=(blk_cell BM.out 2).trans rfl;have q3:=(blk_cell BM.out 3).trans rfl;have q4:=(blk_cell BM.out 4).trans rfl;go_wp2;go_ret;exact ⟨by simp,by first|exact HB.out|exact below_drew1 HB.out⟩
end Go.Proofs.Ytnlieahdakafbaa.K
namespace Go.Proofs.Ytnlieahdakafbaa.K
open Go.RowKit Go.Proofs.YtnlieahdakafbaaW.PrintWords Go.Proofs.YtnlieahdakafbaaW.PrintLast Go.Proofs.YtnlieahdakafbaaW.PrintMore
attribute [local go_sem] max2_int min2_int max_two min_two max_three min_three max_four min_four
set_option linter.unusedVariables false
set_option linter.unusedSimpArgs false
def laws_FnMakeEmpty.Pure:Prop:= ∀(a0:List Int),(GL (fun n:Int=>(Lit.int .u8 n).wf=true)) a0→laws_FnMakeEmpty.f a0=some true
end Go.Proofs.Ytnlieahdakafbaa.K
namespace Go.Proofs.Ytnlieahdakafbaa.Pure
open Go.RowKit Go.Proofs.Ytnlieahdakafbaa.K Go.Proofs.YtnlieahdakafbaaW.PrintWords Go.Proofs.YtnlieahdakafbaaW.PrintLast Go.Proofs.YtnlieahdakafbaaW.PrintMore
set_option linter.unusedVariables false
set_option linter.unusedSimpArgs false
theorem FnMakeEmpty:laws_FnMakeEmpty.Pure:=by
 intro l hl;unfold laws_FnMakeEmpty.f;exact if_pos (show∀x∈l,(Lit.int .u8 x).wf=true from hl.2)
end Go.Proofs.Ytnlieahdakafbaa.Pure
