import Derived.Test.YtnlieahdakafbaaPa24
import Derived.Test.YtnlieahdakafbaaPa35
import Derived.Test.YtnlieahdakafbaaPa36
import Derived.Test.YtnlieahdakafbaaPa32
import Derived.Test.YtnlieahdakafbaaPa34
import Derived.Test.YtnlieahdakafbaaPa33
import Derived.Test.YtnlieahdakafbaaPa25
import Derived.Test.YtnlieahdakafbaaPa27
import Derived.Test.YtnlieahdakafbaaPa38
namespace Go.Proofs.Ytnlieahdakafbaa.K
open Go.RowKit Go.Proofs.YtnlieahdakafbaaW.PrintWords Go.Proofs.YtnlieahdakafbaaW.PrintLast Go.Proofs.YtnlieahdakafbaaW.PrintMore
attribute [local go_sem] max2_int min2_int max_two min_two max_three min_three max_four min_four
set_option linter.unusedVariables false
set_option linter.unusedSimpArgs false
def laws_leHas.l0:Nat→List Int→Int→Int→Option (Bool)
  |0,_,_,_=>none
  |k+1,x0,x1,x5=>if x5<(x0.length:Int) then (if 0≤x5 then (if (rd x0 x5)=x1 then (some true) else (laws_leHas.l0 k x0 x1 (wrap64 (x5+1)))) else (none)) else (some false)
def laws_leHas.f (k:Nat) (l0:List Int) (a1:Int):Option (Bool):=laws_leHas.l0 k l0 a1 0
set_option maxHeartbeats 8000000 in
set_option maxRecDepth 100000 in
theorem laws_leHas.calls (k:Nat) (A0:Option Addr) (c0:Nat) (l0:List Int) (a1:Int) (r:Bool) (w:World) (hr0:Kd.C (Kd.int .i64) w A0 l0.length l0) (hc0:l0.length≤c0) (h:laws_leHas.f k l0 a1=some r):
  Calls Try.prog 16 #[.slice A0 l0.length c0,.int .i64 a1] w fun e w'=>e= .returned (.bool r)∧Drawn0 w w':=by
 have HR0:=aK hr0;have HC0:=aK hc0;clear hr0 hc0;have H:(laws_leHas.l0 k l0 a1 0)=some r:=h
 clear h;have H':=aK H;clear H;go_enter Try.func16,Try.ntmps16;go_wp2
 go_loopg [5] k (fun kq v5 w'=> ∃(x5_1:Int),v5= .int .i64 x5_1∧Aside0 (laws_leHas.l0 kq l0 a1 x5_1=some r)∧Aside0 (kq≤k)∧Drawn0 w w')
 case atStart=>exact ⟨(0),z7,H',⟨Nat.le_refl _⟩,by repeat (first|exact Drawn0.refl _|apply Drawn0.step)⟩
 case round =>
  clear H';(try clear c1);(try clear p2);obtain ⟨x5_1,rfl,HA,HK1,⟨m1,rfl⟩⟩:=hrel
  cases gk with
  |zero=>exact absurd HA.out (by simp [laws_leHas.l0])
  | succ k1 =>
   have H:=HA.out;clear HA;simp only [laws_leHas.l0] at H;by_cases c3:x5_1<(l0.length:Int)
   ·rw [if_pos c3] at H
    have c3b0:decide (x5_1<(l0.length:Int))=true:=decide_eq_true c3
    clear c3;by_cases c4:0≤x5_1
    ·rw [if_pos c4] at H
     have c4b0:decide (0≤x5_1)=true:=decide_eq_true c4
     clear c4;by_cases c5:(rd l0 x5_1)=a1
     ·rw [if_pos c5] at H
      have c5b0:((rd l0 x5_1)==a1)=true:=beq_iff_eq.mpr c5
      have c5b1:((rd l0 x5_1) !=a1)=false:=bne_eq_false_iff_eq.mpr c5
      clear c5;obtain rfl:=Option.some.inj H;have p385:0≤(x5_1:Int):=of_decide_eq_true z3
      have q385:x5_1<(l0.length:Int):=of_decide_eq_true z3
      obtain ⟨ad385,e385,hx385_0⟩:=Kd.at_int HR0.out x5_1 p385 q385
      cases e385
      replace p385:=eq_true p385;replace q385:=eq_true q385;go_wp2;go_ret;exact ⟨z7,z13⟩
     ·rw [if_neg c5] at H
      have c5b0:((rd l0 x5_1)==a1)=false:=beq_eq_false_iff_ne.mpr c5
      have c5b1:((rd l0 x5_1) !=a1)=true:=bne_iff_ne.mpr c5
      have H':=aK H;clear H;have p385:0≤(x5_1:Int):=of_decide_eq_true z3
      have q385:x5_1<(l0.length:Int):=of_decide_eq_true z3
      obtain ⟨ad385,e385,hx385_0⟩:=Kd.at_int HR0.out x5_1 p385 q385
      cases e385
      replace p385:=eq_true p385;replace q385:=eq_true q385;go_wp2
      go_roundg k1
      case measure=>have:=HK1.out;omega
      case rel=>exact ⟨(wrap64 (x5_1+1)),z7,H',⟨by have:=HK1.out;omega⟩,by repeat (first|exact Drawn0.refl _|apply Drawn0.step)⟩
    ·rw [if_neg c4] at H
     exact absurd H (by simp)
   ·rw [if_neg c3] at H
    have c3b0:decide (x5_1<(l0.length:Int))=false:=decide_eq_false c3
    clear c3;obtain rfl:=Option.some.inj H;go_wp2;go_ret;exact ⟨z7,z13⟩
end Go.Proofs.Ytnlieahdakafbaa.K
namespace Go.Proofs.Ytnlieahdakafbaa.Pure
open Go.RowKit Go.Proofs.Ytnlieahdakafbaa.K Go.Proofs.YtnlieahdakafbaaW.PrintWords Go.Proofs.YtnlieahdakafbaaW.PrintLast Go.Proofs.YtnlieahdakafbaaW.PrintMore
set_option linter.unusedVariables false
set_option linter.unusedSimpArgs false
theorem leHas_l0 (xs:List Int) (hl:xs.length≤1048576) (v:Int) (d:Nat): ∀(k i:Nat),i+d=xs.length→d<k→laws_leHas.l0 k xs v i=some (decide (v∈xs.drop i)):=by
 induction d with
 |zero=>
  intro k i hi hk;obtain ⟨k,rfl⟩: ∃m,k=m+1:=⟨k - 1,by omega⟩;rw [laws_leHas.l0,if_neg (by omega),List.drop_eq_nil_of_le (by omega)];simp
 | succ d ih =>
  intro k i hi hk;obtain ⟨k,rfl⟩: ∃m,k=m+1:=⟨k - 1,by omega⟩;have hlt:i<xs.length:=by omega
  rw [laws_leHas.l0,if_pos (by omega),if_pos (by omega),rd_mem hlt,List.drop_eq_getElem_cons hlt];by_cases c:xs[i]=v
  ·rw [if_pos c];simp [c]
  ·rw [if_neg c, wrap_inc (n := 1048577) (by omega) (by omega) (by omega)]
   have:=ih k (i+1) (by omega) (by omega)
   rw [show ((i+1:Nat):Int)=(i:Int)+1 by omega] at this;rw [this];exact congrArg some (decide_eq_decide.mpr ⟨fun h=>List.mem_cons_of_mem _ h,fun h=>(List.mem_cons.mp h).resolve_left (fun e=>c e.symm)⟩)
theorem leHas_at (xs:List Int) (hl:xs.length≤1048576) (v:Int) (k:Nat) (hk:1048578≤k):laws_leHas.f k xs v=some (decide (v∈xs)):=by
 unfold laws_leHas.f;have:=leHas_l0 xs hl v xs.length k 0 (by omega) (by omega)
 rw [List.drop_zero] at this;exact this
theorem put_cases {cs : Cs} {ws : List Int} {y t o : Int} {cards : List Bool} (hb : Bnd cs ws y t o cards) {W : List Int} (hw : Wlk cs ws W) (m : Mm) (hm : m = ⟨ws, y, t, o, cards, allF cs, W.map (· + 1)⟩)
    (h1: ∀k,4000000≤k→mopen k k cs ws y t o cards=some (some m)) (a b:Int):
    (impl_MemGet.f 5000000 cs ws y t o cards a b=some (0,false)∧∀v,impl_MemPut.f 5000000 cs ws y t o cards a b v=some ([],0,0,0,[],false))∨
    (a - 1∈W∧0≤b∧b≤7∧(∃x,impl_MemGet.f 5000000 cs ws y t o cards a b=some (x,true))∧(∃l,impl_MemPut.f 5000000 cs ws y t o cards a b 0=some (l,y,t,o,cards,true))∧∀v,128≤v→(ws.length:Int)<v→impl_MemPut.f 5000000 cs ws y t o cards a b v=some ([],0,0,0,[],false)):=by
  have n0:=hb.n0;have n1:=hb.n1;have y0:=hb.y0;have y1:=hb.y1;have t0:=hb.t0;have t1:=hb.t1;have o0:=hb.o0;have o1:=hb.o1;have cd:=hb.cd;have hh:=has_eq hw m (by rw [hm]) a;have hP0: ∀v,impl_MemPut.f 5000000 cs ws y t o cards a b v=putOf 5000000 a b v (some m):=fun v=>by unfold impl_MemPut.f;rw [h1 5000000 (by decide),Option.bind_some]
  have hG0:impl_MemGet.f 5000000 cs ws y t o cards a b=getOf 5000000 a b (some m):=by unfold impl_MemGet.f;rw [h1 5000000 (by decide),Option.bind_some]
  have hno:memory_hasIn.f 5000000 m a b=some false→(impl_MemGet.f 5000000 cs ws y t o cards a b=some (0,false)∧∀v,impl_MemPut.f 5000000 cs ws y t o cards a b v=some ([],0,0,0,[],false)):=fun h=>by
    refine ⟨?_,fun v=>?_⟩
    · rw [hG0];unfold getOf;dsimp only;rw [h];rfl
    · rw [hP0];unfold putOf;dsimp only;rw [h];rfl
  by_cases c:a - 1∈W
  case neg=>
    left
    refine hno ?_;unfold memory_hasIn.f;rw [hh 5000000 (by decide),Option.bind_some,decide_eq_false c];rfl
  obtain ⟨cc,hd,cnt,hcc,h0,hhd,hcn,hcn8,hsz,hco,hfi,hhe,hl21,hle,hcl⟩:=thing_facts hb hw m hm c;rw [show a - 1+1=a by omega] at hco hfi hle;by_cases z:0≤b∧b<cnt
  case neg=>
    left
    refine hno ?_;unfold memory_hasIn.f;rw [hh 5000000 (by decide),Option.bind_some,decide_eq_true c,if_pos rfl];by_cases z0:0≤b
    · rw [if_pos z0,hco,Option.bind_some,decide_eq_false (show¬b<cnt by omega)]
    · rw [if_neg z0]
  right
  have hin:memory_hasIn.f 5000000 m a b=some true:=by
    unfold memory_hasIn.f;rw [hh 5000000 (by decide),Option.bind_some,decide_eq_true c,if_pos rfl,if_pos z.1,hco,Option.bind_some,decide_eq_true z.2]
  obtain ⟨i,hii⟩: ∃i,i=a - 1+hd+b:=⟨_,rfl⟩;have hmem:m.words=ws∧m.young=y∧m.top=t∧m.old=o∧m.cards=cards:=by rw [hm];exact ⟨rfl,rfl,rfl,rfl,rfl⟩
  obtain ⟨m0,m1,m2,m3,m4⟩:=hmem
  have hQ: ∀v,memory_put.f 5000000 m a b v=if ldB cs cc b=true then
      (if v=0 then some (true,m.setW i v) else (memory_has.f 5000000 m v).bind fun h=>if h=true then
        (if a>y then (if v>y then some (true,m.setW i v) else (if 0≤Int.tdiv (i - y) 4∧Int.tdiv (i - y) 4<(cards.length:Int) then some (true,(m.setC (Int.tdiv (i - y) 4)).setW i v) else none)) else some (true,m.setW i v)) else some (false,m))
      else (impl_isWord.f v).bind fun z=>if z=true then some (true,m.setW i v) else some (false,m):=fun v=>by
    unfold memory_put.f;rw [hfi,Option.bind_some,hle b z.1 (by omega),Option.bind_some,m0,m1,m4,show a - 1+hd+b=i from hii.symm,if_pos (by omega)]
  refine ⟨c,z.1,by omega,⟨rd ws i,?_⟩,⟨ws.set i.toNat 0,?_⟩,fun v v1 v2=>?_⟩
  · rw [hG0]
    unfold getOf memory_get.f
    dsimp only
    rw [hin,Option.bind_some,if_pos rfl,hfi,Option.bind_some,m0,show a - 1+hd+b=i from hii.symm,if_pos (by omega)];rfl
  · rw [hP0]
    unfold putOf
    dsimp only
    rw [hin,Option.bind_some,if_pos rfl,hQ];have hw0:impl_isWord.f 0=some true:=by unfold impl_isWord.f;simp
    by_cases l:ldB cs cc b=true
    · rw [if_pos l, if_pos rfl, Option.bind_some, if_pos rfl]
      unfold Mm.setW;simp [m0,m1,m2,m3,m4]
    · rw [if_neg l, hw0, Option.bind_some, if_pos rfl, Option.bind_some, if_pos rfl]
      unfold Mm.setW;simp [m0,m1,m2,m3,m4]
  · rw [hP0]
    unfold putOf
    dsimp only
    rw [hin,Option.bind_some,if_pos rfl,hQ];by_cases l:ldB cs cc b=true
    · have hv := has_eq hw m (by rw [hm]) v 5000000 (by decide)
      rw [if_pos l,if_neg (by omega),hv,Option.bind_some,decide_eq_false (show¬v - 1∈W from fun hx=>by have:=wlk_range hw hx;omega)];rfl
    · have hw8 : impl_isWord.f v = some false := by
        unfold impl_isWord.f;rw [if_pos (show v≥ -128 by omega)];simp [show¬v≤127 by omega]
      rw [if_neg l,hw8];rfl
theorem putnone_eq {cs:Cs} (hf:fewF cs) {ws:List Int} {y t o:Int} {cards:List Bool} (hn:ws.length≤1000) (hc:cards.length≤1000) (a b v:Int):
  ∃ (p1 : List Int) (p2 p3 p4 : Int) (p5 : List Bool) (p6 bo : Bool), impl_MemPut.f 5000000 cs ws y t o cards a b v = some (p1, p2, p3, p4, p5, p6) ∧ spec_MemPut.f 5000000 cs ws y t o cards a b v = some (p1, p2, p3, p4, p5, p6) ∧ laws_leMem.f 5000000 p1 p2 p3 p4 p5 p1 p2 p3 p4 p5 = some true ∧ spec_MemOk.f 5000000 cs ws y t o cards = some bo ∧
   (bo = true → ∃ (gx : Int) (gg : Bool), impl_MemGet.f 5000000 cs ws y t o cards a b = some (gx, gg) ∧ (∃ (z1 : List Int) (z2 z3 z4 : Int) (z5 : List Bool), impl_MemPut.f 5000000 cs ws y t o cards a b 0 = some (z1, z2, z3, z4, z5, gg)) ∧
    impl_MemPut.f 5000000 cs ws y t o cards a 9 0=some ([],0,0,0,[],false)∧impl_MemPut.f 5000000 cs ws y t o cards a (-1) 0=some ([],0,0,0,[],false)∧impl_MemPut.f 5000000 cs ws y t o cards a b (167+(ws.length:Int))=some ([],0,0,0,[],false)∧
    (p6=true→gg=true)∧∃s:List Int,s.length≤200∧impl_MemWalk.f 5000000 cs ws y t o cards=some s∧(gg=true→laws_leHas.f 5000000 s a=some true)):=by
 obtain ⟨⟨p1,p2,p3,p4,p5,p6⟩,l1,l5,e1,e2⟩:=MemPut_eq (cs:=cs) hf (ws:=ws) (y:=y) (t:=t) (o:=o) (cards:=cards) (by omega) (by omega) a b v;obtain ⟨r,h1,h2,h3⟩:=open_eq2 (cs:=cs) hf (ws:=ws) (y:=y) (t:=t) (o:=o) (cards:=cards) (by omega) (by omega);dsimp only at l1 l5;refine ⟨p1,p2,p3,p4,p5,p6,r.isSome,e1 5000000 (by decide),e2 5000000 (by decide),leMem_at p1 p2 p3 p4 p5 l1 l5 5000000 (by decide),h2 5000000 (by decide),fun hr=>?_⟩
 cases r with
 |none=>simp at hr
 | some m =>
  obtain ⟨W,hb,hw,hm,hk,hp,_,_⟩:=h3 m rfl
  have hs:impl_MemWalk.f 5000000 cs ws y t o cards=some (W.map (· +1)):=by
   unfold impl_MemWalk.f;rw [h1 5000000 (by decide),Option.bind_some,hm];rfl
  have k9:impl_MemPut.f 5000000 cs ws y t o cards a 9 0=some ([],0,0,0,[],false):=by
   rcases put_cases hb hw m hm h1 a 9 with h|h
   ·exact h.2 0
   ·omega
  have k1:impl_MemPut.f 5000000 cs ws y t o cards a (-1) 0=some ([],0,0,0,[],false):=by
   rcases put_cases hb hw m hm h1 a (-1) with h|h
   ·exact h.2 0
   ·omega
  have hwl:(W.map (· +1)).length≤200:=by rw [List.length_map];exact hw.len
  rcases put_cases hb hw m hm h1 a b with ⟨g,h⟩|⟨c,z0,z1,⟨x,g⟩,⟨l,h⟩,hlg⟩
  ·refine ⟨0, false, g, ⟨[], 0, 0, 0, [], h 0⟩, k9, k1, h _, fun hp6 => ?_, W.map (· + 1), hwl, hs, fun h => by cases h⟩
   have:=e1 5000000 (by decide)
   rw [h v] at this;simp only [Option.some.injEq,Prod.mk.injEq] at this;rw [hp6] at this;exact this.2.2.2.2.2
  ·refine ⟨x, true, g, ⟨l, y, t, o, cards, h⟩, k9, k1, hlg _ (by omega) (by omega), fun _ => rfl, W.map (· + 1), hwl, hs, fun _ => ?_⟩
   rw [leHas_at _ (by omega) a 5000000 (by decide),decide_eq_true ((mem_map1 W a).mpr c)]
end Go.Proofs.Ytnlieahdakafbaa.Pure
namespace Go.Proofs.Ytnlieahdakafbaa.K
open Go.RowKit Go.Proofs.YtnlieahdakafbaaW.PrintWords Go.Proofs.YtnlieahdakafbaaW.PrintLast Go.Proofs.YtnlieahdakafbaaW.PrintMore
attribute [local go_sem] max2_int min2_int max_two min_two max_three min_three max_four min_four
set_option linter.unusedVariables false
set_option linter.unusedSimpArgs false
open Go.Proofs.Ytnlieahdakafbaa.Pure
def laws_FnPutNone.f (l0:List Int):Option Bool:=if (∀x∈l0,(Lit.int .u8 x).wf=true) then some true else none
set_option maxHeartbeats 32000000 in
set_option maxRecDepth 100000 in
theorem laws_FnPutNone.calls (AC:Option Addr) (cC:Nat) (lC:List Int) (r:Bool) (w:World) (hr_:Aside0 (r=true)) (hr0:Kd.C (Kd.int .u8) w AC lC.length lC) (hc0:lC.length≤cC) (h:laws_FnPutNone.f lC=some r):
  Calls Try.prog 3 #[.slice AC lC.length cC] w fun e w'=>e= .returned (.bool r)∧Below w.heap.size w w':=by
 obtain rfl:=hr_.out;unfold laws_FnPutNone.f at h
 split at h
 case isFalse=>simp at h
 case isTrue hl=>
 clear h hr_;have HR0:=aK hr0;have HC0:=aK hc0;have HL:=aK hl;clear hr0 hc0 hl;by_cases c1:1048576<(lC.length:Int)
 ·have d1 : decide (1048576 < (lC.length : Int)) = true := decide_eq_true c1
  go_enter Try.func3,Try.ntmps3;go_wp2;go_ret;exact ⟨rfl,by first|exact Below.refl _ _|exact below_drew1 (Below.refl _ _)⟩
 have d1:decide (1048576<(lC.length:Int))=false:=decide_eq_false c1
 clear c1;go_enter Try.func3,Try.ntmps3
 go_wp2_with (go_at_call 10;refine Classical.byContradiction (fun hng=>?_))
 refine hng ?_;clear hng;refine (memput_any AC cC lC _ HR0.out HC0.out HL.out).mono ?_;rintro e w1 ⟨A5,c5,A0,c0,A4,c4,cs,ws,y,t,o,cards,a,b,_,⟨v,rfl⟩,rfl,hd,hb⟩;have HD1:=aK (hd.bound.mono (ok':=fun k=>k<w1.heap.size) (fun k hk=>hk.2));have HB1:=aK hb;clear hd hb HR0 HC0 HL d1
 go_wp2_with ((with_reducible refine gate_dst (N:=4) rfl ?_);refine Classical.byContradiction (fun hng=>?_))
 refine hng ?_;clear hng;refine box_event ?hg (N:=4) ?hd (cs:= #[.slice none 0 0,.int .i64 0,.int .i64 0,.int .i64 0,.slice none 0 0]) (t:=27) ?hr ?_
 (case hd=>rfl)
 (case hg=>rfl)
 (case hr=>first|(go_simp;done)|(go_simp;rfl))
 intro gm hg w2 hbox hb;have BM2:=aK hbox;have HD2:=aK ((HD1.out.below hb).mono (ok':=fun k=>k<gm) (fun k hk=>by rw [hg];exact hk));have HB2:=aK (below_step HB1.out hb);have HGm:=aK (show w.heap.size≤gm by rw [hg];exact below_size HB1.out);clear hb hbox hg HD1 HB1;have qc0:=(blk_cell BM2.out 0).trans rfl;have qc1:=(blk_cell BM2.out 1).trans rfl;have qc2:=(blk_cell BM2.out 2).trans rfl;have qc3:=(blk_cell BM2.out 3).trans rfl;have qc4:=(blk_cell BM2.out 4).trans rfl;have qf0:=blk_frozen BM2.out 0;have qf1:=blk_frozen BM2.out 1;have qf2:=blk_frozen BM2.out 2;have qf3:=blk_frozen BM2.out 3;have qf4:=blk_frozen BM2.out 4
 go_wp2_with ((with_reducible refine gate_store (t:=27) (p:=4) rfl ?_);refine Classical.byContradiction (fun hng=>?_))
 refine hng ?_;clear hng;refine store_event (t:=27) (p:=4) (v:=?vm1) (w1:=(memBox w2 gm (.slice A0 ws.length c0) (.int .i64 y) (.int .i64 t) (.int .i64 o) (.slice A4 cards.length c4))) ?hg ?ho ?hn ?hr ?_
 (case ho=>rfl)
 (case hg=>rfl)
 (case hn=>rfl)
 (case hr=>first|(go_simp;done)|(go_simp;rfl))
 intro w3 hw;have hc4:Ch (fun k=>k=gm) w2 w3:=by rw [hw];exact (Ch.refl (fun k=>k=gm) _).box5 (.inl rfl) _ _ _ _ _
 have HD:=aK (HD2.out.ch hc4 (fun k hk=>by omega));have BM:=aK (show w3.heap[gm]? =some (.cells #[.slice A0 ws.length c0,.int .i64 y,.int .i64 t,.int .i64 o,.slice A4 cards.length c4] 27 (0,0)) by rw [hw];exact blk_box5 BM2.out);have HB:=aK (HB2.out.trans (hc4.toBelow (B:=w.heap.size) (below_size HB2.out) (fun k hk=>by have:=HGm.out;omega)));clear hw hc4 HD2 HB2 BM2;clear qc0 qc1 qc2 qc3 qc4;clear qf0 qf1 qf2 qf3 qf4;obtain ⟨p1,p2,p3,p4,p5,p6,bo,hp1,hp2,hp3,hp4,hp5⟩:=putnone_eq (cs:=cs) (fewF_few HD.out.l5.2.2) (ws:=ws) (y:=y) (t:=t) (o:=o) (cards:=cards) HD.out.l0.2 HD.out.l4 a b v;have H1:=aK hp1;have H2:=aK hp2;have H3:=aK hp3;have H4:=aK hp4;have H5:=aK hp5;clear hp1 hp2 hp3 hp4 hp5;have q0:=(blk_cell BM.out 0).trans rfl;have q1:=(blk_cell BM.out 1).trans rfl;have q2:=(blk_cell BM.out 2).trans rfl;have q3:=(blk_cell BM.out 3).trans rfl;have q4:=(blk_cell BM.out 4).trans rfl
 go_wp2_with (go_at_call 11;refine Classical.byContradiction (fun hng=>?_))
 refine hng ?_;clear hng;refine (impl_MemPut.calls 5000000 A5 c5 cs A0 c0 ws y t o A4 c4 cards a b v p1 p2 p3 p4 p5 p6 _ HD.out.C5 HD.out.n5 HD.out.C0 HD.out.n0 HD.out.C4 HD.out.n4 H1.out).mono ?_;rintro e w4 ⟨vP0,vP4,rfl,h0_,h4_,hb⟩;clear q0 q1 q2 q3 q4;replace HD:=aK (HD.out.below hb);replace BM:=aK (blk_below BM.out hb);replace HB:=aK (below_step HB.out hb);have HP0:=aK (Kd.R_mono (Kd.R_bound (Kd.R_lower h0_ (Nat.zero_le _))) (ok':=fun k=>k<w4.heap.size) (fun k hk=>hk.2.2.1));have HP4:=aK (Kd.R_mono (Kd.R_bound (Kd.R_lower h4_ (Nat.zero_le _))) (ok':=fun k=>k<w4.heap.size) (fun k hk=>hk.2.2.1));obtain ⟨AP0,cP0,e0_⟩:=Kd.R_slice HP0.out;subst e0_;obtain ⟨AP4,cP4,e4_⟩:=Kd.R_slice HP4.out;subst e4_;clear h0_ h4_ hb
 go_wp2_with ((with_reducible refine gate_dst (N:=8) rfl ?_);refine Classical.byContradiction (fun hng=>?_))
 refine hng ?_;clear hng;refine box_event ?hg (N:=8) ?hd (cs:= #[.slice none 0 0,.int .i64 0,.int .i64 0,.int .i64 0,.slice none 0 0]) (t:=27) ?hr ?_
 (case hd=>rfl)
 (case hg=>rfl)
 (case hr=>first|(go_simp;done)|(go_simp;rfl))
 intro gP hg w5 hbox hb;have HgP:=aK (show gm<gP by rw [hg];exact blk_lt BM.out);replace HD:=aK (HD.out.below hb);replace BM:=aK (blk_below BM.out hb);replace HB:=aK (below_step HB.out hb);replace HP0:=aK (Kd.R_mono (Kd.R_below HP0.out hb) (ok':=fun k=>k<gP) (fun k hk=>by rw [hg];exact hk));replace HP4:=aK (Kd.R_mono (Kd.R_below HP4.out hb) (ok':=fun k=>k<gP) (fun k hk=>by rw [hg];exact hk));have BP:=aK hbox;clear hb hbox hg;have qc0:=(blk_cell BP.out 0).trans rfl;have qc1:=(blk_cell BP.out 1).trans rfl;have qc2:=(blk_cell BP.out 2).trans rfl;have qc3:=(blk_cell BP.out 3).trans rfl;have qc4:=(blk_cell BP.out 4).trans rfl;have qf0:=blk_frozen BP.out 0;have qf1:=blk_frozen BP.out 1;have qf2:=blk_frozen BP.out 2;have qf3:=blk_frozen BP.out 3;have qf4:=blk_frozen BP.out 4
 go_wp2_with ((with_reducible refine gate_store (t:=27) (p:=8) rfl ?_);refine Classical.byContradiction (fun hng=>?_))
 refine hng ?_;clear hng;refine store_event (t:=27) (p:=8) (v:=?vmP) (w1:=(memBox w5 gP (.slice AP0 (p1).length cP0) (.int .i64 p2) (.int .i64 p3) (.int .i64 p4) (.slice AP4 (p5).length cP4))) ?hg ?ho ?hn ?hr ?_
 (case ho=>rfl)
 (case hg=>rfl)
 (case hn=>rfl)
 (case hr=>first|(go_simp;done)|(go_simp;rfl))
 intro w6 hw;have hc:Ch (fun k=>k=gP) w5 w6:=by rw [hw];exact (Ch.refl (fun k=>k=gP) _).box5 (.inl rfl) _ _ _ _ _
 replace HD:=aK (HD.out.ch hc (fun k hk=>by have:=HgP.out;omega));replace BM:=aK (hc.blk BM.out (by have:=HgP.out;omega));replace HB:=aK (HB.out.trans (hc.toBelow (B:=w.heap.size) (below_size HB.out) (fun k hk=>by have:=HgP.out;have:=HGm.out;omega)));replace HP0:=aK (hc.R HP0.out (fun k hk=>by have:=HgP.out;omega));replace HP4:=aK (hc.R HP4.out (fun k hk=>by have:=HgP.out;omega));replace BP:=aK (show w6.heap[gP]? =some (.cells #[.slice AP0 (p1).length cP0,.int .i64 p2,.int .i64 p3,.int .i64 p4,.slice AP4 (p5).length cP4] 27 (0,0)) by rw [hw];exact blk_box5 BP.out);clear hw hc;clear qc0 qc1 qc2 qc3 qc4;clear qf0 qf1 qf2 qf3 qf4;have q0:=(blk_cell BM.out 0).trans rfl;have q1:=(blk_cell BM.out 1).trans rfl;have q2:=(blk_cell BM.out 2).trans rfl;have q3:=(blk_cell BM.out 3).trans rfl;have q4:=(blk_cell BM.out 4).trans rfl
 go_wp2_with (go_at_call 12;refine Classical.byContradiction (fun hng=>?_))
 refine hng ?_;clear hng;refine (spec_MemPut.calls 5000000 A5 c5 cs A0 c0 ws y t o A4 c4 cards a b v p1 p2 p3 p4 p5 p6 _ HD.out.C5 HD.out.n5 HD.out.C0 HD.out.n0 HD.out.C4 HD.out.n4 H2.out).mono ?_;rintro e w7 ⟨vQ0,vQ4,rfl,h0_,h4_,hb⟩;clear q0 q1 q2 q3 q4;replace HD:=aK (HD.out.below hb);replace BM:=aK (blk_below BM.out hb);replace HB:=aK (below_step HB.out hb);replace HP0:=aK (Kd.R_below HP0.out hb);replace HP4:=aK (Kd.R_below HP4.out hb);replace BP:=aK (blk_below BP.out hb);have HQ0:=aK (Kd.R_mono (Kd.R_bound (Kd.R_lower h0_ (Nat.zero_le _))) (ok':=fun k=>k<w7.heap.size) (fun k hk=>hk.2.2.1));have HQ4:=aK (Kd.R_mono (Kd.R_bound (Kd.R_lower h4_ (Nat.zero_le _))) (ok':=fun k=>k<w7.heap.size) (fun k hk=>hk.2.2.1));obtain ⟨AQ0,cQ0,e0_⟩:=Kd.R_slice HQ0.out;subst e0_;obtain ⟨AQ4,cQ4,e4_⟩:=Kd.R_slice HQ4.out;subst e4_;clear h0_ h4_ hb
 go_wp2_with ((with_reducible refine gate_dst (N:=10) rfl ?_);refine Classical.byContradiction (fun hng=>?_))
 refine hng ?_;clear hng;refine box_event ?hg (N:=10) ?hd (cs:= #[.slice none 0 0,.int .i64 0,.int .i64 0,.int .i64 0,.slice none 0 0]) (t:=27) ?hr ?_
 (case hd=>rfl)
 (case hg=>rfl)
 (case hr=>first|(go_simp;done)|(go_simp;rfl))
 intro gQ hg w8 hbox hb;have HgQ:=aK (show gm<gQ∧gP<gQ by rw [hg];exact ⟨blk_lt BM.out,blk_lt BP.out⟩);replace HD:=aK (HD.out.below hb);replace BM:=aK (blk_below BM.out hb);replace HB:=aK (below_step HB.out hb);replace HP0:=aK (Kd.R_below HP0.out hb);replace HP4:=aK (Kd.R_below HP4.out hb);replace BP:=aK (blk_below BP.out hb);replace HQ0:=aK (Kd.R_mono (Kd.R_below HQ0.out hb) (ok':=fun k=>k<gQ) (fun k hk=>by rw [hg];exact hk));replace HQ4:=aK (Kd.R_mono (Kd.R_below HQ4.out hb) (ok':=fun k=>k<gQ) (fun k hk=>by rw [hg];exact hk));have BQ:=aK hbox;clear hb hbox hg;have qc0:=(blk_cell BQ.out 0).trans rfl;have qc1:=(blk_cell BQ.out 1).trans rfl;have qc2:=(blk_cell BQ.out 2).trans rfl;have qc3:=(blk_cell BQ.out 3).trans rfl;have qc4:=(blk_cell BQ.out 4).trans rfl;have qf0:=blk_frozen BQ.out 0;have qf1:=blk_frozen BQ.out 1;have qf2:=blk_frozen BQ.out 2;have qf3:=blk_frozen BQ.out 3;have qf4:=blk_frozen BQ.out 4
 go_wp2_with ((with_reducible refine gate_store (t:=27) (p:=10) rfl ?_);refine Classical.byContradiction (fun hng=>?_))
 refine hng ?_;clear hng;refine store_event (t:=27) (p:=10) (v:=?vmQ) (w1:=(memBox w8 gQ (.slice AQ0 (p1).length cQ0) (.int .i64 p2) (.int .i64 p3) (.int .i64 p4) (.slice AQ4 (p5).length cQ4))) ?hg ?ho ?hn ?hr ?_
 (case ho=>rfl)
 (case hg=>rfl)
 (case hn=>rfl)
 (case hr=>first|(go_simp;done)|(go_simp;rfl))
 intro w9 hw;have hc:Ch (fun k=>k=gQ) w8 w9:=by rw [hw];exact (Ch.refl (fun k=>k=gQ) _).box5 (.inl rfl) _ _ _ _ _
 replace HD:=aK (HD.out.ch hc (fun k hk=>by have:=HgQ.out;omega));replace BM:=aK (hc.blk BM.out (by have:=HgQ.out;omega));replace HB:=aK (HB.out.trans (hc.toBelow (B:=w.heap.size) (below_size HB.out) (fun k hk=>by have:=HgQ.out;have:=HGm.out;omega)));replace HP0:=aK (hc.R HP0.out (fun k hk=>by have:=HgQ.out;omega));replace HP4:=aK (hc.R HP4.out (fun k hk=>by have:=HgQ.out;omega));replace BP:=aK (hc.blk BP.out (by have:=HgQ.out;omega));replace HQ0:=aK (hc.R HQ0.out (fun k hk=>by have:=HgQ.out;omega));replace HQ4:=aK (hc.R HQ4.out (fun k hk=>by have:=HgQ.out;omega));replace BQ:=aK (show w9.heap[gQ]? =some (.cells #[.slice AQ0 (p1).length cQ0,.int .i64 p2,.int .i64 p3,.int .i64 p4,.slice AQ4 (p5).length cQ4] 27 (0,0)) by rw [hw];exact blk_box5 BQ.out);clear hw hc;clear qc0 qc1 qc2 qc3 qc4;clear qf0 qf1 qf2 qf3 qf4;have x0:=(blk_cell BP.out 0).trans rfl;have x1:=(blk_cell BP.out 1).trans rfl;have x2:=(blk_cell BP.out 2).trans rfl;have x3:=(blk_cell BP.out 3).trans rfl;have x4:=(blk_cell BP.out 4).trans rfl;have z0:=(blk_cell BQ.out 0).trans rfl;have z1:=(blk_cell BQ.out 1).trans rfl;have z2:=(blk_cell BQ.out 2).trans rfl;have z3:=(blk_cell BQ.out 3).trans rfl;have z4:=(blk_cell BQ.out 4).trans rfl
 go_wp2_with (go_at_call 13;refine Classical.byContradiction (fun hng=>?_))
 refine hng ?_;clear hng;refine (laws_leMem.calls 5000000 AP0 cP0 p1 p2 p3 p4 AP4 cP4 p5 AQ0 cQ0 p1 p2 p3 p4 AQ4 cQ4 p5 true _ (Kd.R_reads' HP0.out).2.2 (Kd.R_reads' HP0.out).2.1 (Kd.R_reads' HP4.out).2.2 (Kd.R_reads' HP4.out).2.1 (Kd.R_reads' HQ0.out).2.2 (Kd.R_reads' HQ0.out).2.1 (Kd.R_reads' HQ4.out).2.2 (Kd.R_reads' HQ4.out).2.1 H3.out).mono ?_;rintro e w10 ⟨rfl,hb⟩;clear x0 x1 x2 x3 x4;clear z0 z1 z2 z3 z4;replace HD:=aK (HD.out.below hb);replace BM:=aK (blk_below BM.out hb);replace HB:=aK (below_step HB.out hb);replace HP0:=aK (Kd.R_below HP0.out hb);replace HP4:=aK (Kd.R_below HP4.out hb);replace BP:=aK (blk_below BP.out hb);replace HQ0:=aK (Kd.R_below HQ0.out hb);replace HQ4:=aK (Kd.R_below HQ4.out hb);replace BQ:=aK (blk_below BQ.out hb);clear hb
 cases bo with
 |false=>
  have q0:=(blk_cell BM.out 0).trans rfl;have q1:=(blk_cell BM.out 1).trans rfl;have q2:=(blk_cell BM.out 2).trans rfl;have q3:=(blk_cell BM.out 3).trans rfl;have q4:=(blk_cell BM.out 4).trans rfl
  go_wp2_with (go_at_call 14;refine Classical.byContradiction (fun hng=>?_))
  refine hng ?_;clear hng;refine (spec_MemOk.calls 5000000 A5 c5 cs A0 c0 ws y t o A4 c4 cards false _ HD.out.C5 HD.out.n5 HD.out.C0 HD.out.n0 HD.out.C4 HD.out.n4 H4.out).mono ?_;rintro e w11 ⟨rfl,hb⟩;clear q0 q1 q2 q3 q4;replace HD:=aK (HD.out.below hb);replace BM:=aK (blk_below BM.out hb);replace HB:=aK (below_step HB.out hb);replace HP0:=aK (Kd.R_below HP0.out hb);replace HP4:=aK (Kd.R_below HP4.out hb);replace BP:=aK (blk_below BP.out hb);replace HQ0:=aK (Kd.R_below HQ0.out hb);replace HQ4:=aK (Kd.R_below HQ4.out hb);replace BQ:=aK (blk_below BQ.out hb);clear hb;have x0:=(blk_cell BP.out 0).trans rfl;have x1:=(blk_cell BP.out 1).trans rfl;have x2:=(blk_cell BP.out 2).trans rfl;have x3:=(blk_cell BP.out 3).trans rfl;have x4:=(blk_cell BP.out 4).trans rfl;have z0:=(blk_cell BQ.out 0).trans rfl;have z1:=(blk_cell BQ.out 1).trans rfl;have z2:=(blk_cell BQ.out 2).trans rfl;have z3:=(blk_cell BQ.out 3).trans rfl;have z4:=(blk_cell BQ.out 4).trans rfl
  go_wp2_with (go_at_call 13;refine Classical.byContradiction (fun hng=>?_))
  refine hng ?_;clear hng;refine (laws_leMem.calls 5000000 AP0 cP0 p1 p2 p3 p4 AP4 cP4 p5 AQ0 cQ0 p1 p2 p3 p4 AQ4 cQ4 p5 true _ (Kd.R_reads' HP0.out).2.2 (Kd.R_reads' HP0.out).2.1 (Kd.R_reads' HP4.out).2.2 (Kd.R_reads' HP4.out).2.1 (Kd.R_reads' HQ0.out).2.2 (Kd.R_reads' HQ0.out).2.1 (Kd.R_reads' HQ4.out).2.2 (Kd.R_reads' HQ4.out).2.1 H3.out).mono ?_;rintro e w12 ⟨rfl,hb⟩;clear x0 x1 x2 x3 x4;clear z0 z1 z2 z3 z4;replace HD:=aK (HD.out.below hb);replace BM:=aK (blk_below BM.out hb);replace HB:=aK (below_step HB.out hb);replace HP0:=aK (Kd.R_below HP0.out hb);replace HP4:=aK (Kd.R_below HP4.out hb);replace BP:=aK (blk_below BP.out hb);replace HQ0:=aK (Kd.R_below HQ0.out hb);replace HQ4:=aK (Kd.R_below HQ4.out hb);replace BQ:=aK (blk_below BQ.out hb);clear hb;go_wp2;go_ret;exact ⟨by simp,by first|exact HB.out|exact below_drew1 HB.out⟩
 | true =>
  have q0:=(blk_cell BM.out 0).trans rfl;have q1:=(blk_cell BM.out 1).trans rfl;have q2:=(blk_cell BM.out 2).trans rfl;have q3:=(blk_cell BM.out 3).trans rfl;have q4:=(blk_cell BM.out 4).trans rfl
  go_wp2_with (go_at_call 14;refine Classical.byContradiction (fun hng=>?_))
  refine hng ?_;clear hng;refine (spec_MemOk.calls 5000000 A5 c5 cs A0 c0 ws y t o A4 c4 cards true _ HD.out.C5 HD.out.n5 HD.out.C0 HD.out.n0 HD.out.C4 HD.out.n4 H4.out).mono ?_;rintro e w11 ⟨rfl,hb⟩;clear q0 q1 q2 q3 q4;replace HD:=aK (HD.out.below hb);replace BM:=aK (blk_below BM.out hb);replace HB:=aK (below_step HB.out hb);replace HP0:=aK (Kd.R_below HP0.out hb);replace HP4:=aK (Kd.R_below HP4.out hb);replace BP:=aK (blk_below BP.out hb);replace HQ0:=aK (Kd.R_below HQ0.out hb);replace HQ4:=aK (Kd.R_below HQ4.out hb);replace BQ:=aK (blk_below BQ.out hb);clear hb;clear BP BQ HP0 HP4 HQ0 HQ4;obtain ⟨gx,gg,hget,⟨z1,z2,z3,z4,z5,hz⟩,hk9,hk1,hlg,hpg,s,hs0,hs,hl⟩:=H5.out (by trivial);have G0:=aK hget;have G1:=aK hz;have G2:=aK hk9;have G3:=aK hk1;have G4:=aK hlg;have G5:=aK hpg;have G6:=aK hs;have G7:=aK hl;have u1:IntKind.i64.wrap (167+(ws.length:Int))=167+(ws.length:Int):=IntWalk.i64_in _ (by have:=HD.out.l0;omega)
  clear hget hz hk9 hk1 hlg hpg hs hl hs0 H5;have q0:=(blk_cell BM.out 0).trans rfl;have q1:=(blk_cell BM.out 1).trans rfl;have q2:=(blk_cell BM.out 2).trans rfl;have q3:=(blk_cell BM.out 3).trans rfl;have q4:=(blk_cell BM.out 4).trans rfl
  go_wp2_with (go_at_call 11;refine Classical.byContradiction (fun hng=>?_))
  refine hng ?_;clear hng;refine (impl_MemPut.calls 5000000 A5 c5 cs A0 c0 ws y t o A4 c4 cards a b 0 z1 z2 z3 z4 z5 gg _ HD.out.C5 HD.out.n5 HD.out.C0 HD.out.n0 HD.out.C4 HD.out.n4 G1.out).mono ?_;rintro e w12 ⟨vZ0,vZ4,rfl,h0_,h4_,hb⟩;clear q0 q1 q2 q3 q4;replace HD:=aK (HD.out.below hb);replace BM:=aK (blk_below BM.out hb);replace HB:=aK (below_step HB.out hb);have HZ0:=aK (Kd.R_mono (Kd.R_bound (Kd.R_lower h0_ (Nat.zero_le _))) (ok':=fun k=>k<w12.heap.size) (fun k hk=>hk.2.2.1));have HZ4:=aK (Kd.R_mono (Kd.R_bound (Kd.R_lower h4_ (Nat.zero_le _))) (ok':=fun k=>k<w12.heap.size) (fun k hk=>hk.2.2.1));obtain ⟨AZ0,cZ0,e0_⟩:=Kd.R_slice HZ0.out;subst e0_;obtain ⟨AZ4,cZ4,e4_⟩:=Kd.R_slice HZ4.out;subst e4_;clear h0_ h4_ hb
  go_wp2_with ((with_reducible refine gate_dst (N:=12) rfl ?_);refine Classical.byContradiction (fun hng=>?_))
  refine hng ?_;clear hng;refine box_event ?hg (N:=12) ?hd (cs:= #[.slice none 0 0,.int .i64 0,.int .i64 0,.int .i64 0,.slice none 0 0]) (t:=27) ?hr ?_
  (case hd=>rfl)
  (case hg=>rfl)
  (case hr=>first|(go_simp;done)|(go_simp;rfl))
  intro gZ hg w13 hbox hb;have HgZ:=aK (show gm<gZ by rw [hg];exact blk_lt BM.out);replace HD:=aK (HD.out.below hb);replace BM:=aK (blk_below BM.out hb);replace HB:=aK (below_step HB.out hb);replace HZ0:=aK (Kd.R_mono (Kd.R_below HZ0.out hb) (ok':=fun k=>k<gZ) (fun k hk=>by rw [hg];exact hk));replace HZ4:=aK (Kd.R_mono (Kd.R_below HZ4.out hb) (ok':=fun k=>k<gZ) (fun k hk=>by rw [hg];exact hk));have BZ:=aK hbox;clear hb hbox hg;have qc0:=(blk_cell BZ.out 0).trans rfl;have qc1:=(blk_cell BZ.out 1).trans rfl;have qc2:=(blk_cell BZ.out 2).trans rfl;have qc3:=(blk_cell BZ.out 3).trans rfl;have qc4:=(blk_cell BZ.out 4).trans rfl;have qf0:=blk_frozen BZ.out 0;have qf1:=blk_frozen BZ.out 1;have qf2:=blk_frozen BZ.out 2;have qf3:=blk_frozen BZ.out 3;have qf4:=blk_frozen BZ.out 4
  go_wp2_with ((with_reducible refine gate_store (t:=27) (p:=12) rfl ?_);refine Classical.byContradiction (fun hng=>?_))
  refine hng ?_;clear hng;refine store_event (t:=27) (p:=12) (v:=?vmZ) (w1:=(memBox w13 gZ (.slice AZ0 (z1).length cZ0) (.int .i64 z2) (.int .i64 z3) (.int .i64 z4) (.slice AZ4 (z5).length cZ4))) ?hg ?ho ?hn ?hr ?_
  (case ho=>rfl)
  (case hg=>rfl)
  (case hn=>rfl)
  (case hr=>first|(go_simp;done)|(go_simp;rfl))
  intro w14 hw;have hc:Ch (fun k=>k=gZ) w13 w14:=by rw [hw];exact (Ch.refl (fun k=>k=gZ) _).box5 (.inl rfl) _ _ _ _ _
  replace HD:=aK (HD.out.ch hc (fun k hk=>by have:=HgZ.out;omega));replace BM:=aK (hc.blk BM.out (by have:=HgZ.out;omega));replace HB:=aK (HB.out.trans (hc.toBelow (B:=w.heap.size) (below_size HB.out) (fun k hk=>by have:=HgZ.out;have:=HGm.out;omega)));replace HZ0:=aK (hc.R HZ0.out (fun k hk=>by have:=HgZ.out;omega));replace HZ4:=aK (hc.R HZ4.out (fun k hk=>by have:=HgZ.out;omega));replace BZ:=aK (show w14.heap[gZ]? =some (.cells #[.slice AZ0 (z1).length cZ0,.int .i64 z2,.int .i64 z3,.int .i64 z4,.slice AZ4 (z5).length cZ4] 27 (0,0)) by rw [hw];exact blk_box5 BZ.out);clear hw hc;clear qc0 qc1 qc2 qc3 qc4;clear qf0 qf1 qf2 qf3 qf4;clear BZ HZ0 HZ4;have q0:=(blk_cell BM.out 0).trans rfl;have q1:=(blk_cell BM.out 1).trans rfl;have q2:=(blk_cell BM.out 2).trans rfl;have q3:=(blk_cell BM.out 3).trans rfl;have q4:=(blk_cell BM.out 4).trans rfl
  go_wp2_with (go_at_call 15;refine Classical.byContradiction (fun hng=>?_))
  refine hng ?_;clear hng;refine (impl_MemGet.calls 5000000 A5 c5 cs A0 c0 ws y t o A4 c4 cards a b gx gg _ HD.out.C5 HD.out.n5 HD.out.C0 HD.out.n0 HD.out.C4 HD.out.n4 G0.out).mono ?_;rintro e w15 ⟨rfl,hb⟩;clear q0 q1 q2 q3 q4;replace HD:=aK (HD.out.below hb);replace BM:=aK (blk_below BM.out hb);replace HB:=aK (below_step HB.out hb);clear hb;have q0:=(blk_cell BM.out 0).trans rfl;have q1:=(blk_cell BM.out 1).trans rfl;have q2:=(blk_cell BM.out 2).trans rfl;have q3:=(blk_cell BM.out 3).trans rfl;have q4:=(blk_cell BM.out 4).trans rfl
  go_wp2_with (go_at_call 11;refine Classical.byContradiction (fun hng=>?_))
  refine hng ?_;clear hng;refine (impl_MemPut.calls 5000000 A5 c5 cs A0 c0 ws y t o A4 c4 cards a 9 0 [] 0 0 0 [] false _ HD.out.C5 HD.out.n5 HD.out.C0 HD.out.n0 HD.out.C4 HD.out.n4 G2.out).mono ?_;rintro e w16 ⟨vF0,vF4,rfl,h0_,h4_,hb⟩;clear q0 q1 q2 q3 q4;replace HD:=aK (HD.out.below hb);replace BM:=aK (blk_below BM.out hb);replace HB:=aK (below_step HB.out hb);have HF0:=aK (Kd.R_mono (Kd.R_bound (Kd.R_lower h0_ (Nat.zero_le _))) (ok':=fun k=>k<w16.heap.size) (fun k hk=>hk.2.2.1));have HF4:=aK (Kd.R_mono (Kd.R_bound (Kd.R_lower h4_ (Nat.zero_le _))) (ok':=fun k=>k<w16.heap.size) (fun k hk=>hk.2.2.1));obtain ⟨AF0,cF0,e0_⟩:=Kd.R_slice HF0.out;subst e0_;obtain ⟨AF4,cF4,e4_⟩:=Kd.R_slice HF4.out;subst e4_;clear h0_ h4_ hb
  go_wp2_with ((with_reducible refine gate_dst (N:=16) rfl ?_);refine Classical.byContradiction (fun hng=>?_))
  refine hng ?_;clear hng;refine box_event ?hg (N:=16) ?hd (cs:= #[.slice none 0 0,.int .i64 0,.int .i64 0,.int .i64 0,.slice none 0 0]) (t:=27) ?hr ?_
  (case hd=>rfl)
  (case hg=>rfl)
  (case hr=>first|(go_simp;done)|(go_simp;rfl))
  intro gF hg w17 hbox hb;have HgF:=aK (show gm<gF by rw [hg];exact blk_lt BM.out);replace HD:=aK (HD.out.below hb);replace BM:=aK (blk_below BM.out hb);replace HB:=aK (below_step HB.out hb);replace HF0:=aK (Kd.R_mono (Kd.R_below HF0.out hb) (ok':=fun k=>k<gF) (fun k hk=>by rw [hg];exact hk));replace HF4:=aK (Kd.R_mono (Kd.R_below HF4.out hb) (ok':=fun k=>k<gF) (fun k hk=>by rw [hg];exact hk));have BF:=aK hbox;clear hb hbox hg;have qc0:=(blk_cell BF.out 0).trans rfl;have qc1:=(blk_cell BF.out 1).trans rfl;have qc2:=(blk_cell BF.out 2).trans rfl;have qc3:=(blk_cell BF.out 3).trans rfl;have qc4:=(blk_cell BF.out 4).trans rfl;have qf0:=blk_frozen BF.out 0;have qf1:=blk_frozen BF.out 1;have qf2:=blk_frozen BF.out 2;have qf3:=blk_frozen BF.out 3;have qf4:=blk_frozen BF.out 4
  go_wp2_with ((with_reducible refine gate_store (t:=27) (p:=16) rfl ?_);refine Classical.byContradiction (fun hng=>?_))
  refine hng ?_;clear hng;refine store_event (t:=27) (p:=16) (v:=?vmF) (w1:=(memBox w17 gF (.slice AF0 (([]:List Int)).length cF0) (.int .i64 0) (.int .i64 0) (.int .i64 0) (.slice AF4 (([]:List Bool)).length cF4))) ?hg ?ho ?hn ?hr ?_
  (case ho=>rfl)
  (case hg=>rfl)
  (case hn=>rfl)
  (case hr=>first|(go_simp;done)|(go_simp;rfl))
  intro w18 hw;have hc:Ch (fun k=>k=gF) w17 w18:=by rw [hw];exact (Ch.refl (fun k=>k=gF) _).box5 (.inl rfl) _ _ _ _ _
  replace HD:=aK (HD.out.ch hc (fun k hk=>by have:=HgF.out;omega));replace BM:=aK (hc.blk BM.out (by have:=HgF.out;omega));replace HB:=aK (HB.out.trans (hc.toBelow (B:=w.heap.size) (below_size HB.out) (fun k hk=>by have:=HgF.out;have:=HGm.out;omega)));replace HF0:=aK (hc.R HF0.out (fun k hk=>by have:=HgF.out;omega));replace HF4:=aK (hc.R HF4.out (fun k hk=>by have:=HgF.out;omega));replace BF:=aK (show w18.heap[gF]? =some (.cells #[.slice AF0 (([]:List Int)).length cF0,.int .i64 0,.int .i64 0,.int .i64 0,.slice AF4 (([]:List Bool)).length cF4] 27 (0,0)) by rw [hw];exact blk_box5 BF.out);clear hw hc;clear qc0 qc1 qc2 qc3 qc4;clear qf0 qf1 qf2 qf3 qf4;clear BF HF0 HF4;have q0:=(blk_cell BM.out 0).trans rfl;have q1:=(blk_cell BM.out 1).trans rfl;have q2:=(blk_cell BM.out 2).trans rfl;have q3:=(blk_cell BM.out 3).trans rfl;have q4:=(blk_cell BM.out 4).trans rfl
  go_wp2_with (go_at_call 11;refine Classical.byContradiction (fun hng=>?_))
  refine hng ?_;clear hng;refine (impl_MemPut.calls 5000000 A5 c5 cs A0 c0 ws y t o A4 c4 cards a (-1) 0 [] 0 0 0 [] false _ HD.out.C5 HD.out.n5 HD.out.C0 HD.out.n0 HD.out.C4 HD.out.n4 G3.out).mono ?_;rintro e w19 ⟨vU0,vU4,rfl,h0_,h4_,hb⟩;clear q0 q1 q2 q3 q4;replace HD:=aK (HD.out.below hb);replace BM:=aK (blk_below BM.out hb);replace HB:=aK (below_step HB.out hb);have HU0:=aK (Kd.R_mono (Kd.R_bound (Kd.R_lower h0_ (Nat.zero_le _))) (ok':=fun k=>k<w19.heap.size) (fun k hk=>hk.2.2.1));have HU4:=aK (Kd.R_mono (Kd.R_bound (Kd.R_lower h4_ (Nat.zero_le _))) (ok':=fun k=>k<w19.heap.size) (fun k hk=>hk.2.2.1));obtain ⟨AU0,cU0,e0_⟩:=Kd.R_slice HU0.out;subst e0_;obtain ⟨AU4,cU4,e4_⟩:=Kd.R_slice HU4.out;subst e4_;clear h0_ h4_ hb
  go_wp2_with ((with_reducible refine gate_dst (N:=18) rfl ?_);refine Classical.byContradiction (fun hng=>?_))
  refine hng ?_;clear hng;refine box_event ?hg (N:=18) ?hd (cs:= #[.slice none 0 0,.int .i64 0,.int .i64 0,.int .i64 0,.slice none 0 0]) (t:=27) ?hr ?_
  (case hd=>rfl)
  (case hg=>rfl)
  (case hr=>first|(go_simp;done)|(go_simp;rfl))
  intro gU hg w20 hbox hb;have HgU:=aK (show gm<gU by rw [hg];exact blk_lt BM.out);replace HD:=aK (HD.out.below hb);replace BM:=aK (blk_below BM.out hb);replace HB:=aK (below_step HB.out hb);replace HU0:=aK (Kd.R_mono (Kd.R_below HU0.out hb) (ok':=fun k=>k<gU) (fun k hk=>by rw [hg];exact hk));replace HU4:=aK (Kd.R_mono (Kd.R_below HU4.out hb) (ok':=fun k=>k<gU) (fun k hk=>by rw [hg];exact hk));have BU:=aK hbox;clear hb hbox hg;have qc0:=(blk_cell BU.out 0).trans rfl;have qc1:=(blk_cell BU.out 1).trans rfl;have qc2:=(blk_cell BU.out 2).trans rfl;have qc3:=(blk_cell BU.out 3).trans rfl;have qc4:=(blk_cell BU.out 4).trans rfl;have qf0:=blk_frozen BU.out 0;have qf1:=blk_frozen BU.out 1;have qf2:=blk_frozen BU.out 2;have qf3:=blk_frozen BU.out 3;have qf4:=blk_frozen BU.out 4
  go_wp2_with ((with_reducible refine gate_store (t:=27) (p:=18) rfl ?_);refine Classical.byContradiction (fun hng=>?_))
  refine hng ?_;clear hng;refine store_event (t:=27) (p:=18) (v:=?vmU) (w1:=(memBox w20 gU (.slice AU0 (([]:List Int)).length cU0) (.int .i64 0) (.int .i64 0) (.int .i64 0) (.slice AU4 (([]:List Bool)).length cU4))) ?hg ?ho ?hn ?hr ?_
  (case ho=>rfl)
  (case hg=>rfl)
  (case hn=>rfl)
  (case hr=>first|(go_simp;done)|(go_simp;rfl))
  intro w21 hw;have hc:Ch (fun k=>k=gU) w20 w21:=by rw [hw];exact (Ch.refl (fun k=>k=gU) _).box5 (.inl rfl) _ _ _ _ _
  replace HD:=aK (HD.out.ch hc (fun k hk=>by have:=HgU.out;omega));replace BM:=aK (hc.blk BM.out (by have:=HgU.out;omega));replace HB:=aK (HB.out.trans (hc.toBelow (B:=w.heap.size) (below_size HB.out) (fun k hk=>by have:=HgU.out;have:=HGm.out;omega)));replace HU0:=aK (hc.R HU0.out (fun k hk=>by have:=HgU.out;omega));replace HU4:=aK (hc.R HU4.out (fun k hk=>by have:=HgU.out;omega));replace BU:=aK (show w21.heap[gU]? =some (.cells #[.slice AU0 (([]:List Int)).length cU0,.int .i64 0,.int .i64 0,.int .i64 0,.slice AU4 (([]:List Bool)).length cU4] 27 (0,0)) by rw [hw];exact blk_box5 BU.out);clear hw hc;clear qc0 qc1 qc2 qc3 qc4;clear qf0 qf1 qf2 qf3 qf4;clear BU HU0 HU4;have q0:=(blk_cell BM.out 0).trans rfl;have q1:=(blk_cell BM.out 1).trans rfl;have q2:=(blk_cell BM.out 2).trans rfl;have q3:=(blk_cell BM.out 3).trans rfl;have q4:=(blk_cell BM.out 4).trans rfl
  go_wp2_with (go_at_call 11;refine Classical.byContradiction (fun hng=>?_))
  refine hng ?_;clear hng;refine (impl_MemPut.calls 5000000 A5 c5 cs A0 c0 ws y t o A4 c4 cards a b (167+(ws.length:Int)) [] 0 0 0 [] false _ HD.out.C5 HD.out.n5 HD.out.C0 HD.out.n0 HD.out.C4 HD.out.n4 G4.out).mono ?_;rintro e w22 ⟨vV0,vV4,rfl,h0_,h4_,hb⟩;clear q0 q1 q2 q3 q4;replace HD:=aK (HD.out.below hb);replace BM:=aK (blk_below BM.out hb);replace HB:=aK (below_step HB.out hb);have HV0:=aK (Kd.R_mono (Kd.R_bound (Kd.R_lower h0_ (Nat.zero_le _))) (ok':=fun k=>k<w22.heap.size) (fun k hk=>hk.2.2.1));have HV4:=aK (Kd.R_mono (Kd.R_bound (Kd.R_lower h4_ (Nat.zero_le _))) (ok':=fun k=>k<w22.heap.size) (fun k hk=>hk.2.2.1));obtain ⟨AV0,cV0,e0_⟩:=Kd.R_slice HV0.out;subst e0_;obtain ⟨AV4,cV4,e4_⟩:=Kd.R_slice HV4.out;subst e4_;clear h0_ h4_ hb
  go_wp2_with ((with_reducible refine gate_dst (N:=20) rfl ?_);refine Classical.byContradiction (fun hng=>?_))
  refine hng ?_;clear hng;refine box_event ?hg (N:=20) ?hd (cs:= #[.slice none 0 0,.int .i64 0,.int .i64 0,.int .i64 0,.slice none 0 0]) (t:=27) ?hr ?_
  (case hd=>rfl)
  (case hg=>rfl)
  (case hr=>first|(go_simp;done)|(go_simp;rfl))
  intro gV hg w23 hbox hb;have HgV:=aK (show gm<gV by rw [hg];exact blk_lt BM.out);replace HD:=aK (HD.out.below hb);replace BM:=aK (blk_below BM.out hb);replace HB:=aK (below_step HB.out hb);replace HV0:=aK (Kd.R_mono (Kd.R_below HV0.out hb) (ok':=fun k=>k<gV) (fun k hk=>by rw [hg];exact hk));replace HV4:=aK (Kd.R_mono (Kd.R_below HV4.out hb) (ok':=fun k=>k<gV) (fun k hk=>by rw [hg];exact hk));have BV:=aK hbox;clear hb hbox hg;have qc0:=(blk_cell BV.out 0).trans rfl;have qc1:=(blk_cell BV.out 1).trans rfl;have qc2:=(blk_cell BV.out 2).trans rfl;have qc3:=(blk_cell BV.out 3).trans rfl;have qc4:=(blk_cell BV.out 4).trans rfl;have qf0:=blk_frozen BV.out 0;have qf1:=blk_frozen BV.out 1;have qf2:=blk_frozen BV.out 2;have qf3:=blk_frozen BV.out 3;have qf4:=blk_frozen BV.out 4
  go_wp2_with ((with_reducible refine gate_store (t:=27) (p:=20) rfl ?_);refine Classical.byContradiction (fun hng=>?_))
  refine hng ?_;clear hng;refine store_event (t:=27) (p:=20) (v:=?vmV) (w1:=(memBox w23 gV (.slice AV0 (([]:List Int)).length cV0) (.int .i64 0) (.int .i64 0) (.int .i64 0) (.slice AV4 (([]:List Bool)).length cV4))) ?hg ?ho ?hn ?hr ?_
  (case ho=>rfl)
  (case hg=>rfl)
  (case hn=>rfl)
  (case hr=>first|(go_simp;done)|(go_simp;rfl))
  intro w24 hw;have hc:Ch (fun k=>k=gV) w23 w24:=by rw [hw];exact (Ch.refl (fun k=>k=gV) _).box5 (.inl rfl) _ _ _ _ _
  replace HD:=aK (HD.out.ch hc (fun k hk=>by have:=HgV.out;omega));replace BM:=aK (hc.blk BM.out (by have:=HgV.out;omega));replace HB:=aK (HB.out.trans (hc.toBelow (B:=w.heap.size) (below_size HB.out) (fun k hk=>by have:=HgV.out;have:=HGm.out;omega)));replace HV0:=aK (hc.R HV0.out (fun k hk=>by have:=HgV.out;omega));replace HV4:=aK (hc.R HV4.out (fun k hk=>by have:=HgV.out;omega));replace BV:=aK (show w24.heap[gV]? =some (.cells #[.slice AV0 (([]:List Int)).length cV0,.int .i64 0,.int .i64 0,.int .i64 0,.slice AV4 (([]:List Bool)).length cV4] 27 (0,0)) by rw [hw];exact blk_box5 BV.out);clear hw hc;clear qc0 qc1 qc2 qc3 qc4;clear qf0 qf1 qf2 qf3 qf4;clear BV HV0 HV4
  cases gg with
  |false=>
   have hp6:p6=false:=Bool.eq_false_iff.mpr (fun h=>Bool.noConfusion (G5.out h))
   subst hp6;go_wp2;go_ret;exact ⟨by simp,by first|exact HB.out|exact below_drew1 HB.out⟩
  | true =>
   cases p6 with
   |false=>
    have q0:=(blk_cell BM.out 0).trans rfl;have q1:=(blk_cell BM.out 1).trans rfl;have q2:=(blk_cell BM.out 2).trans rfl;have q3:=(blk_cell BM.out 3).trans rfl;have q4:=(blk_cell BM.out 4).trans rfl
    go_wp2_with (go_at_call 17;refine Classical.byContradiction (fun hng=>?_))
    refine hng ?_;clear hng;refine (impl_MemWalk.calls 5000000 A5 c5 cs A0 c0 ws y t o A4 c4 cards s _ HD.out.C5 HD.out.n5 HD.out.C0 HD.out.n0 HD.out.C4 HD.out.n4 G6.out).mono ?_;rintro e w25 ⟨vX,rfl,h_,hb⟩;clear q0 q1 q2 q3 q4;replace HD:=aK (HD.out.below hb);replace BM:=aK (blk_below BM.out hb);replace HB:=aK (below_step HB.out hb);have HX:=aK (Kd.R_mono (Kd.R_lower h_ (Nat.zero_le _)) (ok':=fun _=>True) (fun _ _=>trivial));obtain ⟨AX,cX,e_⟩:=Kd.R_slice HX.out;subst e_;clear h_;clear hb
    go_wp2_with (go_at_call 16;refine Classical.byContradiction (fun hng=>?_))
    refine hng ?_;clear hng;refine (laws_leHas.calls 5000000 AX cX s a true _ (Kd.R_reads' HX.out).2.2 (Kd.R_reads' HX.out).2.1 (G7.out (by trivial))).mono ?_;rintro e w26 ⟨rfl,hb⟩;have hb:=hb.below;replace HD:=aK (HD.out.below hb);replace BM:=aK (blk_below BM.out hb);replace HB:=aK (below_step HB.out hb);replace HX:=aK (Kd.R_below HX.out hb);clear hb;go_wp2;go_ret;exact ⟨by simp,by first|exact HB.out|exact below_drew1 HB.out⟩
   |true=>
    have q0:=(blk_cell BM.out 0).trans rfl;have q1:=(blk_cell BM.out 1).trans rfl;have q2:=(blk_cell BM.out 2).trans rfl;have q3:=(blk_cell BM.out 3).trans rfl;have q4:=(blk_cell BM.out 4).trans rfl
    go_wp2_with (go_at_call 17;refine Classical.byContradiction (fun hng=>?_))
    refine hng ?_;clear hng;refine (impl_MemWalk.calls 5000000 A5 c5 cs A0 c0 ws y t o A4 c4 cards s _ HD.out.C5 HD.out.n5 HD.out.C0 HD.out.n0 HD.out.C4 HD.out.n4 G6.out).mono ?_;rintro e w25 ⟨vX,rfl,h_,hb⟩;clear q0 q1 q2 q3 q4;replace HD:=aK (HD.out.below hb);replace BM:=aK (blk_below BM.out hb);replace HB:=aK (below_step HB.out hb);have HX:=aK (Kd.R_mono (Kd.R_lower h_ (Nat.zero_le _)) (ok':=fun _=>True) (fun _ _=>trivial));obtain ⟨AX,cX,e_⟩:=Kd.R_slice HX.out;subst e_;clear h_;clear hb
    go_wp2_with (go_at_call 16;refine Classical.byContradiction (fun hng=>?_))
    refine hng ?_;clear hng;refine (laws_leHas.calls 5000000 AX cX s a true _ (Kd.R_reads' HX.out).2.2 (Kd.R_reads' HX.out).2.1 (G7.out (by trivial))).mono ?_;rintro e w26 ⟨rfl,hb⟩;have hb:=hb.below;replace HD:=aK (HD.out.below hb);replace BM:=aK (blk_below BM.out hb);replace HB:=aK (below_step HB.out hb);replace HX:=aK (Kd.R_below HX.out hb);clear hb;go_wp2;go_ret;exact ⟨by simp,by first|exact HB.out|exact below_drew1 HB.out⟩
end Go.Proofs.Ytnlieahdakafbaa.K
namespace Go.Proofs.Ytnlieahdakafbaa.K
open Go.RowKit Go.Proofs.YtnlieahdakafbaaW.PrintWords Go.Proofs.YtnlieahdakafbaaW.PrintLast Go.Proofs.YtnlieahdakafbaaW.PrintMore
attribute [local go_sem] max2_int min2_int max_two min_two max_three min_three max_four min_four
set_option linter.unusedVariables false
set_option linter.unusedSimpArgs false
def laws_FnPutNone.Pure:Prop:= ∀(a0:List Int),(GL (fun n:Int=>(Lit.int .u8 n).wf=true)) a0→laws_FnPutNone.f a0=some true
end Go.Proofs.Ytnlieahdakafbaa.K
namespace Go.Proofs.Ytnlieahdakafbaa.Pure
open Go.RowKit Go.Proofs.Ytnlieahdakafbaa.K Go.Proofs.YtnlieahdakafbaaW.PrintWords Go.Proofs.YtnlieahdakafbaaW.PrintLast Go.Proofs.YtnlieahdakafbaaW.PrintMore
set_option linter.unusedVariables false
set_option linter.unusedSimpArgs false
theorem FnPutNone:laws_FnPutNone.Pure:=by
 intro l hl;unfold laws_FnPutNone.f;exact if_pos (show∀x∈l,(Lit.int .u8 x).wf=true from hl.2)
end Go.Proofs.Ytnlieahdakafbaa.Pure
