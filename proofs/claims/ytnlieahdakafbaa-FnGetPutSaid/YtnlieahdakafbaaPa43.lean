import Derived.Test.YtnlieahdakafbaaPa24
import Derived.Test.YtnlieahdakafbaaPa35
import Derived.Test.YtnlieahdakafbaaPa36
import Derived.Test.YtnlieahdakafbaaPa34
import Derived.Test.YtnlieahdakafbaaPa40
import Derived.Test.YtnlieahdakafbaaPa27
import Derived.Test.YtnlieahdakafbaaPa25
import Derived.Test.YtnlieahdakafbaaPa32
import Derived.Test.YtnlieahdakafbaaPa38
namespace Go.Proofs.Ytnlieahdakafbaa.Pure
open Go.RowKit Go.Proofs.Ytnlieahdakafbaa.K Go.Proofs.YtnlieahdakafbaaW.PrintWords Go.Proofs.YtnlieahdakafbaaW.PrintLast Go.Proofs.YtnlieahdakafbaaW.PrintMore
set_option linter.unusedVariables false
set_option linter.unusedSimpArgs false
theorem Opn.at_ne {cs:Cs} {ws:List Int} {y t o:Int} {cards:List Bool} {W:List Int} (h:Opn cs ws y t o cards W) {x z k n:Int} (hx:x∈W) (hz:z∈W) (k0:0≤k) (k1:k<szN cs ws x - hdN (rd ws x)) (n0:0≤n) (n1:n<szN cs ws z - hdN (rd ws z)) (hne:z=x→n≠k):z+hdN (rd ws z)+n≠x+hdN (rd ws x)+k:=by
 obtain ⟨x0,x1,c0,c8,xe,hh,hn2⟩:=h.know hx;obtain ⟨z0,z1,d0,d8,ze,hzh,hz2⟩:=h.know hz;rcases Int.lt_trichotomy x z with q2|q2|q2
 ·have:=h.apart hx hz q2;omega
 ·subst q2;have:=hne rfl;omega
 ·have:=h.apart hz hx q2;omega
theorem getput_eq {cs:Cs} (hf:fewF cs) {ws:List Int} {y t o:Int} {cards:List Bool} (hn:ws.length≤1000) (hc:cards.length≤1000) (a b v:Int):
  ∃ (p1 : List Int) (p2 p3 p4 : Int) (p5 : List Bool) (p6 : Bool), impl_MemPut.f 5000000 cs ws y t o cards a b v = some (p1, p2, p3, p4, p5, p6) ∧ spec_MemPut.f 5000000 cs ws y t o cards a b v = some (p1, p2, p3, p4, p5, p6) ∧ laws_leMem.f 5000000 p1 p2 p3 p4 p5 p1 p2 p3 p4 p5 = some true ∧
   (p6 = true → impl_MemGet.f 5000000 cs p1 p2 p3 p4 p5 a b = some (v, true) ∧ impl_MemOk.f 5000000 cs p1 p2 p3 p4 p5 = some true ∧ ∃ s : List Int, s.length ≤ 200 ∧ 0 < s.length ∧ impl_MemWalk.f 5000000 cs ws y t o cards = some s ∧
    ∀j:Int,0≤j→j<s.length→∀n:Int,∃(ga gb:Int) (gf:Bool),impl_MemGet.f 5000000 cs ws y t o cards (rd s j) n=some (ga,gf)∧impl_MemGet.f 5000000 cs p1 p2 p3 p4 p5 (rd s j) n=some (gb,gf)∧((rd s j=a→n≠b)→ga=gb)):=by
 obtain ⟨⟨p1,p2,p3,p4,p5,p6⟩,l1,l5,e1,e2⟩:=MemPut_eq (cs:=cs) hf (ws:=ws) (y:=y) (t:=t) (o:=o) (cards:=cards) (by omega) (by omega) a b v;obtain ⟨r,h1,h2,h3⟩:=opn_of (cs:=cs) hf (ws:=ws) (y:=y) (t:=t) (o:=o) (cards:=cards) (by omega) (by omega);dsimp only at l1 l5;refine ⟨p1,p2,p3,p4,p5,p6,e1 5000000 (by decide),e2 5000000 (by decide),leMem_at p1 p2 p3 p4 p5 l1 l5 5000000 (by decide),fun hp6=>?_⟩
 cases r with
 |none=>
  have:=e1 5000000 (by decide)
  unfold impl_MemPut.f at this;rw [h1 5000000 (by decide)] at this;simp only [Option.bind_some,putOf,Option.some.injEq,Prod.mk.injEq] at this;rw [hp6] at this;simp at this
 | some m =>
  obtain ⟨W,h,hm,hk⟩:=h3 m rfl;obtain ⟨hi,hv,hp⟩:=put_yes h (e1 5000000 (by decide)) hp6;simp only [Prod.mk.injEq] at hp;obtain ⟨r1,r2,r3,r4,r5,_⟩:=hp;obtain ⟨i,hii⟩: ∃i,i=a - 1+hdN (rd ws (a - 1))+b:=⟨_,rfl⟩;rw [←hii] at r1 r5;obtain ⟨K,hK⟩:=put_keep h hi.1 hi.2.1 hi.2.2 hv hii;obtain ⟨x0,x1,c0,c8,xe,hh,hn2⟩:=h.know hi.1;have hb2:=hi.2;rw [←r1,←r5] at K;rw [←r1] at hK;subst r2 r3 r4
  have hin: ∀z n,InT cs p1 W z n↔InT cs ws W z n:=fun z n=>by
   constructor
   ·intro q;have e:=hK _ q.1;exact ⟨q.1,q.2.1,by have:=q.2.2;rw [e.1,e.2] at this;exact this⟩
   ·intro q;have e:=hK _ q.1;exact ⟨q.1,q.2.1,by rw [e.1,e.2];exact q.2.2⟩
  have hp1:p1=ws.set i.toNat v:=r1
  have hG:=get_in K ((hin a b).mpr hi) 5000000 (by decide);rw [(hK _ hi.1).1,←hii,hp1,rd_set_eq v (by omega) (by omega),←hp1] at hG;have hwl:(W.map (· +1)).length≤200:=by rw [List.length_map];exact h.wlk.len
  refine ⟨hG,ok_imp K 5000000 (by decide),W.map (· +1),hwl,by rw [List.length_map];exact List.length_pos_of_mem hi.1,walk_imp h 5000000 (by decide),fun j j0 j1 n=>?_⟩;rw [List.length_map] at j1;obtain ⟨j,rfl⟩: ∃q:Nat,j=q:=⟨j.toNat,by omega⟩;have hj:j<W.length:=by omega
  have hr:rd (W.map (· +1)) (j:Int)=W[j]+1:=by rw [rd_mem (by rw [List.length_map];exact hj),List.getElem_map]
  rw [hr];have hz:=List.getElem_mem hj;generalize W[j]=z at hz;by_cases c:InT cs ws W (z+1) n
  ·have g1 := get_in h c 5000000 (by decide)
   have g2:=get_in K ((hin _ _).mpr c) 5000000 (by decide);have c2:=c.2;rw [show z+1 - 1=z by omega] at g1 g2 c2;rw [(hK z hz).1] at g2;refine ⟨_,_,true,g1,g2,fun q=>?_⟩;have hne:=h.at_ne hi.1 hz hb2.1 hb2.2 c2.1 c2.2 (fun e=>q (by omega));obtain ⟨z0,z1,d0,d8,ze,hzh,hz2⟩:=h.know hz;rw [←hii] at hne;rw [hp1,rd_set_ne v (by omega) (by omega) hne]
  ·exact ⟨0,0,false,get_out h c 5000000 (by decide),get_out K (fun q=>c ((hin _ _).mp q)) 5000000 (by decide),fun _=>rfl⟩
end Go.Proofs.Ytnlieahdakafbaa.Pure
namespace Go.Proofs.Ytnlieahdakafbaa.K
open Go.RowKit Go.Proofs.YtnlieahdakafbaaW.PrintWords Go.Proofs.YtnlieahdakafbaaW.PrintLast Go.Proofs.YtnlieahdakafbaaW.PrintMore
attribute [local go_sem] max2_int min2_int max_two min_two max_three min_three max_four min_four
set_option linter.unusedVariables false
set_option linter.unusedSimpArgs false
open Go.Proofs.Ytnlieahdakafbaa.Pure
def laws_FnGetPut.f (l0 l1:List Int):Option Bool:=if (∀x∈l0,(Lit.int .u8 x).wf=true) then some true else none
set_option maxHeartbeats 32000000 in
set_option maxRecDepth 100000 in
theorem laws_FnGetPut.calls (AC:Option Addr) (cC:Nat) (lC:List Int) (AD:Option Addr) (cD:Nat) (lD:List Int) (r:Bool) (w:World) (hr_:Aside0 (r=true)) (hr0:Kd.C (Kd.int .u8) w AC lC.length lC) (hc0:lC.length≤cC) (hr1:Kd.C (Kd.int .u8) w AD lD.length lD) (hc1:lD.length≤cD) (h:laws_FnGetPut.f lC lD=some r):
  Calls Try.prog 6 #[.slice AC lC.length cC,.slice AD lD.length cD] w fun e w'=>e= .returned (.bool r)∧Below w.heap.size w w':=by
 obtain rfl:=hr_.out;unfold laws_FnGetPut.f at h
 split at h
 case isFalse=>simp at h
 case isTrue hl=>
 clear h hr_ hr1 hc1;have HR0:=aK hr0;have HC0:=aK hc0;have HL:=aK hl;clear hr0 hc0 hl;by_cases c1:1048576<(lC.length:Int)
 ·have d1 : decide (1048576 < (lC.length : Int)) = true := decide_eq_true c1
  go_enter Try.func6,Try.ntmps6;go_wp2;go_ret;exact ⟨rfl,by first|exact Below.refl _ _|exact below_drew1 (Below.refl _ _)⟩
 have d1:decide (1048576<(lC.length:Int))=false:=decide_eq_false c1
 by_cases c2:1048576<(lD.length:Int)
 ·have d2 : decide (1048576 < (lD.length : Int)) = true := decide_eq_true c2
  go_enter Try.func6,Try.ntmps6;go_wp2;go_ret;exact ⟨rfl,by first|exact Below.refl _ _|exact below_drew1 (Below.refl _ _)⟩
 have d2:decide (1048576<(lD.length:Int))=false:=decide_eq_false c2
 have HD2_:=aK c2;clear c1 c2;go_enter Try.func6,Try.ntmps6
 go_wp2_with (go_at_call 10;refine Classical.byContradiction (fun hng=>?_))
 refine hng ?_;clear hng;refine (memput_any AC cC lC _ HR0.out HC0.out HL.out).mono ?_;rintro e w1 ⟨A5,c5,A0,c0,A4,c4,cs,ws,y,t,o,cards,a,b,_,⟨v,rfl⟩,rfl,hd,hb⟩;have HD1:=aK (hd.bound.mono (ok':=fun k=>k<w1.heap.size) (fun k hk=>hk.2));have HB1:=aK hb;clear hd hb HR0 HC0 HL d1
 go_wp2_with ((with_reducible refine gate_dst (N:=6) rfl ?_);refine Classical.byContradiction (fun hng=>?_))
 refine hng ?_;clear hng;refine box_event ?hg (N:=6) ?hd (cs:= #[.slice none 0 0,.int .i64 0,.int .i64 0,.int .i64 0,.slice none 0 0]) (t:=27) ?hr ?_
 (case hd=>rfl)
 (case hg=>rfl)
 (case hr=>first|(go_simp;done)|(go_simp;rfl))
 intro gm hg w2 hbox hb;have BM2:=aK hbox;have HD2:=aK ((HD1.out.below hb).mono (ok':=fun k=>k<gm) (fun k hk=>by rw [hg];exact hk));have HB2:=aK (below_step HB1.out hb);have HGm:=aK (show w.heap.size≤gm by rw [hg];exact below_size HB1.out);clear hb hbox hg HD1 HB1;have qc0:=(blk_cell BM2.out 0).trans rfl;have qc1:=(blk_cell BM2.out 1).trans rfl;have qc2:=(blk_cell BM2.out 2).trans rfl;have qc3:=(blk_cell BM2.out 3).trans rfl;have qc4:=(blk_cell BM2.out 4).trans rfl;have qf0:=blk_frozen BM2.out 0;have qf1:=blk_frozen BM2.out 1;have qf2:=blk_frozen BM2.out 2;have qf3:=blk_frozen BM2.out 3;have qf4:=blk_frozen BM2.out 4
 go_wp2_with ((with_reducible refine gate_store (t:=27) (p:=6) rfl ?_);refine Classical.byContradiction (fun hng=>?_))
 refine hng ?_;clear hng;refine store_event (t:=27) (p:=6) (v:=?vm1) (w1:=(memBox w2 gm (.slice A0 ws.length c0) (.int .i64 y) (.int .i64 t) (.int .i64 o) (.slice A4 cards.length c4))) ?hg ?ho ?hn ?hr ?_
 (case ho=>rfl)
 (case hg=>rfl)
 (case hn=>rfl)
 (case hr=>first|(go_simp;done)|(go_simp;rfl))
 intro w3 hw;have hc4:Ch (fun k=>k=gm) w2 w3:=by rw [hw];exact (Ch.refl (fun k=>k=gm) _).box5 (.inl rfl) _ _ _ _ _
 have HD:=aK (HD2.out.ch hc4 (fun k hk=>by omega));have BM:=aK (show w3.heap[gm]? =some (.cells #[.slice A0 ws.length c0,.int .i64 y,.int .i64 t,.int .i64 o,.slice A4 cards.length c4] 27 (0,0)) by rw [hw];exact blk_box5 BM2.out);have HB:=aK (HB2.out.trans (hc4.toBelow (B:=w.heap.size) (below_size HB2.out) (fun k hk=>by have:=HGm.out;omega)));clear hw hc4 HD2 HB2 BM2;clear qc0 qc1 qc2 qc3 qc4;clear qf0 qf1 qf2 qf3 qf4;obtain ⟨p1,p2,p3,p4,p5,p6,hp1,hp2,hp3,hp5⟩:=getput_eq (cs:=cs) (fewF_few HD.out.l5.2.2) (ws:=ws) (y:=y) (t:=t) (o:=o) (cards:=cards) HD.out.l0.2 HD.out.l4 a b v;have H1:=aK hp1;have H2:=aK hp2;have H3:=aK hp3;have H5:=aK hp5;clear hp1 hp2 hp3 hp5;have q0:=(blk_cell BM.out 0).trans rfl;have q1:=(blk_cell BM.out 1).trans rfl;have q2:=(blk_cell BM.out 2).trans rfl;have q3:=(blk_cell BM.out 3).trans rfl;have q4:=(blk_cell BM.out 4).trans rfl
 go_wp2_with (go_at_call 11;refine Classical.byContradiction (fun hng=>?_))
 refine hng ?_;clear hng;refine (impl_MemPut.calls 5000000 A5 c5 cs A0 c0 ws y t o A4 c4 cards a b v p1 p2 p3 p4 p5 p6 _ HD.out.C5 HD.out.n5 HD.out.C0 HD.out.n0 HD.out.C4 HD.out.n4 H1.out).mono ?_;rintro e w4 ⟨vP0,vP4,rfl,h0_,h4_,hb⟩;clear q0 q1 q2 q3 q4;replace HD:=aK (HD.out.below hb);replace BM:=aK (blk_below BM.out hb);replace HB:=aK (below_step HB.out hb);have HP0:=aK (Kd.R_mono (Kd.R_bound (Kd.R_lower h0_ (Nat.zero_le _))) (ok':=fun k=>k<w4.heap.size) (fun k hk=>hk.2.2.1));have HP4:=aK (Kd.R_mono (Kd.R_bound (Kd.R_lower h4_ (Nat.zero_le _))) (ok':=fun k=>k<w4.heap.size) (fun k hk=>hk.2.2.1));obtain ⟨AP0,cP0,e0_⟩:=Kd.R_slice HP0.out;subst e0_;obtain ⟨AP4,cP4,e4_⟩:=Kd.R_slice HP4.out;subst e4_;clear h0_ h4_ hb
 go_wp2_with ((with_reducible refine gate_dst (N:=10) rfl ?_);refine Classical.byContradiction (fun hng=>?_))
 refine hng ?_;clear hng;refine box_event ?hg (N:=10) ?hd (cs:= #[.slice none 0 0,.int .i64 0,.int .i64 0,.int .i64 0,.slice none 0 0]) (t:=27) ?hr ?_
 (case hd=>rfl)
 (case hg=>rfl)
 (case hr=>first|(go_simp;done)|(go_simp;rfl))
 intro gP hg w5 hbox hb;have HgP:=aK (show gm<gP by rw [hg];exact blk_lt BM.out);replace HD:=aK (HD.out.below hb);replace BM:=aK (blk_below BM.out hb);replace HB:=aK (below_step HB.out hb);replace HP0:=aK (Kd.R_mono (Kd.R_below HP0.out hb) (ok':=fun k=>k<gP) (fun k hk=>by rw [hg];exact hk));replace HP4:=aK (Kd.R_mono (Kd.R_below HP4.out hb) (ok':=fun k=>k<gP) (fun k hk=>by rw [hg];exact hk));have BP:=aK hbox;clear hb hbox hg;have qc0:=(blk_cell BP.out 0).trans rfl;have qc1:=(blk_cell BP.out 1).trans rfl;have qc2:=(blk_cell BP.out 2).trans rfl;have qc3:=(blk_cell BP.out 3).trans rfl;have qc4:=(blk_cell BP.out 4).trans rfl;have qf0:=blk_frozen BP.out 0;have qf1:=blk_frozen BP.out 1;have qf2:=blk_frozen BP.out 2;have qf3:=blk_frozen BP.out 3;have qf4:=blk_frozen BP.out 4
 go_wp2_with ((with_reducible refine gate_store (t:=27) (p:=10) rfl ?_);refine Classical.byContradiction (fun hng=>?_))
 refine hng ?_;clear hng;refine store_event (t:=27) (p:=10) (v:=?vmP) (w1:=(memBox w5 gP (.slice AP0 (p1).length cP0) (.int .i64 p2) (.int .i64 p3) (.int .i64 p4) (.slice AP4 (p5).length cP4))) ?hg ?ho ?hn ?hr ?_
 (case ho=>rfl)
 (case hg=>rfl)
 (case hn=>rfl)
 (case hr=>first|(go_simp;done)|(go_simp;rfl))
 intro w6 hw;have hc:Ch (fun k=>k=gP) w5 w6:=by rw [hw];exact (Ch.refl (fun k=>k=gP) _).box5 (.inl rfl) _ _ _ _ _
 replace HD:=aK (HD.out.ch hc (fun k hk=>by have:=HgP.out;omega));replace BM:=aK (hc.blk BM.out (by have:=HgP.out;omega));replace HB:=aK (HB.out.trans (hc.toBelow (B:=w.heap.size) (below_size HB.out) (fun k hk=>by have:=HgP.out;have:=HGm.out;omega)));replace HP0:=aK (hc.R HP0.out (fun k hk=>by have:=HgP.out;omega));replace HP4:=aK (hc.R HP4.out (fun k hk=>by have:=HgP.out;omega));replace BP:=aK (show w6.heap[gP]? =some (.cells #[.slice AP0 (p1).length cP0,.int .i64 p2,.int .i64 p3,.int .i64 p4,.slice AP4 (p5).length cP4] 27 (0,0)) by rw [hw];exact blk_box5 BP.out);clear hw hc;clear qc0 qc1 qc2 qc3 qc4;clear qf0 qf1 qf2 qf3 qf4;have q0:=(blk_cell BM.out 0).trans rfl;have q1:=(blk_cell BM.out 1).trans rfl;have q2:=(blk_cell BM.out 2).trans rfl;have q3:=(blk_cell BM.out 3).trans rfl;have q4:=(blk_cell BM.out 4).trans rfl
 go_wp2_with (go_at_call 12;refine Classical.byContradiction (fun hng=>?_))
 refine hng ?_;clear hng;refine (spec_MemPut.calls 5000000 A5 c5 cs A0 c0 ws y t o A4 c4 cards a b v p1 p2 p3 p4 p5 p6 _ HD.out.C5 HD.out.n5 HD.out.C0 HD.out.n0 HD.out.C4 HD.out.n4 H2.out).mono ?_;rintro e w7 ⟨vQ0,vQ4,rfl,h0_,h4_,hb⟩;clear q0 q1 q2 q3 q4;replace HD:=aK (HD.out.below hb);replace BM:=aK (blk_below BM.out hb);replace HB:=aK (below_step HB.out hb);replace HP0:=aK (Kd.R_below HP0.out hb);replace HP4:=aK (Kd.R_below HP4.out hb);replace BP:=aK (blk_below BP.out hb);have HQ0:=aK (Kd.R_mono (Kd.R_bound (Kd.R_lower h0_ (Nat.zero_le _))) (ok':=fun k=>k<w7.heap.size) (fun k hk=>hk.2.2.1));have HQ4:=aK (Kd.R_mono (Kd.R_bound (Kd.R_lower h4_ (Nat.zero_le _))) (ok':=fun k=>k<w7.heap.size) (fun k hk=>hk.2.2.1));obtain ⟨AQ0,cQ0,e0_⟩:=Kd.R_slice HQ0.out;subst e0_;obtain ⟨AQ4,cQ4,e4_⟩:=Kd.R_slice HQ4.out;subst e4_;clear h0_ h4_ hb
 go_wp2_with ((with_reducible refine gate_dst (N:=12) rfl ?_);refine Classical.byContradiction (fun hng=>?_))
 refine hng ?_;clear hng;refine box_event ?hg (N:=12) ?hd (cs:= #[.slice none 0 0,.int .i64 0,.int .i64 0,.int .i64 0,.slice none 0 0]) (t:=27) ?hr ?_
 (case hd=>rfl)
 (case hg=>rfl)
 (case hr=>first|(go_simp;done)|(go_simp;rfl))
 intro gQ hg w8 hbox hb;have HgQ:=aK (show gm<gQ∧gP<gQ by rw [hg];exact ⟨blk_lt BM.out,blk_lt BP.out⟩);replace HD:=aK (HD.out.below hb);replace BM:=aK (blk_below BM.out hb);replace HB:=aK (below_step HB.out hb);replace HP0:=aK (Kd.R_below HP0.out hb);replace HP4:=aK (Kd.R_below HP4.out hb);replace BP:=aK (blk_below BP.out hb);replace HQ0:=aK (Kd.R_mono (Kd.R_below HQ0.out hb) (ok':=fun k=>k<gQ) (fun k hk=>by rw [hg];exact hk));replace HQ4:=aK (Kd.R_mono (Kd.R_below HQ4.out hb) (ok':=fun k=>k<gQ) (fun k hk=>by rw [hg];exact hk));have BQ:=aK hbox;clear hb hbox hg;have qc0:=(blk_cell BQ.out 0).trans rfl;have qc1:=(blk_cell BQ.out 1).trans rfl;have qc2:=(blk_cell BQ.out 2).trans rfl;have qc3:=(blk_cell BQ.out 3).trans rfl;have qc4:=(blk_cell BQ.out 4).trans rfl;have qf0:=blk_frozen BQ.out 0;have qf1:=blk_frozen BQ.out 1;have qf2:=blk_frozen BQ.out 2;have qf3:=blk_frozen BQ.out 3;have qf4:=blk_frozen BQ.out 4
 go_wp2_with ((with_reducible refine gate_store (t:=27) (p:=12) rfl ?_);refine Classical.byContradiction (fun hng=>?_))
 refine hng ?_;clear hng;refine store_event (t:=27) (p:=12) (v:=?vmQ) (w1:=(memBox w8 gQ (.slice AQ0 (p1).length cQ0) (.int .i64 p2) (.int .i64 p3) (.int .i64 p4) (.slice AQ4 (p5).length cQ4))) ?hg ?ho ?hn ?hr ?_
 (case ho=>rfl)
 (case hg=>rfl)
 (case hn=>rfl)
 (case hr=>first|(go_simp;done)|(go_simp;rfl))
 intro w9 hw;have hc:Ch (fun k=>k=gQ) w8 w9:=by rw [hw];exact (Ch.refl (fun k=>k=gQ) _).box5 (.inl rfl) _ _ _ _ _
 replace HD:=aK (HD.out.ch hc (fun k hk=>by have:=HgQ.out;omega));replace BM:=aK (hc.blk BM.out (by have:=HgQ.out;omega));replace HB:=aK (HB.out.trans (hc.toBelow (B:=w.heap.size) (below_size HB.out) (fun k hk=>by have:=HgQ.out;have:=HGm.out;omega)));replace HP0:=aK (hc.R HP0.out (fun k hk=>by have:=HgQ.out;omega));replace HP4:=aK (hc.R HP4.out (fun k hk=>by have:=HgQ.out;omega));replace BP:=aK (hc.blk BP.out (by have:=HgQ.out;omega));replace HQ0:=aK (hc.R HQ0.out (fun k hk=>by have:=HgQ.out;omega));replace HQ4:=aK (hc.R HQ4.out (fun k hk=>by have:=HgQ.out;omega));replace BQ:=aK (show w9.heap[gQ]? =some (.cells #[.slice AQ0 (p1).length cQ0,.int .i64 p2,.int .i64 p3,.int .i64 p4,.slice AQ4 (p5).length cQ4] 27 (0,0)) by rw [hw];exact blk_box5 BQ.out);clear hw hc;clear qc0 qc1 qc2 qc3 qc4;clear qf0 qf1 qf2 qf3 qf4;have x0:=(blk_cell BP.out 0).trans rfl;have x1:=(blk_cell BP.out 1).trans rfl;have x2:=(blk_cell BP.out 2).trans rfl;have x3:=(blk_cell BP.out 3).trans rfl;have x4:=(blk_cell BP.out 4).trans rfl;have z0:=(blk_cell BQ.out 0).trans rfl;have z1:=(blk_cell BQ.out 1).trans rfl;have z2:=(blk_cell BQ.out 2).trans rfl;have z3:=(blk_cell BQ.out 3).trans rfl;have z4:=(blk_cell BQ.out 4).trans rfl
 go_wp2_with (go_at_call 13;refine Classical.byContradiction (fun hng=>?_))
 refine hng ?_;clear hng;refine (laws_leMem.calls 5000000 AP0 cP0 p1 p2 p3 p4 AP4 cP4 p5 AQ0 cQ0 p1 p2 p3 p4 AQ4 cQ4 p5 true _ (Kd.R_reads' HP0.out).2.2 (Kd.R_reads' HP0.out).2.1 (Kd.R_reads' HP4.out).2.2 (Kd.R_reads' HP4.out).2.1 (Kd.R_reads' HQ0.out).2.2 (Kd.R_reads' HQ0.out).2.1 (Kd.R_reads' HQ4.out).2.2 (Kd.R_reads' HQ4.out).2.1 H3.out).mono ?_;rintro e w10 ⟨rfl,hb⟩;clear x0 x1 x2 x3 x4;clear z0 z1 z2 z3 z4;replace HD:=aK (HD.out.below hb);replace BM:=aK (blk_below BM.out hb);replace HB:=aK (below_step HB.out hb);replace HP0:=aK (Kd.R_below HP0.out hb);replace HP4:=aK (Kd.R_below HP4.out hb);replace BP:=aK (blk_below BP.out hb);replace HQ0:=aK (Kd.R_below HQ0.out hb);replace HQ4:=aK (Kd.R_below HQ4.out hb);replace BQ:=aK (blk_below BQ.out hb);clear hb
 cases p6 with
 |false=>
  have x0:=(blk_cell BP.out 0).trans rfl;have x1:=(blk_cell BP.out 1).trans rfl;have x2:=(blk_cell BP.out 2).trans rfl;have x3:=(blk_cell BP.out 3).trans rfl;have x4:=(blk_cell BP.out 4).trans rfl;have z0:=(blk_cell BQ.out 0).trans rfl;have z1:=(blk_cell BQ.out 1).trans rfl;have z2:=(blk_cell BQ.out 2).trans rfl;have z3:=(blk_cell BQ.out 3).trans rfl;have z4:=(blk_cell BQ.out 4).trans rfl
  go_wp2_with (go_at_call 13;refine Classical.byContradiction (fun hng=>?_))
  refine hng ?_;clear hng;refine (laws_leMem.calls 5000000 AP0 cP0 p1 p2 p3 p4 AP4 cP4 p5 AQ0 cQ0 p1 p2 p3 p4 AQ4 cQ4 p5 true _ (Kd.R_reads' HP0.out).2.2 (Kd.R_reads' HP0.out).2.1 (Kd.R_reads' HP4.out).2.2 (Kd.R_reads' HP4.out).2.1 (Kd.R_reads' HQ0.out).2.2 (Kd.R_reads' HQ0.out).2.1 (Kd.R_reads' HQ4.out).2.2 (Kd.R_reads' HQ4.out).2.1 H3.out).mono ?_;rintro e w11 ⟨rfl,hb⟩;clear x0 x1 x2 x3 x4;clear z0 z1 z2 z3 z4;replace HD:=aK (HD.out.below hb);replace BM:=aK (blk_below BM.out hb);replace HB:=aK (below_step HB.out hb);replace HP0:=aK (Kd.R_below HP0.out hb);replace HP4:=aK (Kd.R_below HP4.out hb);replace BP:=aK (blk_below BP.out hb);replace HQ0:=aK (Kd.R_below HQ0.out hb);replace HQ4:=aK (Kd.R_below HQ4.out hb);replace BQ:=aK (blk_below BQ.out hb);clear hb;go_wp2;go_ret;exact ⟨by simp,by first|exact HB.out|exact below_drew1 HB.out⟩
 | true =>
  clear BQ HQ0 HQ4;obtain ⟨hg,ho,s,hs0,hs1,hm,hj⟩:=H5.out (by trivial);have G0:=aK hg;have G1:=aK ho;have G2:=aK hs0;have G3:=aK hs1;have G4:=aK hm;have G5:=aK hj;clear hg ho hs0 hs1 hm hj H5 H1 H2 H3;have x0:=(blk_cell BP.out 0).trans rfl;have x1:=(blk_cell BP.out 1).trans rfl;have x2:=(blk_cell BP.out 2).trans rfl;have x3:=(blk_cell BP.out 3).trans rfl;have x4:=(blk_cell BP.out 4).trans rfl
  go_wp2_with (go_at_call 15;refine Classical.byContradiction (fun hng=>?_))
  refine hng ?_;clear hng;refine (impl_MemGet.calls 5000000 A5 c5 cs AP0 cP0 p1 p2 p3 p4 AP4 cP4 p5 a b v true _ HD.out.C5 HD.out.n5 (Kd.R_reads' HP0.out).2.2 (Kd.R_reads' HP0.out).2.1 (Kd.R_reads' HP4.out).2.2 (Kd.R_reads' HP4.out).2.1 G0.out).mono ?_;rintro e w11 ⟨rfl,hb⟩;clear x0 x1 x2 x3 x4;replace HD:=aK (HD.out.below hb);replace BM:=aK (blk_below BM.out hb);replace HB:=aK (below_step HB.out hb);replace HP0:=aK (Kd.R_below HP0.out hb);replace HP4:=aK (Kd.R_below HP4.out hb);replace BP:=aK (blk_below BP.out hb);clear hb;have x0:=(blk_cell BP.out 0).trans rfl;have x1:=(blk_cell BP.out 1).trans rfl;have x2:=(blk_cell BP.out 2).trans rfl;have x3:=(blk_cell BP.out 3).trans rfl;have x4:=(blk_cell BP.out 4).trans rfl
  go_wp2_with (go_at_call 24;refine Classical.byContradiction (fun hng=>?_))
  refine hng ?_;clear hng;refine (impl_MemOk.calls 5000000 A5 c5 cs AP0 cP0 p1 p2 p3 p4 AP4 cP4 p5 true _ HD.out.C5 HD.out.n5 (Kd.R_reads' HP0.out).2.2 (Kd.R_reads' HP0.out).2.1 (Kd.R_reads' HP4.out).2.2 (Kd.R_reads' HP4.out).2.1 G1.out).mono ?_;rintro e w12 ⟨rfl,hb⟩;clear x0 x1 x2 x3 x4;replace HD:=aK (HD.out.below hb);replace BM:=aK (blk_below BM.out hb);replace HB:=aK (below_step HB.out hb);replace HP0:=aK (Kd.R_below HP0.out hb);replace HP4:=aK (Kd.R_below HP4.out hb);replace BP:=aK (blk_below BP.out hb);clear hb;have q0:=(blk_cell BM.out 0).trans rfl;have q1:=(blk_cell BM.out 1).trans rfl;have q2:=(blk_cell BM.out 2).trans rfl;have q3:=(blk_cell BM.out 3).trans rfl;have q4:=(blk_cell BM.out 4).trans rfl
  go_wp2_with (go_at_call 17;refine Classical.byContradiction (fun hng=>?_))
  refine hng ?_;clear hng;refine (impl_MemWalk.calls 5000000 A5 c5 cs A0 c0 ws y t o A4 c4 cards s _ HD.out.C5 HD.out.n5 HD.out.C0 HD.out.n0 HD.out.C4 HD.out.n4 G4.out).mono ?_;rintro e w13 ⟨vX,rfl,h_,hb⟩;clear q0 q1 q2 q3 q4;replace HD:=aK (HD.out.below hb);replace BM:=aK (blk_below BM.out hb);replace HB:=aK (below_step HB.out hb);replace HP0:=aK (Kd.R_below HP0.out hb);replace HP4:=aK (Kd.R_below HP4.out hb);replace BP:=aK (blk_below BP.out hb);have HX:=aK (Kd.R_mono (Kd.R_lower h_ (Nat.zero_le _)) (ok':=fun _=>True) (fun _ _=>trivial));obtain ⟨AX,cX,e_⟩:=Kd.R_slice HX.out;subst e_;clear h_;clear hb;have hj1:((lD.length%s.length:Nat):Int)<(s.length:Int):=by have:=G3.out;have:=Nat.mod_lt lD.length this;omega
  obtain ⟨gX,cX',eX,_,_,_⟩:=Kd.R_form HX.out (by have:=G3.out;omega);injection eX with a1 a2 a3;subst a1;clear a2 a3;have hcell:=(Kd.R_cell (enc:=Value.int .i64) (h1:=fun _=>rfl) 0 HX.out ((lD.length%s.length:Nat):Int) (by omega) hj1).1;rw [Int.toNat_natCast] at hcell;obtain ⟨x,hx⟩: ∃x,x=rd s ((lD.length%s.length:Nat):Int):=⟨_,rfl⟩;change _=some (Value.int .i64 (rd s ((lD.length%s.length:Nat):Int))) at hcell
  rw [←hx] at hcell;have HN:=aK (fun n:Int=>hx ▸ G5.out ((lD.length%s.length:Nat):Int) (by omega) hj1 n);have r1:=eq_true (show 0≤(lD.length:Int)%(s.length:Int) by omega);have r2:=eq_true (show (lD.length:Int)%(s.length:Int)<(s.length:Int) by omega);have r4:((s.length:Int)==0)=false:=beq_eq_false_iff_ne.mpr (by have:=G3.out;omega)
  have r5: ¬(s.length:Int)=0:=(by have:=G3.out;omega)
  clear hx hj1 G0 G1 G4 G5;go_wp2;have HP0_:=aK (Kd.R_mono HP0.out (ok':=fun _=>True) (fun _ _=>trivial));have HP4_:=aK (Kd.R_mono HP4.out (ok':=fun _=>True) (fun _ _=>trivial));have HD_:=aK (HD.out.mono (ok':=fun _=>True) (fun _ _=>trivial));clear HP0 HP4 HD hcell r1 r2 r4 r5
  go_loopw [18] (fun v18 wr=> ∃n:Nat,v18= .int .i64 (n:Int)∧Aside0 (n≤8)∧Aside0 (Dr wr (fun _=>True) A5 c5 A0 c0 A4 c4 cs ws cards)∧Aside0 (wr.heap[gm]? =some (.cells #[.slice A0 ws.length c0,.int .i64 y,.int .i64 t,.int .i64 o,.slice A4 cards.length c4] 27 (0,0)))∧Aside0 (wr.heap[gP]? =some (.cells #[.slice AP0 p1.length cP0,.int .i64 p2,.int .i64 p3,.int .i64 p4,.slice AP4 p5.length cP4] 27 (0,0)))∧Aside0 (Kd.R (Kd.int .i64) 3 wr 0 (fun _=>True) (.slice AP0 p1.length cP0) p1)∧Aside0 (Kd.R Kd.bool 4 wr 0 (fun _=>True) (.slice AP4 p5.length cP4) p5)∧Aside0 (Below w.heap.size w wr)) (fun v18 _=>8 - (intOf v18).toNat)
  case atStart=>exact ⟨0,rfl,⟨by omega⟩,HD_,BM,BP,HP0_,HP4_,HB⟩
  case round=>
   clear HD_ BM BP HP0_ HP4_ HB;obtain ⟨n,rfl,HNl,HD,BM,BP,HP0,HP4,HB⟩:=hrel;by_cases cx:(n:Int)<8
   ·have d0 : decide ((n : Int) < 8) = true := decide_eq_true cx
    have HN1:=aK (show n<8 by omega);obtain ⟨ga,gb,gf,g1,g2,g3⟩:=HN.out (n:Int);have G1:=aK g1;have G2:=aK g2;have G3:=aK g3;clear g1 g2 g3 cx;obtain ⟨nn,hnn⟩: ∃z:Int,z=(n:Int):=⟨_,rfl⟩;rw [←hnn] at d0 G1 G2 G3 ⊢;have HNN:=aK hnn;clear hnn;have q0:=(blk_cell BM.out 0).trans rfl;have q1:=(blk_cell BM.out 1).trans rfl;have q2:=(blk_cell BM.out 2).trans rfl;have q3:=(blk_cell BM.out 3).trans rfl;have q4:=(blk_cell BM.out 4).trans rfl
    go_wp2_with (go_at_call 15;refine Classical.byContradiction (fun hng=>?_))
    refine hng ?_;clear hng;refine (impl_MemGet.calls 5000000 A5 c5 cs A0 c0 ws y t o A4 c4 cards x nn ga gf _ HD.out.C5 HD.out.n5 HD.out.C0 HD.out.n0 HD.out.C4 HD.out.n4 G1.out).mono ?_;rintro e w61 ⟨rfl,hb⟩;clear q0 q1 q2 q3 q4;replace HD:=aK (HD.out.below hb);replace BM:=aK (blk_below BM.out hb);replace HB:=aK (below_step HB.out hb);replace BP:=aK (blk_below BP.out hb);replace HP0:=aK (Kd.R_below HP0.out hb);replace HP4:=aK (Kd.R_below HP4.out hb);clear hb;have x0:=(blk_cell BP.out 0).trans rfl;have x1:=(blk_cell BP.out 1).trans rfl;have x2:=(blk_cell BP.out 2).trans rfl;have x3:=(blk_cell BP.out 3).trans rfl;have x4:=(blk_cell BP.out 4).trans rfl
    go_wp2_with (go_at_call 15;refine Classical.byContradiction (fun hng=>?_))
    refine hng ?_;clear hng;refine (impl_MemGet.calls 5000000 A5 c5 cs AP0 cP0 p1 p2 p3 p4 AP4 cP4 p5 x nn gb gf _ HD.out.C5 HD.out.n5 (Kd.R_reads' HP0.out).2.2 (Kd.R_reads' HP0.out).2.1 (Kd.R_reads' HP4.out).2.2 (Kd.R_reads' HP4.out).2.1 G2.out).mono ?_;rintro e w62 ⟨rfl,hb⟩;clear x0 x1 x2 x3 x4;replace HD:=aK (HD.out.below hb);replace BM:=aK (blk_below BM.out hb);replace HB:=aK (below_step HB.out hb);replace BP:=aK (blk_below BP.out hb);replace HP0:=aK (Kd.R_below HP0.out hb);replace HP4:=aK (Kd.R_below HP4.out hb);clear hb;by_cases ca:x=a
    ·subst ca
     by_cases cb:nn=b
     ·subst cb
      clear G3;have hw:IntKind.i64.wrap (nn+1)=nn+1:=IntWalk.i64_in _ (by have:=HN1.out;have:=HNN.out;omega)
      go_wp2
      go_roundw
      case rel=>exact ⟨n+1,by rw [HNN.out];rfl,⟨by have:=HN1.out;omega⟩,HD,BM,BP,HP0,HP4,HB⟩
      case measure=>have:=HN1.out;have:=HNN.out;simp only [intOf];omega
     ·have e2 : (nn == b) = false := beq_eq_false_iff_ne.mpr cb
      have e2':decide (nn=b)=false:=decide_eq_false cb
      have f2:=eq_false cb;obtain rfl:=G3.out (fun _=>cb);clear cb G3;have hw:IntKind.i64.wrap (nn+1)=nn+1:=IntWalk.i64_in _ (by have:=HN1.out;have:=HNN.out;omega)
      go_wp2
      go_roundw
      case rel=>exact ⟨n+1,by rw [HNN.out];rfl,⟨by have:=HN1.out;omega⟩,HD,BM,BP,HP0,HP4,HB⟩
      case measure=>have:=HN1.out;have:=HNN.out;simp only [intOf];omega
    ·have e1 : (x == a) = false := beq_eq_false_iff_ne.mpr ca
     have e1':decide (x=a)=false:=decide_eq_false ca
     have f1:=eq_false ca;obtain rfl:=G3.out (fun e=>absurd e ca);clear ca G3;have hw:IntKind.i64.wrap (nn+1)=nn+1:=IntWalk.i64_in _ (by have:=HN1.out;have:=HNN.out;omega)
     go_wp2
     go_roundw
     case rel=>exact ⟨n+1,by rw [HNN.out];rfl,⟨by have:=HN1.out;omega⟩,HD,BM,BP,HP0,HP4,HB⟩
     case measure=>have:=HN1.out;have:=HNN.out;simp only [intOf];omega
   ·have d0 : decide ((n : Int) < 8) = false := decide_eq_false cx
    clear HN cx;go_wp2;go_ret;exact ⟨by simp,by first|exact HB.out|exact below_drew1 HB.out⟩
end Go.Proofs.Ytnlieahdakafbaa.K
namespace Go.Proofs.Ytnlieahdakafbaa.K
open Go.RowKit Go.Proofs.YtnlieahdakafbaaW.PrintWords Go.Proofs.YtnlieahdakafbaaW.PrintLast Go.Proofs.YtnlieahdakafbaaW.PrintMore
attribute [local go_sem] max2_int min2_int max_two min_two max_three min_three max_four min_four
set_option linter.unusedVariables false
set_option linter.unusedSimpArgs false
def laws_FnGetPut.Pure:Prop:= ∀(a0:List Int) (a1:List Int),(GL (fun n:Int=>(Lit.int .u8 n).wf=true)) a0→(GL (fun n:Int=>(Lit.int .u8 n).wf=true)) a1→laws_FnGetPut.f a0 a1=some true
end Go.Proofs.Ytnlieahdakafbaa.K
namespace Go.Proofs.Ytnlieahdakafbaa.Pure
open Go.RowKit Go.Proofs.Ytnlieahdakafbaa.K Go.Proofs.YtnlieahdakafbaaW.PrintWords Go.Proofs.YtnlieahdakafbaaW.PrintLast Go.Proofs.YtnlieahdakafbaaW.PrintMore
set_option linter.unusedVariables false
set_option linter.unusedSimpArgs false
theorem FnGetPut:laws_FnGetPut.Pure:=by
 intro l m hl hm;unfold laws_FnGetPut.f;exact if_pos (show∀x∈l,(Lit.int .u8 x).wf=true from hl.2)
end Go.Proofs.Ytnlieahdakafbaa.Pure
