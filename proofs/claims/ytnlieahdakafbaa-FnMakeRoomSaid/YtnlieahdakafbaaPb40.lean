import Derived.Test.YtnlieahdakafbaaPb24
import Derived.Test.YtnlieahdakafbaaPb27
import Derived.Test.YtnlieahdakafbaaPb31
import Derived.Test.YtnlieahdakafbaaPb36
import Derived.Test.YtnlieahdakafbaaPb37
import Derived.Test.YtnlieahdakafbaaPb32
import Derived.Test.YtnlieahdakafbaaPb39
import Derived.Deep.CutRange
import Derived.Deep.CutBlock
namespace Go.Proofs.Ytnlieahdakafbaa.K
open Go.RowKit Go.Proofs.YtnlieahdakafbaaW.PrintWords Go.Proofs.YtnlieahdakafbaaW.PrintLast Go.Proofs.YtnlieahdakafbaaW.PrintMore
attribute [local go_sem] max2_int min2_int max_two min_two max_three min_three max_four min_four
set_option linter.unusedVariables false
set_option linter.unusedSimpArgs false
open Go.Proofs.Ytnlieahdakafbaa.Pure
def laws_FnMakeRoom.f (l0:List Int):Option Bool:=if (∀x∈l0,(Lit.int .u8 x).wf=true) then some true else none
set_option maxHeartbeats 32000000 in
set_option maxRecDepth 100000 in
theorem laws_FnMakeRoom.calls (AC : Option Addr) (cC : Nat) (lC : List Int) (r : Bool) (w : World) (hr_ : Aside0 (r = true)) (hr0 : Kd.C (Kd.int .u8) w AC lC.length lC) (hc0 : lC.length ≤ cC) (h : laws_FnMakeRoom.f lC = some r) :
  Calls Try.prog 8 #[.slice AC lC.length cC] w fun e w'=>e= .returned (.bool r)∧Below w.heap.size w w':=by
 obtain rfl:=hr_.out;unfold laws_FnMakeRoom.f at h
 split at h
 case isFalse=>simp at h
 case isTrue hl=>
 clear h hr_;have HR0:=aK hr0;have HC0:=aK hc0;have HL:=aK hl;clear hr0 hc0 hl;by_cases c1:1048576<(lC.length:Int)
 ·have d1 : decide (1048576 < (lC.length : Int)) = true := decide_eq_true c1
  go_enter Try.func8,Try.ntmps8;go_wp2;go_ret;exact ⟨rfl,by first|exact Below.refl _ _|exact below_drew1 (Below.refl _ _)⟩
 have d1:decide (1048576<(lC.length:Int))=false:=decide_eq_false c1
 clear c1;go_enter Try.func8,Try.ntmps8
 go_wp2_with (go_at_call 26;refine Classical.byContradiction (fun hng=>?_))
 refine hng ?_;clear hng;refine (memmake_any AC cC lC _ HR0.out HC0.out HL.out).mono ?_;rintro e w1 ⟨A5,c5,A0,c0,A4,c4,cs,ws,y,t,o,cards,a,b,_,⟨v,rfl⟩,rfl,hd,hb⟩;have HD1:=aK (hd.bound.mono (ok':=fun k=>k<w1.heap.size) (fun k hk=>hk.2));have HB1:=aK hb;clear hd hb HR0 HC0 HL d1
 go_wp2_with ((with_reducible refine gate_dst (N:=4) rfl ?_);refine Classical.byContradiction (fun hng=>?_))
 refine hng ?_;clear hng;refine box_event ?hg (N:=4) ?hd (cs:= #[.slice none 0 0,.int .i64 0,.int .i64 0,.int .i64 0,.slice none 0 0]) (t:=27) ?hr ?_
 (case hd=>rfl)
 (case hg=>rfl)
 (case hr=>first|(go_simp;done)|(go_simp;rfl))
 intro gm hg w2 hbox hb;have BM2:=aK hbox;have HD2:=aK ((HD1.out.below hb).mono (ok':=fun k=>k<gm) (fun k hk=>by rw [hg];exact hk));have HB2:=aK (below_step HB1.out hb);have HGm:=aK (show w.heap.size≤gm by rw [hg];exact below_size HB1.out);clear hb hbox hg HD1 HB1;have qc0:=(blk_cell BM2.out 0).trans rfl;have qc1:=(blk_cell BM2.out 1).trans rfl;have qc2:=(blk_cell BM2.out 2).trans rfl;have qc3:=(blk_cell BM2.out 3).trans rfl;have qc4:=(blk_cell BM2.out 4).trans rfl;have qf0:=blk_frozen BM2.out 0;have qf1:=blk_frozen BM2.out 1;have qf2:=blk_frozen BM2.out 2;have qf3:=blk_frozen BM2.out 3;have qf4:=blk_frozen BM2.out 4
 go_wp2_with ((with_reducible refine gate_store (t:=27) (p:=4) rfl ?_);refine Classical.byContradiction (fun hng=>?_))
 refine hng ?_;clear hng;refine store_event (t:=27) (p:=4) (v:=?vm1) (w1:=(memBox w2 gm (.slice A0 ws.length c0) (.int .i64 y) (.int .i64 t) (.int .i64 o) (.slice A4 cards.length c4))) ?hg ?ho ?hn ?hr ?_
 (case ho=>rfl)
 (case hg=>rfl)
 (case hn=>rfl)
 (case hr=>first|(go_simp;done)|(go_simp;rfl))
 intro w3 hw;have hc4:Ch (fun k=>k=gm) w2 w3:=by rw [hw];exact (Ch.refl (fun k=>k=gm) _).box5 (.inl rfl) _ _ _ _ _
 have HD:=aK (HD2.out.ch hc4 (fun k hk=>by omega));have BM:=aK (show w3.heap[gm]? =some (.cells #[.slice A0 ws.length c0,.int .i64 y,.int .i64 t,.int .i64 o,.slice A4 cards.length c4] 27 (0,0)) by rw [hw];exact blk_box5 BM2.out);have HB:=aK (HB2.out.trans (hc4.toBelow (B:=w.heap.size) (below_size HB2.out) (fun k hk=>by have:=HGm.out;omega)));clear hw hc4 HD2 HB2 BM2;clear qc0 qc1 qc2 qc3 qc4;clear qf0 qf1 qf2 qf3 qf4;obtain ⟨p1,p2,p3,p4,p5,p6,bo,hp1,hp2,hp3,hp4,hp5⟩:=makeroom_eq (cs:=cs) (fewF_few HD.out.l5.2.2) (ws:=ws) (y:=y) (t:=t) (o:=o) (cards:=cards) HD.out.l0.2 HD.out.l4 a b v;have H1:=aK hp1;have H2:=aK hp2;have H3:=aK hp3;have H4:=aK hp4;have H5:=aK hp5;clear hp1 hp2 hp3 hp4 hp5;have q0:=(blk_cell BM.out 0).trans rfl;have q1:=(blk_cell BM.out 1).trans rfl;have q2:=(blk_cell BM.out 2).trans rfl;have q3:=(blk_cell BM.out 3).trans rfl;have q4:=(blk_cell BM.out 4).trans rfl
 go_wp2_with (go_at_call 27;refine Classical.byContradiction (fun hng=>?_))
 refine hng ?_;clear hng;refine (impl_MemMake.calls 5000000 A5 c5 cs A0 c0 ws y t o A4 c4 cards a b v p1 p2 p3 p4 p5 p6 _ HD.out.C5 HD.out.n5 HD.out.C0 HD.out.n0 HD.out.C4 HD.out.n4 H1.out).mono ?_;rintro e w4 ⟨vP0,vP4,rfl,h0_,h4_,hb⟩;clear q0 q1 q2 q3 q4;replace HD:=aK (HD.out.below hb);replace BM:=aK (blk_below BM.out hb);replace HB:=aK (below_step HB.out hb);have HP0:=aK (Kd.R_mono (Kd.R_bound (Kd.R_lower h0_ (Nat.zero_le _))) (ok':=fun k=>k<w4.heap.size) (fun k hk=>hk.2.2.1));have HP4:=aK (Kd.R_mono (Kd.R_bound (Kd.R_lower h4_ (Nat.zero_le _))) (ok':=fun k=>k<w4.heap.size) (fun k hk=>hk.2.2.1));obtain ⟨AP0,cP0,e0_⟩:=Kd.R_slice HP0.out;subst e0_;obtain ⟨AP4,cP4,e4_⟩:=Kd.R_slice HP4.out;subst e4_;clear h0_ h4_ hb
 go_wp2_with ((with_reducible refine gate_dst (N:=8) rfl ?_);refine Classical.byContradiction (fun hng=>?_))
 refine hng ?_;clear hng;refine box_event ?hg (N:=8) ?hd (cs:= #[.slice none 0 0,.int .i64 0,.int .i64 0,.int .i64 0,.slice none 0 0]) (t:=27) ?hr ?_
 (case hd=>rfl)
 (case hg=>rfl)
 (case hr=>first|(go_simp;done)|(go_simp;rfl))
 intro gP hg w5 hbox hb;have HgP:=aK (show gm<gP by rw [hg];exact blk_lt BM.out);replace HD:=aK (HD.out.below hb);replace BM:=aK (blk_below BM.out hb);replace HB:=aK (below_step HB.out hb);replace HP0:=aK (Kd.R_mono (Kd.R_below HP0.out hb) (ok':=fun k=>k<gP) (fun k hk=>by rw [hg];exact hk));replace HP4:=aK (Kd.R_mono (Kd.R_below HP4.out hb) (ok':=fun k=>k<gP) (fun k hk=>by rw [hg];exact hk));have BP:=aK hbox;clear hb hbox hg;have qc0:=(blk_cell BP.out 0).trans rfl;have qc1:=(blk_cell BP.out 1).trans rfl;have qc2:=(blk_cell BP.out 2).trans rfl;have qc3:=(blk_cell BP.out 3).trans rfl;have qc4:=(blk_cell BP.out 4).trans rfl;have qf0:=blk_frozen BP.out 0;have qf1:=blk_frozen BP.out 1;have qf2:=blk_frozen BP.out 2;have qf3:=blk_frozen BP.out 3;have qf4:=blk_frozen BP.out 4
 go_wp2_with ((with_reducible refine gate_store (t:=27) (p:=8) rfl ?_);refine Classical.byContradiction (fun hng=>?_))
 refine hng ?_;clear hng;refine store_event (t:=27) (p:=8) (v:=?vmP) (w1:=(memBox w5 gP (.slice AP0 (p1).length cP0) (.int .i64 p2) (.int .i64 p3) (.int .i64 p4) (.slice AP4 (p5).length cP4))) ?hg ?ho ?hn ?hr ?_
 (case ho=>rfl)
 (case hg=>rfl)
 (case hn=>rfl)
 (case hr=>first|(go_simp;done)|(go_simp;rfl))
 intro w6 hw;have hc:Ch (fun k=>k=gP) w5 w6:=by rw [hw];exact (Ch.refl (fun k=>k=gP) _).box5 (.inl rfl) _ _ _ _ _
 replace HD:=aK (HD.out.ch hc (fun k hk=>by have:=HgP.out;omega));replace BM:=aK (hc.blk BM.out (by have:=HgP.out;omega));replace HB:=aK (HB.out.trans (hc.toBelow (B:=w.heap.size) (below_size HB.out) (fun k hk=>by have:=HgP.out;have:=HGm.out;omega)));replace HP0:=aK (hc.R HP0.out (fun k hk=>by have:=HgP.out;omega));replace HP4:=aK (hc.R HP4.out (fun k hk=>by have:=HgP.out;omega));replace BP:=aK (show w6.heap[gP]? =some (.cells #[.slice AP0 (p1).length cP0,.int .i64 p2,.int .i64 p3,.int .i64 p4,.slice AP4 (p5).length cP4] 27 (0,0)) by rw [hw];exact blk_box5 BP.out);clear hw hc;clear qc0 qc1 qc2 qc3 qc4;clear qf0 qf1 qf2 qf3 qf4;have q0:=(blk_cell BM.out 0).trans rfl;have q1:=(blk_cell BM.out 1).trans rfl;have q2:=(blk_cell BM.out 2).trans rfl;have q3:=(blk_cell BM.out 3).trans rfl;have q4:=(blk_cell BM.out 4).trans rfl
 go_wp2_with (go_at_call 28;refine Classical.byContradiction (fun hng=>?_))
 refine hng ?_;clear hng;refine (spec_MemMake.calls 5000000 A5 c5 cs A0 c0 ws y t o A4 c4 cards a b v p1 p2 p3 p4 p5 p6 _ HD.out.C5 HD.out.n5 HD.out.C0 HD.out.n0 HD.out.C4 HD.out.n4 H2.out).mono ?_;rintro e w7 ⟨vQ0,vQ4,rfl,h0_,h4_,hb⟩;clear q0 q1 q2 q3 q4;replace HD:=aK (HD.out.below hb);replace BM:=aK (blk_below BM.out hb);replace HB:=aK (below_step HB.out hb);replace HP0:=aK (Kd.R_below HP0.out hb);replace HP4:=aK (Kd.R_below HP4.out hb);replace BP:=aK (blk_below BP.out hb);have HQ0:=aK (Kd.R_mono (Kd.R_bound (Kd.R_lower h0_ (Nat.zero_le _))) (ok':=fun k=>k<w7.heap.size) (fun k hk=>hk.2.2.1));have HQ4:=aK (Kd.R_mono (Kd.R_bound (Kd.R_lower h4_ (Nat.zero_le _))) (ok':=fun k=>k<w7.heap.size) (fun k hk=>hk.2.2.1));obtain ⟨AQ0,cQ0,e0_⟩:=Kd.R_slice HQ0.out;subst e0_;obtain ⟨AQ4,cQ4,e4_⟩:=Kd.R_slice HQ4.out;subst e4_;clear h0_ h4_ hb
 go_wp2_with ((with_reducible refine gate_dst (N:=10) rfl ?_);refine Classical.byContradiction (fun hng=>?_))
 refine hng ?_;clear hng;refine box_event ?hg (N:=10) ?hd (cs:= #[.slice none 0 0,.int .i64 0,.int .i64 0,.int .i64 0,.slice none 0 0]) (t:=27) ?hr ?_
 (case hd=>rfl)
 (case hg=>rfl)
 (case hr=>first|(go_simp;done)|(go_simp;rfl))
 intro gQ hg w8 hbox hb;have HgQ:=aK (show gm<gQ∧gP<gQ by rw [hg];exact ⟨blk_lt BM.out,blk_lt BP.out⟩);replace HD:=aK (HD.out.below hb);replace BM:=aK (blk_below BM.out hb);replace HB:=aK (below_step HB.out hb);replace HP0:=aK (Kd.R_below HP0.out hb);replace HP4:=aK (Kd.R_below HP4.out hb);replace BP:=aK (blk_below BP.out hb);replace HQ0:=aK (Kd.R_mono (Kd.R_below HQ0.out hb) (ok':=fun k=>k<gQ) (fun k hk=>by rw [hg];exact hk));replace HQ4:=aK (Kd.R_mono (Kd.R_below HQ4.out hb) (ok':=fun k=>k<gQ) (fun k hk=>by rw [hg];exact hk));have BQ:=aK hbox;clear hb hbox hg;have qc0:=(blk_cell BQ.out 0).trans rfl;have qc1:=(blk_cell BQ.out 1).trans rfl;have qc2:=(blk_cell BQ.out 2).trans rfl;have qc3:=(blk_cell BQ.out 3).trans rfl;have qc4:=(blk_cell BQ.out 4).trans rfl;have qf0:=blk_frozen BQ.out 0;have qf1:=blk_frozen BQ.out 1;have qf2:=blk_frozen BQ.out 2;have qf3:=blk_frozen BQ.out 3;have qf4:=blk_frozen BQ.out 4
 go_wp2_with ((with_reducible refine gate_store (t:=27) (p:=10) rfl ?_);refine Classical.byContradiction (fun hng=>?_))
 refine hng ?_;clear hng;refine store_event (t:=27) (p:=10) (v:=?vmQ) (w1:=(memBox w8 gQ (.slice AQ0 (p1).length cQ0) (.int .i64 p2) (.int .i64 p3) (.int .i64 p4) (.slice AQ4 (p5).length cQ4))) ?hg ?ho ?hn ?hr ?_
 (case ho=>rfl)
 (case hg=>rfl)
 (case hn=>rfl)
 (case hr=>first|(go_simp;done)|(go_simp;rfl))
 intro w9 hw;have hc:Ch (fun k=>k=gQ) w8 w9:=by rw [hw];exact (Ch.refl (fun k=>k=gQ) _).box5 (.inl rfl) _ _ _ _ _
 replace HD:=aK (HD.out.ch hc (fun k hk=>by have:=HgQ.out;omega));replace BM:=aK (hc.blk BM.out (by have:=HgQ.out;omega));replace HB:=aK (HB.out.trans (hc.toBelow (B:=w.heap.size) (below_size HB.out) (fun k hk=>by have:=HgQ.out;have:=HGm.out;omega)));replace HP0:=aK (hc.R HP0.out (fun k hk=>by have:=HgQ.out;omega));replace HP4:=aK (hc.R HP4.out (fun k hk=>by have:=HgQ.out;omega));replace BP:=aK (hc.blk BP.out (by have:=HgQ.out;omega));replace HQ0:=aK (hc.R HQ0.out (fun k hk=>by have:=HgQ.out;omega));replace HQ4:=aK (hc.R HQ4.out (fun k hk=>by have:=HgQ.out;omega));replace BQ:=aK (show w9.heap[gQ]? =some (.cells #[.slice AQ0 (p1).length cQ0,.int .i64 p2,.int .i64 p3,.int .i64 p4,.slice AQ4 (p5).length cQ4] 27 (0,0)) by rw [hw];exact blk_box5 BQ.out);clear hw hc;clear qc0 qc1 qc2 qc3 qc4;clear qf0 qf1 qf2 qf3 qf4;replace HD:=aK (HD.out.mono (ok':=fun _=>True) (fun _ _=>trivial));replace HP0:=aK (Kd.R_mono HP0.out (ok':=fun _=>True) (fun _ _=>trivial));replace HP4:=aK (Kd.R_mono HP4.out (ok':=fun _=>True) (fun _ _=>trivial));replace HQ0:=aK (Kd.R_mono HQ0.out (ok':=fun _=>True) (fun _ _=>trivial));replace HQ4:=aK (Kd.R_mono HQ4.out (ok':=fun _=>True) (fun _ _=>trivial));clear H1 H2
 go_upto_region 6 with fail
 (try simp only [Act.put,List.setIfInBounds_toArray,List.set_cons_zero,List.set_cons_succ])
 go_cut [78] (fun v78 wc=> ∃bx:Bool,v78= .bool bx∧Aside0 (bx=false→bo=true∧a<(cs.length:Int)∧(a<0→ -2≤a∧0≤b∧b≤6))∧Aside0 (Dr wc (fun _=>True) A5 c5 A0 c0 A4 c4 cs ws cards)∧Aside0 (wc.heap[gm]? =some (.cells #[.slice A0 ws.length c0,.int .i64 y,.int .i64 t,.int .i64 o,.slice A4 cards.length c4] 27 (0,0)))∧Aside0 (Below w.heap.size w wc)∧Aside0 (wc.heap[gP]? =some (.cells #[.slice AP0 p1.length cP0,.int .i64 p2,.int .i64 p3,.int .i64 p4,.slice AP4 p5.length cP4] 27 (0,0)))∧Aside0 (Kd.R (Kd.int .i64) 3 wc 0 (fun _=>True) (.slice AP0 p1.length cP0) p1)∧Aside0 (Kd.R Kd.bool 4 wc 0 (fun _=>True) (.slice AP4 p5.length cP4) p5)∧Aside0 (wc.heap[gQ]? =some (.cells #[.slice AQ0 p1.length cQ0,.int .i64 p2,.int .i64 p3,.int .i64 p4,.slice AQ4 p5.length cQ4] 27 (0,0)))∧Aside0 (Kd.R (Kd.int .i64) 3 wc 0 (fun _=>True) (.slice AQ0 p1.length cQ0) p1)∧Aside0 (Kd.R Kd.bool 4 wc 0 (fun _=>True) (.slice AQ4 p5.length cQ4) p5))
 case first =>
  have x0:=(blk_cell BP.out 0).trans rfl;have x1:=(blk_cell BP.out 1).trans rfl;have x2:=(blk_cell BP.out 2).trans rfl;have x3:=(blk_cell BP.out 3).trans rfl;have x4:=(blk_cell BP.out 4).trans rfl;have z0:=(blk_cell BQ.out 0).trans rfl;have z1:=(blk_cell BQ.out 1).trans rfl;have z2:=(blk_cell BQ.out 2).trans rfl;have z3:=(blk_cell BQ.out 3).trans rfl;have z4:=(blk_cell BQ.out 4).trans rfl
  go_wp2_with (go_at_call 13;refine Classical.byContradiction (fun hng=>?_))
  refine hng ?_;clear hng;refine (laws_leMem.calls 5000000 AP0 cP0 p1 p2 p3 p4 AP4 cP4 p5 AQ0 cQ0 p1 p2 p3 p4 AQ4 cQ4 p5 true _ (Kd.R_reads' HP0.out).2.2 (Kd.R_reads' HP0.out).2.1 (Kd.R_reads' HP4.out).2.2 (Kd.R_reads' HP4.out).2.1 (Kd.R_reads' HQ0.out).2.2 (Kd.R_reads' HQ0.out).2.1 (Kd.R_reads' HQ4.out).2.2 (Kd.R_reads' HQ4.out).2.1 H3.out).mono ?_;rintro e w10 ⟨rfl,hb⟩;clear x0 x1 x2 x3 x4;clear z0 z1 z2 z3 z4;replace HD:=aK (HD.out.below hb);replace BM:=aK (blk_below BM.out hb);replace HB:=aK (below_step HB.out hb);replace BP:=aK (blk_below BP.out hb);replace HP0:=aK (Kd.R_below HP0.out hb);replace HP4:=aK (Kd.R_below HP4.out hb);replace BQ:=aK (blk_below BQ.out hb);replace HQ0:=aK (Kd.R_below HQ0.out hb);replace HQ4:=aK (Kd.R_below HQ4.out hb);clear hb;have q0:=(blk_cell BM.out 0).trans rfl;have q1:=(blk_cell BM.out 1).trans rfl;have q2:=(blk_cell BM.out 2).trans rfl;have q3:=(blk_cell BM.out 3).trans rfl;have q4:=(blk_cell BM.out 4).trans rfl
  go_wp2_with (go_at_call 14;refine Classical.byContradiction (fun hng=>?_))
  refine hng ?_;clear hng;refine (spec_MemOk.calls 5000000 A5 c5 cs A0 c0 ws y t o A4 c4 cards bo _ HD.out.C5 HD.out.n5 HD.out.C0 HD.out.n0 HD.out.C4 HD.out.n4 H4.out).mono ?_;rintro e w11 ⟨rfl,hb⟩;clear q0 q1 q2 q3 q4;replace HD:=aK (HD.out.below hb);replace BM:=aK (blk_below BM.out hb);replace HB:=aK (below_step HB.out hb);replace BP:=aK (blk_below BP.out hb);replace HP0:=aK (Kd.R_below HP0.out hb);replace HP4:=aK (Kd.R_below HP4.out hb);replace BQ:=aK (blk_below BQ.out hb);replace HQ0:=aK (Kd.R_below HQ0.out hb);replace HQ4:=aK (Kd.R_below HQ4.out hb);clear hb
  cases bo with
  |false=>
   try go_wp2
   go_meet;exact ⟨true,rfl,⟨fun h=>by cases h⟩,HD,BM,HB,BP,HP0,HP4,BQ,HQ0,HQ4⟩
  | true =>
   by_cases ca:a< -2
   ·have dca : decide (a < -2) = true := decide_eq_true ca
    have fca:=eq_true ca;try go_wp2
    go_meet;exact ⟨true,rfl,⟨fun h=>by cases h⟩,HD,BM,HB,BP,HP0,HP4,BQ,HQ0,HQ4⟩
   ·have dca : decide (a < -2) = false := decide_eq_false ca
    have fca:=eq_false ca;by_cases cb:(cs.length:Int)≤a
    ·have dcb : decide ((cs.length : Int) ≤ a) = true := decide_eq_true cb
     have fcb:=eq_true cb;try go_wp2
     go_meet;exact ⟨true,rfl,⟨fun h=>by cases h⟩,HD,BM,HB,BP,HP0,HP4,BQ,HQ0,HQ4⟩
    ·have dcb : decide ((cs.length : Int) ≤ a) = false := decide_eq_false cb
     have fcb:=eq_false cb;by_cases cc:a<0
     ·have dcc : decide (a < 0) = true := decide_eq_true cc
      have fcc:=eq_true cc;by_cases cd:b<0
      ·have dcd : decide (b < 0) = true := decide_eq_true cd
       have fcd:=eq_true cd;try go_wp2
       go_meet;exact ⟨true,rfl,⟨fun h=>by cases h⟩,HD,BM,HB,BP,HP0,HP4,BQ,HQ0,HQ4⟩
      ·have dcd : decide (b < 0) = false := decide_eq_false cd
       have fcd:=eq_false cd;by_cases ce:6<b
       ·have dce : decide (6 < b) = true := decide_eq_true ce
        have fce:=eq_true ce;try go_wp2
        go_meet;exact ⟨true,rfl,⟨fun h=>by cases h⟩,HD,BM,HB,BP,HP0,HP4,BQ,HQ0,HQ4⟩
       ·have dce : decide (6 < b) = false := decide_eq_false ce
        have fce:=eq_false ce;try go_wp2
        go_meet;exact ⟨false,rfl,⟨fun _=>⟨by simp,by omega,fun _=>by omega⟩⟩,HD,BM,HB,BP,HP0,HP4,BQ,HQ0,HQ4⟩
     ·have dcc : decide (a < 0) = false := decide_eq_false cc
      have fcc:=eq_false cc;try go_wp2
      go_meet;exact ⟨false,rfl,⟨fun _=>⟨by simp,by omega,fun h=>by omega⟩⟩,HD,BM,HB,BP,HP0,HP4,BQ,HQ0,HQ4⟩
 case rest=>
  clear HD BM HB BP HP0 HP4 BQ HQ0 HQ4;obtain ⟨bx,rfl,HGd,HD,BM,HB,BP,HP0,HP4,BQ,HQ0,HQ4⟩:=hcut
  cases bx with
  |true=>
   have x0:=(blk_cell BP.out 0).trans rfl;have x1:=(blk_cell BP.out 1).trans rfl;have x2:=(blk_cell BP.out 2).trans rfl;have x3:=(blk_cell BP.out 3).trans rfl;have x4:=(blk_cell BP.out 4).trans rfl;have z0:=(blk_cell BQ.out 0).trans rfl;have z1:=(blk_cell BQ.out 1).trans rfl;have z2:=(blk_cell BQ.out 2).trans rfl;have z3:=(blk_cell BQ.out 3).trans rfl;have z4:=(blk_cell BQ.out 4).trans rfl
   go_wp2_with (go_at_call 13;refine Classical.byContradiction (fun hng=>?_))
   refine hng ?_;clear hng;refine (laws_leMem.calls 5000000 AP0 cP0 p1 p2 p3 p4 AP4 cP4 p5 AQ0 cQ0 p1 p2 p3 p4 AQ4 cQ4 p5 true _ (Kd.R_reads' HP0.out).2.2 (Kd.R_reads' HP0.out).2.1 (Kd.R_reads' HP4.out).2.2 (Kd.R_reads' HP4.out).2.1 (Kd.R_reads' HQ0.out).2.2 (Kd.R_reads' HQ0.out).2.1 (Kd.R_reads' HQ4.out).2.2 (Kd.R_reads' HQ4.out).2.1 H3.out).mono ?_;rintro e w71 ⟨rfl,hb⟩;clear x0 x1 x2 x3 x4;clear z0 z1 z2 z3 z4;replace HD:=aK (HD.out.below hb);replace BM:=aK (blk_below BM.out hb);replace HB:=aK (below_step HB.out hb);replace BP:=aK (blk_below BP.out hb);replace HP0:=aK (Kd.R_below HP0.out hb);replace HP4:=aK (Kd.R_below HP4.out hb);replace BQ:=aK (blk_below BQ.out hb);replace HQ0:=aK (Kd.R_below HQ0.out hb);replace HQ4:=aK (Kd.R_below HQ4.out hb);clear hb;go_wp2;go_ret;exact ⟨by simp,by first|exact HB.out|exact below_drew1 HB.out⟩
  | false =>
   clear BQ HQ0 HQ4;obtain ⟨g1,g2,g3⟩:=HGd.out rfl;obtain ⟨hbd,s,hs,hlo,hhi⟩:=H5.out g1 g2 g3;have HBd:=aK hbd;have G1:=aK hs;have G2:=aK hlo;have G3:=aK hhi;clear hbd hs hlo hhi g1 g2 g3 HGd H5 H4 H3;have u1:IntKind.i64.wrap (y - t)=y - t:=IntWalk.i64_in _ (by have:=HBd.out;omega)
   have u2:IntKind.i64.wrap ((ws.length:Int) - o)=(ws.length:Int) - o:=IntWalk.i64_in _ (by have:=HBd.out;have:=HD.out.l0;omega)
   have q0:=(blk_cell BM.out 0).trans rfl;have q1:=(blk_cell BM.out 1).trans rfl;have q2:=(blk_cell BM.out 2).trans rfl;have q3:=(blk_cell BM.out 3).trans rfl;have q4:=(blk_cell BM.out 4).trans rfl
   go_upto_if 92 with fail
   go_cut [12] from 92 to 98 (fun v12 wc=>v12= .int .i64 (if v=true then (ws.length:Int) - o else y - t)∧Aside0 (Dr wc (fun _=>True) A5 c5 A0 c0 A4 c4 cs ws cards)∧Aside0 (wc.heap[gm]? =some (.cells #[.slice A0 ws.length c0,.int .i64 y,.int .i64 t,.int .i64 o,.slice A4 cards.length c4] 27 (0,0)))∧Aside0 (Below w.heap.size w wc)∧Aside0 (wc.heap[gP]? =some (.cells #[.slice AP0 p1.length cP0,.int .i64 p2,.int .i64 p3,.int .i64 p4,.slice AP4 p5.length cP4] 27 (0,0)))∧Aside0 (Kd.R (Kd.int .i64) 3 wc 0 (fun _=>True) (.slice AP0 p1.length cP0) p1)∧Aside0 (Kd.R Kd.bool 4 wc 0 (fun _=>True) (.slice AP4 p5.length cP4) p5))
   case first=>
    cases v with
    |false=>
     go_wp2;go_meet;exact ⟨rfl,HD,BM,HB,BP,HP0,HP4⟩
    |true=>
     go_wp2;go_meet;exact ⟨rfl,HD,BM,HB,BP,HP0,HP4⟩
   case rest=>
    clear q0 q1 q2 q3 q4;clear u1 u2 HD BM HB BP HP0 HP4;obtain ⟨rfl,HD,BM,HB,BP,HP0,HP4⟩:=hcut;obtain ⟨rm,hrm⟩: ∃z,z=(if v=true then (ws.length:Int) - o else y - t):=⟨_,rfl⟩;rw [←hrm] at G2 G3 ⊢;clear hrm
    go_wp2_with (go_at_call 29;refine Classical.byContradiction (fun hng=>?_))
    refine hng ?_;clear hng;refine (laws_leWant.calls 5000000 A5 c5 cs a b s _ HD.out.C5 HD.out.n5 G1.out).mono ?_;rintro e w71 ⟨rfl,hb⟩;replace HD:=aK (HD.out.below hb);replace BM:=aK (blk_below BM.out hb);replace HB:=aK (below_step HB.out hb);replace BP:=aK (blk_below BP.out hb);replace HP0:=aK (Kd.R_below HP0.out hb);replace HP4:=aK (Kd.R_below HP4.out hb);clear hb;by_cases cr:rm<s
    ·have dcr : decide (rm < s) = true := decide_eq_true cr
     have fcr:=eq_true cr;obtain ⟨e6,hl⟩:=G2.out (by omega);subst e6;have G4:=aK hl;clear hl cr G2 G3;have x0:=(blk_cell BP.out 0).trans rfl;have x1:=(blk_cell BP.out 1).trans rfl;have x2:=(blk_cell BP.out 2).trans rfl;have x3:=(blk_cell BP.out 3).trans rfl;have x4:=(blk_cell BP.out 4).trans rfl;have q0:=(blk_cell BM.out 0).trans rfl;have q1:=(blk_cell BM.out 1).trans rfl;have q2:=(blk_cell BM.out 2).trans rfl;have q3:=(blk_cell BM.out 3).trans rfl;have q4:=(blk_cell BM.out 4).trans rfl
     go_wp2_with (go_at_call 13;refine Classical.byContradiction (fun hng=>?_))
     refine hng ?_;clear hng;refine (laws_leMem.calls 5000000 AP0 cP0 p1 p2 p3 p4 AP4 cP4 p5 A0 c0 ws y t o A4 c4 cards true _ (Kd.R_reads' HP0.out).2.2 (Kd.R_reads' HP0.out).2.1 (Kd.R_reads' HP4.out).2.2 (Kd.R_reads' HP4.out).2.1 HD.out.C0 HD.out.n0 HD.out.C4 HD.out.n4 G4.out).mono ?_;rintro e w72 ⟨rfl,hb⟩;clear x0 x1 x2 x3 x4;clear q0 q1 q2 q3 q4;replace HD:=aK (HD.out.below hb);replace BM:=aK (blk_below BM.out hb);replace HB:=aK (below_step HB.out hb);replace BP:=aK (blk_below BP.out hb);replace HP0:=aK (Kd.R_below HP0.out hb);replace HP4:=aK (Kd.R_below HP4.out hb);clear hb;go_wp2;go_ret;exact ⟨by simp,by first|exact HB.out|exact below_drew1 HB.out⟩
    ·have dcr : decide (rm < s) = false := decide_eq_false cr
     have fcr:=eq_false cr;obtain ⟨h6,hk,hz⟩:=G3.out (by omega);have G4:=aK hk;have G5:=aK hz;have d6:decide (0<p6)=true:=decide_eq_true h6
     have f6:=eq_true h6;clear hk hz cr G2 G3 h6;have x0:=(blk_cell BP.out 0).trans rfl;have x1:=(blk_cell BP.out 1).trans rfl;have x2:=(blk_cell BP.out 2).trans rfl;have x3:=(blk_cell BP.out 3).trans rfl;have x4:=(blk_cell BP.out 4).trans rfl
     go_wp2_with (go_at_call 24;refine Classical.byContradiction (fun hng=>?_))
     refine hng ?_;clear hng;refine (impl_MemOk.calls 5000000 A5 c5 cs AP0 cP0 p1 p2 p3 p4 AP4 cP4 p5 true _ HD.out.C5 HD.out.n5 (Kd.R_reads' HP0.out).2.2 (Kd.R_reads' HP0.out).2.1 (Kd.R_reads' HP4.out).2.2 (Kd.R_reads' HP4.out).2.1 G4.out).mono ?_;rintro e w72 ⟨rfl,hb⟩;clear x0 x1 x2 x3 x4;replace HD:=aK (HD.out.below hb);replace BM:=aK (blk_below BM.out hb);replace HB:=aK (below_step HB.out hb);replace BP:=aK (blk_below BP.out hb);replace HP0:=aK (Kd.R_below HP0.out hb);replace HP4:=aK (Kd.R_below HP4.out hb);clear hb;have x0:=(blk_cell BP.out 0).trans rfl;have x1:=(blk_cell BP.out 1).trans rfl;have x2:=(blk_cell BP.out 2).trans rfl;have x3:=(blk_cell BP.out 3).trans rfl;have x4:=(blk_cell BP.out 4).trans rfl
     go_wp2_with (go_at_call 25;refine Classical.byContradiction (fun hng=>?_))
     refine hng ?_;clear hng;refine (impl_MemSize.calls 5000000 A5 c5 cs AP0 cP0 p1 p2 p3 p4 AP4 cP4 p5 p6 s _ HD.out.C5 HD.out.n5 (Kd.R_reads' HP0.out).2.2 (Kd.R_reads' HP0.out).2.1 (Kd.R_reads' HP4.out).2.2 (Kd.R_reads' HP4.out).2.1 G5.out).mono ?_;rintro e w73 ⟨rfl,hb⟩;clear x0 x1 x2 x3 x4;replace HD:=aK (HD.out.below hb);replace BM:=aK (blk_below BM.out hb);replace HB:=aK (below_step HB.out hb);replace BP:=aK (blk_below BP.out hb);replace HP0:=aK (Kd.R_below HP0.out hb);replace HP4:=aK (Kd.R_below HP4.out hb);clear hb
     go_wp2_with (go_at_call 29;refine Classical.byContradiction (fun hng=>?_))
     refine hng ?_;clear hng;refine (laws_leWant.calls 5000000 A5 c5 cs a b s _ HD.out.C5 HD.out.n5 G1.out).mono ?_;rintro e w74 ⟨rfl,hb⟩;replace HD:=aK (HD.out.below hb);replace BM:=aK (blk_below BM.out hb);replace HB:=aK (below_step HB.out hb);replace BP:=aK (blk_below BP.out hb);replace HP0:=aK (Kd.R_below HP0.out hb);replace HP4:=aK (Kd.R_below HP4.out hb);clear hb;go_wp2;go_ret;exact ⟨by simp,by first|exact HB.out|exact below_drew1 HB.out⟩
end Go.Proofs.Ytnlieahdakafbaa.K
namespace Go.Proofs.Ytnlieahdakafbaa.K
open Go.RowKit Go.Proofs.YtnlieahdakafbaaW.PrintWords Go.Proofs.YtnlieahdakafbaaW.PrintLast Go.Proofs.YtnlieahdakafbaaW.PrintMore
attribute [local go_sem] max2_int min2_int max_two min_two max_three min_three max_four min_four
set_option linter.unusedVariables false
set_option linter.unusedSimpArgs false
def laws_FnMakeRoom.Pure:Prop:= ∀(a0:List Int),(GL (fun n:Int=>(Lit.int .u8 n).wf=true)) a0→laws_FnMakeRoom.f a0=some true
end Go.Proofs.Ytnlieahdakafbaa.K
namespace Go.Proofs.Ytnlieahdakafbaa.Pure
open Go.RowKit Go.Proofs.Ytnlieahdakafbaa.K Go.Proofs.YtnlieahdakafbaaW.PrintWords Go.Proofs.YtnlieahdakafbaaW.PrintLast Go.Proofs.YtnlieahdakafbaaW.PrintMore
set_option linter.unusedVariables false
set_option linter.unusedSimpArgs false
theorem FnMakeRoom:laws_FnMakeRoom.Pure:=by
 intro l hl;unfold laws_FnMakeRoom.f;exact if_pos (show∀x∈l,(Lit.int .u8 x).wf=true from hl.2)
end Go.Proofs.Ytnlieahdakafbaa.Pure
