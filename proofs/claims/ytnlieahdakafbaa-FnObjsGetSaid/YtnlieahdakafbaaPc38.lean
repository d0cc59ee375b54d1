import Derived.Test.YtnlieahdakafbaaPc24
import Derived.Test.YtnlieahdakafbaaPc26
import Derived.Test.YtnlieahdakafbaaPc30
import Derived.Test.YtnlieahdakafbaaPc35
import Derived.Test.YtnlieahdakafbaaPc37
import Derived.Test.YtnlieahdakafbaaPc31
import Derived.Test.YtnlieahdakafbaaPc32
import Derived.Test.YtnlieahdakafbaaPc34
import Derived.Deep.Slices
import Derived.Deep.Fields
import Derived.ChangeSame
import Derived.ProofKit
import Derived.OpenShut
import Derived.ShutString
import Derived.ChangeOld
import Derived.SizedLaws
namespace Go.Proofs.Ytnlieahdakafbaa.Pure
open Go.RowKit Go.Proofs.Ytnlieahdakafbaa.K Go.Proofs.YtnlieahdakafbaaW.PrintWords Go.Proofs.YtnlieahdakafbaaW.PrintLast Go.Proofs.YtnlieahdakafbaaW.PrintMore
set_option linter.unusedVariables false
set_option linter.unusedSimpArgs false
def objOf (cs:Cs) (ws W:List Int) (x:Int):Os:=⟨rd ws x,valsL cs ws W (rd ws x) (x+hdN (rd ws x)) (szN cs ws x - hdN (rd ws x)).toNat 0⟩
theorem objs_imp {cs:Cs} {ws:List Int} {y t o:Int} {cards:List Bool} {W:List Int} (h:Opn cs ws y t o cards W) (k:Nat) (hk:4000000≤k):impl_MemObjs.f k cs ws y t o cards=some (W.map (objOf cs ws W)):=by
 have n0:=h.b.n0;have n1:=h.b.n1;have y0:=h.b.y0;have y1:=h.b.y1;have hw:=h.wlk;have wl:=hw.len;have hok: ∀q,300≤q→thingsOk q (mmOf cs ws y t o cards W) (W.map (· +1))=some true:=fun q hq=>(allw_iff h.b hw q hq).mpr h.d
 have key: ∀(L:List Int) (acc:List Os),(∀x∈L,x∈W)→acc.length+L.length≤1000→objsL k (mmOf cs ws y t o cards W) (L.map (· +1)) acc=some (acc++L.map (objOf cs ws W)):=by
  intro L
  induction L with
  |nil=>intro acc _ _;simp [objsL]
  | cons x r ih =>
   intro acc hL ha;have hx:=hL x (List.mem_cons_self ..);simp only [List.length_cons] at ha;obtain ⟨x0,x1,c0,c8,xe,hh,hn2,hco,hfi,hle,_⟩:=thing_know (t:=t) (o:=o) (cards:=cards) h.b hw hx
   have hcls:thing_class.f (mmOf cs ws y t o cards W) (x+1)=some (rd ws x):=by
    unfold thing_class.f;rw [show (mmOf cs ws y t o cards W).words=ws from rfl,if_pos (by omega),show x+1 - 1=x by omega]
   have hv:=objVals_eq h.b hw (mmOf cs ws y t o cards W) rfl hok hx hh c8 (by omega) hco hfi hle k (by omega) (szN cs ws x - hdN (rd ws x)).toNat k 0 [] (by omega) (by omega) (by omega) (by simp<;>omega);rw [List.map_cons,objsL,hcls,Option.bind_some,hco,Option.bind_some,hv,Option.bind_some,if_pos (by omega),ih _ (fun z hz=>hL z (List.mem_cons_of_mem _ hz)) (by simp<;>omega)];simp [objOf]
 unfold impl_MemObjs.f;rw [h.to k hk,Option.bind_some];show memory_objs.f k (mmOf cs ws y t o cards W)=_
 unfold memory_objs.f;rw [show (mmOf cs ws y t o cards W).begins=W.map (· +1) from rfl,if_pos (by rw [List.length_map];omega)];have:=key W [] (fun x hx=>hx) (by simp<;>omega)
 simpa using this
theorem valsL_at (cs:Cs) (ws W:List Int) (c b:Int): ∀(d:Nat) (k:Int) (i:Nat),i<d→(valsL cs ws W c b d k).getD i ⟨false,0⟩=valAt cs ws W c b (k+i)
 |0,_,_,h=>by omega
 |d+1,k,0,_=>by rw [valsL,List.getD_cons_zero];simp
 |d+1,k,i+1,h=>by
  rw [valsL,List.getD_cons_succ,valsL_at cs ws W c b d (k+1) i (by omega),show k+1+(i:Int)=k+((i+1:Nat):Int) by omega]
theorem leVals_self (xs:List Vs) (hl:xs.length≤1000) (d:Nat): ∀(k i:Nat),i+d=xs.length→d<k→laws_leVals.l0 k xs xs i=some true:=by
 induction d with
 |zero=>
  intro k i hi hk;obtain ⟨k,rfl⟩: ∃m,k=m+1:=⟨k - 1,by omega⟩;rw [laws_leVals.l0,if_neg (by omega)]
 |succ d ih=>
  intro k i hi hk;obtain ⟨k,rfl⟩: ∃m,k=m+1:=⟨k - 1,by omega⟩;rw [laws_leVals.l0,if_pos (by omega),if_pos (by omega),if_pos (by omega),if_neg (by simp),wrap_inc (n:=1048577) (by omega) (by omega) (by omega)];have:=ih k (i+1) (by omega) (by omega)
  rw [show ((i+1:Nat):Int)=(i:Int)+1 by omega] at this;exact this
theorem leObjs_l0 (xs:List Os) (hl:xs.length≤1000) (hx: ∀x∈xs,x.f1.length≤1000) (d:Nat): ∀(k i:Nat),i+d=xs.length→d+1002<k→laws_leObjs.l0 k xs xs i=some true:=by
 induction d with
 |zero=>
  intro k i hi hk;obtain ⟨k,rfl⟩: ∃m,k=m+1:=⟨k - 1,by omega⟩;rw [laws_leObjs.l0,if_neg (by omega)]
 | succ d ih =>
  intro k i hi hk;obtain ⟨k,rfl⟩: ∃m,k=m+1:=⟨k - 1,by omega⟩;have hlt:i<xs.length:=by omega
  have hm:rd_T46 xs (i:Int)∈xs:=by
   unfold rd_T46;rw [Int.toNat_natCast,List.getD_eq_getElem?_getD,List.getElem?_eq_getElem hlt];exact List.getElem_mem hlt
  have hv:laws_leVals.f k (rd_T46 xs (i:Int)).f1 (rd_T46 xs (i:Int)).f1=some true:=by
   unfold laws_leVals.f;rw [if_pos rfl];have:=hx _ hm
   exact leVals_self _ this _ k 0 (Nat.zero_add _) (by omega)
  rw [laws_leObjs.l0,if_pos (by omega),if_pos (by omega),if_pos (by omega),if_pos rfl,hv,Option.bind_some,if_pos rfl,wrap_inc (n:=1048577) (by omega) (by omega) (by omega)];have:=ih k (i+1) (by omega) (by omega)
  rw [show ((i+1:Nat):Int)=(i:Int)+1 by omega] at this;exact this
theorem leObjs_at (xs:List Os) (hl:xs.length≤1000) (hx: ∀x∈xs,x.f1.length≤1000) (k:Nat) (hk:3000≤k):laws_leObjs.f k xs xs=some true:=by
 unfold laws_leObjs.f;rw [if_pos rfl];exact leObjs_l0 xs hl hx xs.length k 0 (by omega) (by omega)
theorem leVal_l0 (xs:List Int) (hl:xs.length≤1000) (v:Int) (d:Nat): ∀(k i:Nat),i+d=xs.length→d<k→laws_leVal.l0 k xs v i=some (true,if v∈xs.drop i then ((xs.drop i).idxOf v:Int)+i+1 else 0):=by
 induction d with
 |zero=>
  intro k i hi hk;obtain ⟨k,rfl⟩: ∃m,k=m+1:=⟨k - 1,by omega⟩;rw [laws_leVal.l0,if_neg (by omega),List.drop_eq_nil_of_le (by omega)];simp
 | succ d ih =>
  intro k i hi hk;obtain ⟨k,rfl⟩: ∃m,k=m+1:=⟨k - 1,by omega⟩;have hlt:i<xs.length:=by omega
  rw [laws_leVal.l0,if_pos (by omega),if_pos (by omega),rd_mem hlt,wrap_inc (n:=1048577) (by omega) (by omega) (by omega),List.drop_eq_getElem_cons hlt];by_cases c:xs[i]=v
  ·rw [if_pos c, if_pos (by rw [← c]; exact List.mem_cons_self ..), List.idxOf_cons]
   simp [c]
  ·rw [if_neg c]
   have:=ih k (i+1) (by omega) (by omega)
   rw [show ((i+1:Nat):Int)=(i:Int)+1 by omega] at this;rw [this,List.idxOf_cons];have hne:(xs[i]==v)=false:=beq_eq_false_iff_ne.mpr c
   rw [hne];by_cases m:v∈xs.drop (i+1)
   ·rw [if_pos m, if_pos (List.mem_cons_of_mem _ m)]
    simp only [cond_false]
    congr 2;omega
   ·rw [if_neg m,if_neg (fun q=>by rcases List.mem_cons.mp q with q|q;exact c q.symm;exact m q)]
theorem leVal_at (xs:List Int) (hl:xs.length≤1000) (v:Int) (k:Nat) (hk:1002≤k):laws_leVal.f k xs v=some (true,if v∈xs then (xs.idxOf v:Int)+1 else 0):=by
 unfold laws_leVal.f;have:=leVal_l0 xs hl v xs.length k 0 (by omega) (by omega)
 rw [List.drop_zero] at this
 simpa using this
theorem idxOf_map1 (W:List Int) (v:Int):(W.map (· +1)).idxOf v=W.idxOf (v - 1):=by
 induction W with
 |nil=>rfl
 |cons x r ih=>
  rw [List.map_cons,List.idxOf_cons,List.idxOf_cons,ih];have:(x+1==v)=(x==v - 1):=by rw [Bool.eq_iff_iff,beq_iff_eq,beq_iff_eq];omega
  rw [this]
theorem objsget_eq {cs:Cs} (hf:fewF cs) {ws:List Int} {y t o:Int} {cards:List Bool} (hn:ws.length≤1000) (hc:cards.length≤1000):
  ∃ (s : List Os) (bo : Bool), s.length ≤ 200 ∧ impl_MemObjs.f 5000000 cs ws y t o cards = some s ∧ spec_MemObjs.f 5000000 cs ws y t o cards = some s ∧ laws_leObjs.f 5000000 s s = some true ∧ spec_MemOk.f 5000000 cs ws y t o cards = some bo ∧
   (bo = true → ∃ wl : List Int, wl.length = s.length ∧ impl_MemWalk.f 5000000 cs ws y t o cards = some wl ∧ ∀ i : Int, 0 ≤ i → i < s.length → 1 ≤ rd wl i ∧ rd wl i ≤ ws.length ∧ (rd_T46 s i).f0 = rd ws (rd wl i - 1) ∧ (rd_T46 s i).f1.length ≤ 100 ∧
    impl_MemGet.f 5000000 cs ws y t o cards (rd wl i) (rd_T46 s i).f1.length=some (0,false)∧
    ∀k:Int,0≤k→k<(rd_T46 s i).f1.length→∃v n:Int,impl_MemGet.f 5000000 cs ws y t o cards (rd wl i) k=some (v,true)∧laws_leVal.f 5000000 wl v=some (true,n)∧
     (rd_T48 (rd_T46 s i).f1 k).f1=if (rd_T48 (rd_T46 s i).f1 k).f0=true then n else v):=by
 obtain ⟨s,s1,s2,e1,e2⟩:=MemObjs_eq (cs:=cs) hf (ws:=ws) (y:=y) (t:=t) (o:=o) (cards:=cards) (by omega) (by omega);obtain ⟨r,h1,h2,h3⟩:=opn_of (cs:=cs) hf (ws:=ws) (y:=y) (t:=t) (o:=o) (cards:=cards) (by omega) (by omega);refine ⟨s,r.isSome,s1,e1 5000000 (by decide),e2 5000000 (by decide),leObjs_at s (by omega) (fun x hx=>by have:=s2 x hx;omega) 5000000 (by decide),h2 5000000 (by decide),fun hr=>?_⟩
 cases r with
 |none=>simp at hr
 | some m =>
  obtain ⟨W,h,hm,hk⟩:=h3 m rfl
  have hs:s=W.map (objOf cs ws W):=by
   have:=objs_imp h 5000000 (by decide)
   rw [e1 5000000 (by decide)] at this;exact Option.some.inj this
  have wl:=h.wlk.len;subst hs;refine ⟨W.map (· +1),by rw [List.length_map,List.length_map],walk_imp h 5000000 (by decide),fun i i0 i1=>?_⟩;rw [List.length_map] at i1;obtain ⟨i,rfl⟩: ∃q:Nat,i=q:=⟨i.toNat,by omega⟩;have hj:i<W.length:=by omega
  have hr:rd (W.map (· +1)) (i:Int)=W[i]+1:=by rw [rd_mem (by rw [List.length_map];exact hj),List.getElem_map]
  have hro:rd_T46 (W.map (objOf cs ws W)) (i:Int)=objOf cs ws W W[i]:=by
   unfold rd_T46;rw [Int.toNat_natCast,List.getD_eq_getElem?_getD,List.getElem?_eq_getElem (by rw [List.length_map];exact hj),List.getElem_map];rfl
  rw [hr,hro];have hz:=List.getElem_mem hj;generalize W[i]=z at hz;obtain ⟨z0,z1,d0,d8,ze,hzh,hz2⟩:=h.know hz;have hlen:((objOf cs ws W z).f1.length:Int)=szN cs ws z - hdN (rd ws z):=by unfold objOf;rw [valsL_length];omega
  rw [hlen];refine ⟨by omega,by omega,by rw [show z+1 - 1=z by omega];rfl,by omega,get_out h (fun q=>by have:=q.2.2;rw [show z+1 - 1=z by omega] at this;omega) 5000000 (by decide),fun k k0 k1=>?_⟩;have hin:InT cs ws W (z+1) k:=⟨by rw [show z+1 - 1=z by omega];exact hz,k0,by rw [show z+1 - 1=z by omega];exact k1⟩
  have g1:=get_in h hin 5000000 (by decide);rw [show z+1 - 1=z by omega] at g1;refine ⟨_,_,g1,leVal_at _ (by rw [List.length_map];omega) _ 5000000 (by decide),?_⟩
  have hv:rd_T48 (objOf cs ws W z).f1 k=valAt cs ws W (rd ws z) (z+hdN (rd ws z)) k:=by
   have:=valsL_at cs ws W (rd ws z) (z+hdN (rd ws z)) (szN cs ws z - hdN (rd ws z)).toNat 0 k.toNat (by omega)
   rw [show (0:Int)+(k.toNat:Int)=k by omega] at this;exact this
  rw [hv];have hw:=(h.d z hz k k0 k1).1;unfold VOk at hw;unfold valAt;by_cases l:ldB cs (rd ws z) k=true
  ·rw [if_pos l] at hw ⊢
   rw [if_pos rfl,idxOf_map1];by_cases v0:rd ws (z+hdN (rd ws z)+k)=0
   ·rw [if_pos v0,if_neg (fun q=>by have:=wlk_range h.wlk ((mem_map1 W _).mp q);omega)]
   ·rw [if_neg v0,if_pos ((mem_map1 W _).mpr (hw.resolve_left v0))];rfl
  ·rw [if_neg l,if_neg (by simp)]
theorem fewF_few {cs:Cs} (h: ∀x∈cs,x.f1.length≤3):fewF cs:=by
 intro i;unfold flds rd_T112;by_cases c:i.toNat<cs.length
 ·rw [List.getD_eq_getElem?_getD, List.getElem?_eq_getElem c]
  have:=h _ (List.getElem_mem c)
  simp only [Option.getD_some]
  omega
 ·rw [List.getD_eq_getElem?_getD, List.getElem?_eq_none (by omega)]
  simp only [Option.getD_none]
  exact Nat.zero_le _
end Go.Proofs.Ytnlieahdakafbaa.Pure
namespace Go.Proofs.Ytnlieahdakafbaa.K
open Go.RowKit Go.Proofs.YtnlieahdakafbaaW.PrintWords Go.Proofs.YtnlieahdakafbaaW.PrintLast Go.Proofs.YtnlieahdakafbaaW.PrintMore
attribute [local go_sem] max2_int min2_int max_two min_two max_three min_three max_four min_four
set_option linter.unusedVariables false
set_option linter.unusedSimpArgs false
open Go.Proofs.Ytnlieahdakafbaa.Pure
def laws_FnObjsGet.f (l0:List Int):Option Bool:=if (∀x∈l0,(Lit.int .u8 x).wf=true) then some true else none
set_option maxHeartbeats 32000000 in
set_option maxRecDepth 100000 in
theorem laws_FnObjsGet.calls (AC:Option Addr) (cC:Nat) (lC:List Int) (r:Bool) (w:World) (hr_:Aside0 (r=true)) (hr0:Kd.C (Kd.int .u8) w AC lC.length lC) (hc0:lC.length≤cC) (h:laws_FnObjsGet.f lC=some r):
  Calls Try.prog 4 #[.slice AC lC.length cC] w fun e w'=>e= .returned (.bool r)∧Below w.heap.size w w':=by
 obtain rfl:=hr_.out;unfold laws_FnObjsGet.f at h
 split at h
 case isFalse=>simp at h
 case isTrue hl=>
 clear h hr_;have HR0:=aK hr0;have HC0:=aK hc0;have HL:=aK hl;clear hr0 hc0 hl;by_cases c1:1048576<(lC.length:Int)
 ·have d1 : decide (1048576 < (lC.length : Int)) = true := decide_eq_true c1
  go_enter Try.func4,Try.ntmps4;go_wp2;go_ret;exact ⟨rfl,by first|exact Below.refl _ _|exact below_drew1 (Below.refl _ _)⟩
 have d1:decide (1048576<(lC.length:Int))=false:=decide_eq_false c1
 clear c1;go_enter Try.func4,Try.ntmps4
 go_wp2_with (go_at_call 18;refine Classical.byContradiction (fun hng=>?_))
 refine hng ?_;clear hng;refine (memobjs_any AC cC lC _ HR0.out HC0.out HL.out).mono ?_;rintro e w1 ⟨A5,c5,A0,c0,A4,c4,cs,ws,y,t,o,cards,rfl,hd,hb⟩;have HD1:=aK (hd.bound.mono (ok':=fun k=>k<w1.heap.size) (fun k hk=>hk.2));have HB1:=aK hb;clear hd hb HR0 HC0 HL d1
 go_wp2_with ((with_reducible refine gate_dst (N:=4) rfl ?_);refine Classical.byContradiction (fun hng=>?_))
 refine hng ?_;clear hng;refine box_event ?hg (N:=4) ?hd (cs:= #[.slice none 0 0,.int .i64 0,.int .i64 0,.int .i64 0,.slice none 0 0]) (t:=27) ?hr ?_
 (case hd=>rfl)
 (case hg=>rfl)
 (case hr=>first|(go_simp;done)|(go_simp;rfl))
 intro gm hg w2 hbox hb;have BM2:=aK hbox;have HD2:=aK ((HD1.out.below hb).mono (ok':=fun k=>k≠gm) (fun k hk=>by rw [hg];omega));have HB2:=aK (below_step HB1.out hb);have HGm:=aK (show w.heap.size≤gm by rw [hg];exact below_size HB1.out);clear hb hbox hg HD1 HB1;have qc0:=(blk_cell BM2.out 0).trans rfl;have qc1:=(blk_cell BM2.out 1).trans rfl;have qc2:=(blk_cell BM2.out 2).trans rfl;have qc3:=(blk_cell BM2.out 3).trans rfl;have qc4:=(blk_cell BM2.out 4).trans rfl;have qf0:=blk_frozen BM2.out 0;have qf1:=blk_frozen BM2.out 1;have qf2:=blk_frozen BM2.out 2;have qf3:=blk_frozen BM2.out 3;have qf4:=blk_frozen BM2.out 4
 go_wp2_with ((with_reducible refine gate_store (t:=27) (p:=4) rfl ?_);refine Classical.byContradiction (fun hng=>?_))
 refine hng ?_;clear hng;refine store_event (t:=27) (p:=4) (v:=?vm1) (w1:=(memBox w2 gm (.slice A0 ws.length c0) (.int .i64 y) (.int .i64 t) (.int .i64 o) (.slice A4 cards.length c4))) ?hg ?ho ?hn ?hr ?_
 (case ho=>rfl)
 (case hg=>rfl)
 (case hn=>rfl)
 (case hr=>first|(go_simp;done)|(go_simp;rfl))
 intro w3 hw;have hc4:Ch (fun k=>k=gm) w2 w3:=by rw [hw];exact (Ch.refl (fun k=>k=gm) _).box5 (.inl rfl) _ _ _ _ _
 have HD:=aK (HD2.out.ch hc4 (fun k hk=>hk));have BM:=aK (show w3.heap[gm]? =some (.cells #[.slice A0 ws.length c0,.int .i64 y,.int .i64 t,.int .i64 o,.slice A4 cards.length c4] 27 (0,0)) by rw [hw];exact blk_box5 BM2.out);have HB:=aK (HB2.out.trans (hc4.toBelow (B:=w.heap.size) (below_size HB2.out) (fun k hk=>by have:=HGm.out;omega)));clear hw hc4 HD2 HB2 BM2;clear qc0 qc1 qc2 qc3 qc4;clear qf0 qf1 qf2 qf3 qf4;obtain ⟨s,bo,hs0,h1,h2,h3,h4,h5⟩:=objsget_eq (cs:=cs) (fewF_few HD.out.l5.2.2) (ws:=ws) (y:=y) (t:=t) (o:=o) (cards:=cards) HD.out.l0.2 HD.out.l4;have HS:=aK hs0;have H1:=aK h1;have H2:=aK h2;have H3:=aK h3;have H4:=aK h4;have H5:=aK h5;clear hs0 h1 h2 h3 h4 h5;replace HD:=aK (HD.out.mono (ok':=fun _=>True) (fun _ _=>trivial));have q0:=(blk_cell BM.out 0).trans rfl;have q1:=(blk_cell BM.out 1).trans rfl;have q2:=(blk_cell BM.out 2).trans rfl;have q3:=(blk_cell BM.out 3).trans rfl;have q4:=(blk_cell BM.out 4).trans rfl
 go_wp2_with (go_at_call 19;refine Classical.byContradiction (fun hng=>?_))
 refine hng ?_;clear hng;refine (impl_MemObjs.calls 5000000 A5 c5 cs A0 c0 ws y t o A4 c4 cards s _ HD.out.C5 HD.out.n5 HD.out.C0 HD.out.n0 HD.out.C4 HD.out.n4 H1.out).mono ?_;rintro e w4 ⟨vO,rfl,h_,hb⟩;clear q0 q1 q2 q3 q4;replace HD:=aK (HD.out.below hb);replace BM:=aK (blk_below BM.out hb);replace HB:=aK (below_step HB.out hb);obtain ⟨AO,cO,e_⟩:=Kd.S_slice h_;subst e_;have HCO:=aK (Kd.S_reads' h_).2.2;have HNO:=aK (Kd.S_reads' h_).2.1;clear h_;clear hb;have q0:=(blk_cell BM.out 0).trans rfl;have q1:=(blk_cell BM.out 1).trans rfl;have q2:=(blk_cell BM.out 2).trans rfl;have q3:=(blk_cell BM.out 3).trans rfl;have q4:=(blk_cell BM.out 4).trans rfl
 go_wp2_with (go_at_call 21;refine Classical.byContradiction (fun hng=>?_))
 refine hng ?_;clear hng;refine (spec_MemObjs.calls 5000000 A5 c5 cs A0 c0 ws y t o A4 c4 cards s _ HD.out.C5 HD.out.n5 HD.out.C0 HD.out.n0 HD.out.C4 HD.out.n4 H2.out).mono ?_;rintro e w5 ⟨vS,rfl,h_,hb⟩;clear q0 q1 q2 q3 q4;replace HD:=aK (HD.out.below hb);replace BM:=aK (blk_below BM.out hb);replace HB:=aK (below_step HB.out hb);replace HCO:=aK (Kd.C_below HCO.out hb);obtain ⟨AS,cS,e_⟩:=Kd.S_slice h_;subst e_;have HCS:=aK (Kd.S_reads' h_).2.2;have HNS:=aK (Kd.S_reads' h_).2.1;clear h_;clear hb
 go_wp2_with (go_at_call 20;refine Classical.byContradiction (fun hng=>?_))
 refine hng ?_;clear hng;refine (laws_leObjs.calls 5000000 AO cO s AS cS s true _ HCO.out HNO.out HCS.out HNS.out H3.out).mono ?_;rintro e w6 ⟨rfl,hb⟩;have hb:=hb.below;replace HD:=aK (HD.out.below hb);replace BM:=aK (blk_below BM.out hb);replace HB:=aK (below_step HB.out hb);replace HCO:=aK (Kd.C_below HCO.out hb);replace HCS:=aK (Kd.C_below HCS.out hb);clear hb;clear HCS HNS;have q0:=(blk_cell BM.out 0).trans rfl;have q1:=(blk_cell BM.out 1).trans rfl;have q2:=(blk_cell BM.out 2).trans rfl;have q3:=(blk_cell BM.out 3).trans rfl;have q4:=(blk_cell BM.out 4).trans rfl
 go_wp2_with (go_at_call 14;refine Classical.byContradiction (fun hng=>?_))
 refine hng ?_;clear hng;refine (spec_MemOk.calls 5000000 A5 c5 cs A0 c0 ws y t o A4 c4 cards bo _ HD.out.C5 HD.out.n5 HD.out.C0 HD.out.n0 HD.out.C4 HD.out.n4 H4.out).mono ?_;rintro e w7 ⟨rfl,hb⟩;clear q0 q1 q2 q3 q4;replace HD:=aK (HD.out.below hb);replace BM:=aK (blk_below BM.out hb);replace HB:=aK (below_step HB.out hb);replace HCO:=aK (Kd.C_below HCO.out hb);clear hb
 cases bo with
 |false=>
  have q0:=(blk_cell BM.out 0).trans rfl;have q1:=(blk_cell BM.out 1).trans rfl;have q2:=(blk_cell BM.out 2).trans rfl;have q3:=(blk_cell BM.out 3).trans rfl;have q4:=(blk_cell BM.out 4).trans rfl
  go_wp2_with (go_at_call 21;refine Classical.byContradiction (fun hng=>?_))
  refine hng ?_;clear hng;refine (spec_MemObjs.calls 5000000 A5 c5 cs A0 c0 ws y t o A4 c4 cards s _ HD.out.C5 HD.out.n5 HD.out.C0 HD.out.n0 HD.out.C4 HD.out.n4 H2.out).mono ?_;rintro e w8 ⟨vS,rfl,h_,hb⟩;clear q0 q1 q2 q3 q4;replace HD:=aK (HD.out.below hb);replace BM:=aK (blk_below BM.out hb);replace HB:=aK (below_step HB.out hb);replace HCO:=aK (Kd.C_below HCO.out hb);obtain ⟨AS,cS,e_⟩:=Kd.S_slice h_;subst e_;have HCS:=aK (Kd.S_reads' h_).2.2;have HNS:=aK (Kd.S_reads' h_).2.1;clear h_;clear hb
  go_wp2_with (go_at_call 20;refine Classical.byContradiction (fun hng=>?_))
  refine hng ?_;clear hng;refine (laws_leObjs.calls 5000000 AO cO s AS cS s true _ HCO.out HNO.out HCS.out HNS.out H3.out).mono ?_;rintro e w9 ⟨rfl,hb⟩;have hb:=hb.below;replace HD:=aK (HD.out.below hb);replace BM:=aK (blk_below BM.out hb);replace HB:=aK (below_step HB.out hb);replace HCO:=aK (Kd.C_below HCO.out hb);replace HCS:=aK (Kd.C_below HCS.out hb);clear hb;go_wp2;go_ret;exact ⟨by simp,by first|exact HB.out|exact below_drew1 HB.out⟩
 | true =>
  obtain ⟨wl,hwl,hw,hall⟩:=H5.out (by trivial);have HL_:=aK hwl;have HW_:=aK hw;have HA_:=aK hall;clear hwl hw hall H5 H1 H2 H3 H4;have q0:=(blk_cell BM.out 0).trans rfl;have q1:=(blk_cell BM.out 1).trans rfl;have q2:=(blk_cell BM.out 2).trans rfl;have q3:=(blk_cell BM.out 3).trans rfl;have q4:=(blk_cell BM.out 4).trans rfl
  go_wp2_with (go_at_call 17;refine Classical.byContradiction (fun hng=>?_))
  refine hng ?_;clear hng;refine (impl_MemWalk.calls 5000000 A5 c5 cs A0 c0 ws y t o A4 c4 cards wl _ HD.out.C5 HD.out.n5 HD.out.C0 HD.out.n0 HD.out.C4 HD.out.n4 HW_.out).mono ?_;rintro e w8 ⟨vX,rfl,h_,hb⟩;clear q0 q1 q2 q3 q4;replace HD:=aK (HD.out.below hb);replace BM:=aK (blk_below BM.out hb);replace HB:=aK (below_step HB.out hb);replace HCO:=aK (Kd.C_below HCO.out hb);have HX:=aK (Kd.R_mono (Kd.R_lower h_ (Nat.zero_le _)) (ok':=fun _=>True) (fun _ _=>trivial));obtain ⟨AX,cX,e_⟩:=Kd.R_slice HX.out;subst e_;clear h_;clear hb;go_wp2
  go_loopw [7] (fun v7 wr=> ∃i:Nat,v7= .int .i64 (i:Int)∧Aside0 (i≤s.length)∧Aside0 (Dr wr (fun _=>True) A5 c5 A0 c0 A4 c4 cs ws cards)∧Aside0 (wr.heap[gm]? =some (.cells #[.slice A0 ws.length c0,.int .i64 y,.int .i64 t,.int .i64 o,.slice A4 cards.length c4] 27 (0,0)))∧Aside0 (Below w.heap.size w wr)∧Aside0 (Kd.C k46 wr AO s.length s)∧Aside0 (Kd.R (Kd.int .i64) 3 wr 0 (fun _=>True) (.slice AX wl.length cX) wl)) (fun v7 _=>s.length - (intOf v7).toNat)
  case atStart=>exact ⟨0,rfl,⟨Nat.zero_le _⟩,HD,BM,HB,HCO,HX⟩
  case round =>
   clear HD BM HB HCO HX;obtain ⟨i,rfl,HIl,HD,BM,HB,HCO,HX⟩:=hrel;by_cases cx:(i:Int)<(s.length:Int)
   ·have d0 : decide ((i : Int) < (s.length : Int)) = true := decide_eq_true cx
    have d0b:=eq_true (show i<s.length by omega);have HI1:=aK (show i<s.length∧i<wl.length by have:=HL_.out;omega);obtain ⟨x0,x1,ho,hvl,hg3,hall⟩:=HA_.out (i:Int) (by omega) cx;clear cx;obtain ⟨x,hx⟩: ∃x,x=rd wl (i:Int):=⟨_,rfl⟩;rw [←hx] at x0 x1 ho hg3 hall;obtain ⟨vs,hvs⟩: ∃z,z=(rd_T46 s (i:Int)).f1:=⟨_,rfl⟩;rw [←hvs] at hvl hg3 hall;obtain ⟨oc,hoc⟩: ∃z,z=(rd_T46 s (i:Int)).f0:=⟨_,rfl⟩;rw [←hoc] at ho;have HG3:=aK hg3;have HV:=aK hall;have HZ:=aK (And.intro (And.intro x0 x1) hvl);have HXx:=aK hx;have HVs:=aK hvs;have HOc:=aK hoc;have HO_:=aK ho;clear x0 x1 ho hvl hg3 hall hx hvs hoc;obtain ⟨gX,cX',eX,_,_,_⟩:=Kd.R_form HX.out (by have:=HI1.out;omega);injection eX with a1 a2 a3;subst a1;clear a2 a3;have hcell:=(Kd.R_cell (enc:=Value.int .i64) (h1:=fun _=>rfl) 0 HX.out (i:Int) (by omega) (by have:=HI1.out;omega)).1;rw [Int.toNat_natCast] at hcell;change _=some (Value.int .i64 (rd wl (i:Int))) at hcell
    rw [←HXx.out] at hcell;have r1:=eq_true (show 0≤(i:Int) by omega);have r2:=eq_true (show (i:Int)<(wl.length:Int) by have:=HI1.out;omega);have r3:=eq_true (show (i:Int)<(s.length:Int) by have:=HI1.out;omega);have r2b:=eq_true (show i<wl.length by have:=HI1.out;omega);have r3b:=eq_true (show i<s.length by have:=HI1.out;omega);obtain ⟨ao,A1,c1,e_,ho0,ho1,hv1⟩:=obj_cells HCO.out i HI1.out.1;subst e_;rw [←HOc.out] at ho0;rw [←HVs.out] at ho1 hv1;obtain ⟨j,hj⟩: ∃z,z=x - 1:=⟨_,rfl⟩;have hj0:0≤j∧j<ws.length:=by have:=HZ.out;omega
    have hco:=HO_.out;rw [←hj] at hco;obtain ⟨a0,e0,hc0⟩:=Kd.at_int HD.out.C0 j hj0.1 hj0.2;subst e0;rw [←hco] at hc0;have u1:IntKind.i64.wrap (x - 1)=j:=by rw [hj];exact IntWalk.i64_in _ (by have:=HZ.out;have:=HD.out.l0;omega)
    have r4:=eq_true hj0.1;have r5:=eq_true hj0.2;clear hj hj0 hco;have q0:=(blk_cell BM.out 0).trans rfl;have q1:=(blk_cell BM.out 1).trans rfl;have q2:=(blk_cell BM.out 2).trans rfl;have q3:=(blk_cell BM.out 3).trans rfl;have q4:=(blk_cell BM.out 4).trans rfl;go_wp2;refine sT 15 (S:=fun w'=>Aside0 (Below wr.heap.size wr w')∧w'.cell? ⟨gm,0,none⟩=some (.slice (some a0) ws.length c0)∧w'.cell? ⟨gX,i,none⟩=some (.int .i64 x)∧w'.cell? (ao.add (i*2))=some (.int .i64 oc)∧w'.cell? (a0.add j.toNat)=some (.int .i64 oc)) (ds:=[]) ⟨⟨below_drew1 (Below.refl _ _)⟩,(by go_simp),(by go_simp),(by go_simp),(by go_simp)⟩ (fun hHeld=>?_);refine pS 0 51 (lA 15 1) ?_;refine pS 1 52 (lA 15 3) ?_;refine pS 2 53 (lA 15 7) ?_;refine pS 3 54 (lA 15 15) ?_;refine pS 5 56 (lA 15 47) ?_;refine pS 7 58 (lA 15 175) ?_;refine pS 8 59 (lA 15 431) ?_;refine pS 9 60 (lA 15 943) ?_;refine tS 4 55 (lA 15 959) rfl rfl (by kernel_rfl) hHeld zz15 ?_;refine tS 6 57 (lA 15 1023) rfl rfl (by kernel_rfl) hHeld zz15 ?_;refine tS 10 61 (lA 15 2047) rfl rfl (by kernel_rfl) hHeld zz15 ?_;refine pS 11 62 (lA 15 4095) ?_;refine pS 12 63 (lA 15 8191) ?_;refine tS 13 64 (lA 15 16383) rfl rfl (by kernel_rfl) hHeld zz15 ?_;refine pS 14 65 (lA 15 32767) ?_;refine done_ (by kernel_rfl) ?_;clear hcell r1 r2 r3 r2b r3b ho0 ho1 hv1 hc0 u1 r4 r5 d0 d0b q0 q1 q2 q3 q4;have hb:=hHeld.1.out;clear hHeld;replace HD:=aK (HD.out.below hb);replace BM:=aK (blk_below BM.out hb);replace HB:=aK (below_step HB.out hb);replace HCO:=aK (Kd.C_below HCO.out hb);replace HX:=aK (Kd.R_below HX.out hb);clear hb;go_wp2
    go_loopw [8] (fun v8 wr=> ∃k:Nat,v8= .int .i64 (k:Int)∧Aside0 (k≤vs.length)∧Aside0 (Dr wr (fun _=>True) A5 c5 (some a0) c0 A4 c4 cs ws cards)∧Aside0 (wr.heap[gm]? =some (.cells #[.slice (some a0) ws.length c0,.int .i64 y,.int .i64 t,.int .i64 o,.slice A4 cards.length c4] 27 (0,0)))∧Aside0 (Below w.heap.size w wr)∧Aside0 (Kd.C k46 wr (some ao) s.length s)∧Aside0 (Kd.R (Kd.int .i64) 3 wr 0 (fun _=>True) (.slice (some ⟨gX,0,none⟩) wl.length cX) wl)) (fun v8 _=>vs.length - (intOf v8).toNat)
    case atStart=>exact ⟨0,rfl,⟨Nat.zero_le _⟩,HD,BM,HB,HCO,HX⟩
    case round=>
     clear HD BM HB HCO HX;obtain ⟨k,rfl,HKl,HD,BM,HB,HCO,HX⟩:=hrel;have hcell:=(Kd.R_cell (enc:=Value.int .i64) (h1:=fun _=>rfl) 0 HX.out (i:Int) (by omega) (by have:=HI1.out;omega)).1;rw [Int.toNat_natCast] at hcell;change _=some (Value.int .i64 (rd wl (i:Int))) at hcell
     rw [←HXx.out] at hcell;have r1:=eq_true (show 0≤(i:Int) by omega);have r2:=eq_true (show (i:Int)<(wl.length:Int) by have:=HI1.out;omega);have r3:=eq_true (show (i:Int)<(s.length:Int) by have:=HI1.out;omega);have r2b:=eq_true (show i<wl.length by have:=HI1.out;omega);have r3b:=eq_true (show i<s.length by have:=HI1.out;omega);obtain ⟨ao2,A1,c1,e_,ho0,ho1,hv1⟩:=obj_cells HCO.out i HI1.out.1;obtain rfl:ao=ao2:=(by injection e_);clear e_;rw [←HOc.out] at ho0;rw [←HVs.out] at ho1 hv1;by_cases ck:(k:Int)<(vs.length:Int)
     ·have d1 : decide ((k : Int) < (vs.length : Int)) = true := decide_eq_true ck
      have d1b:=eq_true (show k<vs.length by omega);have HK1:=aK (show k<vs.length by omega);obtain ⟨v,n,hg1,hg2,hval⟩:=HV.out (k:Int) (by omega) ck;have HG1:=aK hg1;have HG2:=aK hg2;have HVal:=aK hval;clear hg1 hg2 hval ck;have q0:=(blk_cell BM.out 0).trans rfl;have q1:=(blk_cell BM.out 1).trans rfl;have q2:=(blk_cell BM.out 2).trans rfl;have q3:=(blk_cell BM.out 3).trans rfl;have q4:=(blk_cell BM.out 4).trans rfl;go_wp2;refine sT 13 (S:=fun w'=>Aside0 (Below wr.heap.size wr w')∧w'.cell? ⟨gm,0,none⟩=some (.slice (some a0) ws.length c0)∧w'.cell? ⟨gm,1,none⟩=some (.int .i64 y)∧w'.cell? ⟨gm,2,none⟩=some (.int .i64 t)∧w'.cell? ⟨gm,3,none⟩=some (.int .i64 o)∧w'.cell? ⟨gm,4,none⟩=some (.slice A4 cards.length c4)∧w'.cell? ⟨gX,i,none⟩=some (.int .i64 x)) (ds:=[]) ⟨⟨below_drew1 (Below.refl _ _)⟩,(by go_simp),(by go_simp),(by go_simp),(by go_simp),(by go_simp),(by go_simp)⟩ (fun hHeld=>?_);refine pS 0 77 (lA 13 1) ?_;refine pS 2 79 (lA 13 5) ?_;refine pS 3 80 (lA 13 13) ?_;refine pS 4 81 (lA 13 29) ?_;refine pS 6 83 (lA 13 93) ?_;refine tS 1 78 (lA 13 95) rfl rfl (by kernel_rfl) hHeld zz28 ?_;refine tS 5 82 (lA 13 127) rfl rfl (by kernel_rfl) hHeld zz28 ?_;refine oS 7 84 (lA 13 255) rfl rfl (fun K hK=>?_);refine gO Try.func15 #[.slice A5 cs.length c5,.agg #[.slice (some a0) ws.length c0,.int .i64 y,.int .i64 t,.int .i64 o,.slice A4 cards.length c4],.int .i64 x,.int .i64 (k:Int)] ?_;(with_reducible refine (impl_MemGet.calls 5000000 A5 c5 cs (some a0) c0 ws y t o A4 c4 cards x (k:Int) v true _ (Kd.C_below HD.out.C5 hHeld.1.out) HD.out.n5 (Kd.C_below HD.out.C0 hHeld.1.out) HD.out.n0 (Kd.C_below HD.out.C4 hHeld.1.out) HD.out.n4 HG1.out).mono ?_);rintro e w9 ⟨rfl,hb9⟩;refine ⟨_,rfl,?_⟩;refine hK.out _ _ ⟨⟨below_step hHeld.1.out hb9⟩,(pw_cell_below hb9 hHeld.2.1),(pw_cell_below hb9 hHeld.2.2.1),(pw_cell_below hb9 hHeld.2.2.2.1),(pw_cell_below hb9 hHeld.2.2.2.2.1),(pw_cell_below hb9 hHeld.2.2.2.2.2.1),(pw_cell_below hb9 hHeld.2.2.2.2.2.2)⟩ (fun hHeld=>?_);clear hK K;refine nS 84 ?_;refine pS 8 76 (lA 13 511) ?_;refine pS 9 85 (lA 13 1023) ?_;refine pS 10 86 (lA 13 2047) ?_;refine pS 11 9 (lA 13 4095) ?_;refine pS 12 10 (lA 13 8191) ?_;refine done_ (by kernel_rfl) ?_;clear hcell r1 r2 r3 r2b r3b ho0 ho1 hv1 q0 q1 q2 q3 q4;have hb:=hHeld.1.out;clear hHeld;replace HD:=aK (HD.out.below hb);replace BM:=aK (blk_below BM.out hb);replace HB:=aK (below_step HB.out hb);replace HCO:=aK (Kd.C_below HCO.out hb);replace HX:=aK (Kd.R_below HX.out hb);clear hb;have hcell:=(Kd.R_cell (enc:=Value.int .i64) (h1:=fun _=>rfl) 0 HX.out (i:Int) (by omega) (by have:=HI1.out;omega)).1;rw [Int.toNat_natCast] at hcell;change _=some (Value.int .i64 (rd wl (i:Int))) at hcell
      rw [←HXx.out] at hcell;have r1:=eq_true (show 0≤(i:Int) by omega);have r2:=eq_true (show (i:Int)<(wl.length:Int) by have:=HI1.out;omega);have r3:=eq_true (show (i:Int)<(s.length:Int) by have:=HI1.out;omega);have r2b:=eq_true (show i<wl.length by have:=HI1.out;omega);have r3b:=eq_true (show i<s.length by have:=HI1.out;omega);obtain ⟨ao2,A1,c1,e_,ho0,ho1,hv1⟩:=obj_cells HCO.out i HI1.out.1;obtain rfl:ao=ao2:=(by injection e_);clear e_;rw [←HOc.out] at ho0;rw [←HVs.out] at ho1 hv1;obtain ⟨a1,e1,hy0,hy1⟩:=val_cells hv1 k HK1.out;subst e1;obtain ⟨vf,hvf⟩: ∃z,z=(rd_T48 vs (k:Int)).f0:=⟨_,rfl⟩;obtain ⟨vn,hvn⟩: ∃z,z=(rd_T48 vs (k:Int)).f1:=⟨_,rfl⟩;have hval:=HVal.out;rw [←hvf,←hvn] at hval;rw [←hvf] at hy0;rw [←hvn] at hy1;have HVal2:=aK hval;clear hval hvf hvn HVal;have r6:=eq_true (show 0≤(k:Int) by omega);have r7:=eq_true (show (k:Int)<(vs.length:Int) by have:=HK1.out;omega);have r7b:=eq_true (show k<vs.length from HK1.out)
      go_wp2_with ((with_reducible refine gate_dst (N:=11) rfl ?_);refine Classical.byContradiction (fun hng=>?_))
      refine hng ?_;clear hng;refine box_event ?hg (N:=11) ?hd (cs:= #[.bool false,.int .i64 0]) (t:=48) ?hr ?_
      (case hd=>rfl)
      (case hg=>rfl)
      (case hr=>first|(go_simp;done)|(go_simp;rfl))
      intro gv hg w7 hbox hb;have z0:=(blk_cell hbox 0).trans rfl;have z1:=(blk_cell hbox 1).trans rfl;have zf0:=blk_frozen hbox 0;have zf1:=blk_frozen hbox 1;have BV1:=aK hbox;have HBv:=aK hb;have HGv:=aK hg;clear hb hbox hg
      go_wp2_with ((with_reducible refine gate_store (t:=48) (p:=11) rfl ?_);refine Classical.byContradiction (fun hng=>?_))
      refine hng ?_;clear hng;refine store_event (t:=48) (p:=11) (v:=?vv) (w1:=(valBox w7 gv (.bool vf) (.int .i64 vn))) ?hg ?ho ?hn ?hr ?_
      (case ho=>rfl)
      (case hg=>rfl)
      (case hn=>rfl)
      (case hr=>first|(go_simp;done)|(go_simp;rfl))
      intro w8 hw;have hc:Ch (fun k=>k=gv) w7 w8:=by rw [hw];exact (Ch.refl (fun k=>k=gv) _).box2 (.inl rfl) _ _
      have BV:=aK (show w8.heap[gv]? =some (.cells #[.bool vf,.int .i64 vn] 48 (0,0)) by rw [hw];exact blk_box2 BV1.out);have hb:=HBv.out.trans (hc.toBelow (B:=w9.heap.size) (below_size HBv.out) (fun k hk=>by rw [hk,HGv.out];exact Nat.le_refl _));clear hw hc z0 z1 zf0 zf1 BV1 HBv HGv hcell r1 r2 r3 r2b r3b ho0 ho1 hy0 hy1 r6 r7 r7b;replace HD:=aK (HD.out.below hb);replace BM:=aK (blk_below BM.out hb);replace HB:=aK (below_step HB.out hb);replace HCO:=aK (Kd.C_below HCO.out hb);replace HX:=aK (Kd.R_below HX.out hb);clear hb
      cases vf with
      |false=>
       obtain rfl:vn=v:=HVal2.out;have y0:=(blk_cell BV.out 0).trans rfl;have y1:=(blk_cell BV.out 1).trans rfl;go_wp2;refine sT 24 (S:=fun w'=>Aside0 (Below w8.heap.size w8 w')∧w'.cell? ⟨gv,0,none⟩=some (.bool false)∧w'.cell? ⟨gv,1,none⟩=some (.int .i64 vn)) (ds:=[]) ⟨⟨below_drew1 (Below.refl _ _)⟩,(by go_simp),(by go_simp)⟩ (fun hHeld=>?_);refine pS 0 95 (lA 24 1) ?_;refine pS 1 96 (lA 24 3) ?_;refine pS 2 97 (lA 24 7) ?_;refine pS 3 98 (lA 24 15) ?_;refine tS 4 99 (lA 24 31) rfl rfl (by kernel_rfl) hHeld (by rintro w' ⟨s0,s1,s2⟩;go_simp;with_reducible rfl) ?_;refine pS 5 100 (lA 24 63) ?_;refine pS 6 101 (lA 24 127) ?_;refine pS 7 102 (lA 24 255) ?_;refine pS 9 104 (lA 24 767) ?_;refine tS 8 103 (lA 24 1023) rfl rfl (by kernel_rfl) hHeld (by rintro w' ⟨s0,s1,s2⟩;go_simp;with_reducible rfl) ?_;refine pS 10 105 (lA 24 2047) ?_;refine pS 11 106 (lA 24 4095) ?_;refine pS 12 107 (lA 24 8191) ?_;refine pS 13 108 (lA 24 16383) ?_;refine pS 14 109 (lA 24 32767) ?_;refine tS 15 110 (lA 24 65535) rfl rfl (by kernel_rfl) hHeld (by rintro w' ⟨s0,s1,s2⟩;go_simp;with_reducible rfl) ?_;refine pS 16 111 (lA 24 131071) ?_;refine pU 17 112 (lA 24 262143) ?_;refine pU 18 113 (lA 24 524287) ?_;refine pU 19 114 (lA 24 1048575) ?_;refine pU 20 115 (lA 24 2097151) ?_;refine pU 21 116 (lA 24 4194303) ?_;refine pS 22 117 (lA 24 8388607) ?_;refine pS 23 118 (lA 24 16777215) ?_;refine done_ (by kernel_rfl) ?_;clear y0 y1 BV;have hb:=hHeld.1.out;clear hHeld;replace HD:=aK (HD.out.below hb);replace BM:=aK (blk_below BM.out hb);replace HB:=aK (below_step HB.out hb);replace HCO:=aK (Kd.C_below HCO.out hb);replace HX:=aK (Kd.R_below HX.out hb);clear hb;have u3:IntKind.i64.wrap ((k:Int)+1)=(k:Int)+1:=IntWalk.i64_in _ (by have:=HK1.out;have:=HZ.out;omega)
       go_wp2
       go_roundw
       case rel=>exact ⟨k+1,rfl,⟨HK1.out⟩,HD,BM,HB,HCO,HX⟩
       case measure=>have:=HK1.out;simp only [intOf];omega
      |true=>
       obtain rfl:vn=n:=HVal2.out;have y0:=(blk_cell BV.out 0).trans rfl;have y1:=(blk_cell BV.out 1).trans rfl;go_wp2;refine sT 24 (S:=fun w'=>Aside0 (Below w8.heap.size w8 w')∧w'.cell? ⟨gv,0,none⟩=some (.bool true)∧w'.cell? ⟨gv,1,none⟩=some (.int .i64 vn)) (ds:=[]) ⟨⟨below_drew1 (Below.refl _ _)⟩,(by go_simp),(by go_simp)⟩ (fun hHeld=>?_);refine pS 0 95 (lA 24 1) ?_;refine pS 1 96 (lA 24 3) ?_;refine pS 2 97 (lA 24 7) ?_;refine pS 3 98 (lA 24 15) ?_;refine tS 4 99 (lA 24 31) rfl rfl (by kernel_rfl) hHeld (by rintro w' ⟨s0,s1,s2⟩;go_simp;with_reducible rfl) ?_;refine pS 5 100 (lA 24 63) ?_;refine pS 6 101 (lA 24 127) ?_;refine pU 7 102 (lA 24 255) ?_;refine pU 8 103 (lA 24 511) ?_;refine pU 9 104 (lA 24 1023) ?_;refine pU 10 105 (lA 24 2047) ?_;refine pS 11 106 (lA 24 4095) ?_;refine pS 12 107 (lA 24 8191) ?_;refine pS 13 108 (lA 24 16383) ?_;refine pS 14 109 (lA 24 32767) ?_;refine tS 15 110 (lA 24 65535) rfl rfl (by kernel_rfl) hHeld (by rintro w' ⟨s0,s1,s2⟩;go_simp;with_reducible rfl) ?_;refine pS 16 111 (lA 24 131071) ?_;refine pS 18 113 (lA 24 393215) ?_;refine pS 19 114 (lA 24 917503) ?_;refine tS 17 112 (lA 24 1048575) rfl rfl (by kernel_rfl) hHeld (by rintro w' ⟨s0,s1,s2⟩;go_simp;with_reducible rfl) ?_;refine oS 20 115 (lA 24 2097151) rfl rfl (fun K hK=>?_);refine gO Try.func22 #[.slice (some ⟨gX,0,none⟩) wl.length cX,.int .i64 v] ?_;(with_reducible refine (laws_leVal.calls 5000000 (some ⟨gX,0,none⟩) cX wl v true vn _ (Kd.C_below (Kd.R_reads' HX.out).2.2 hHeld.1.out) (Kd.R_reads' HX.out).2.1 HG2.out).mono ?_);rintro e w9 ⟨rfl,hb9⟩;refine ⟨_,rfl,?_⟩;refine hK.out _ _ ⟨⟨below_step hHeld.1.out hb9⟩,(pw_cell_below hb9 hHeld.2.1),(pw_cell_below hb9 hHeld.2.2)⟩ (fun hHeld=>?_);clear hK K;refine nS 115 ?_;refine pS 21 116 (lA 24 4194303) ?_;refine pS 22 117 (lA 24 8388607) ?_;refine pS 23 118 (lA 24 16777215) ?_;refine done_ (by kernel_rfl) ?_;clear y0 y1 BV;have hb:=hHeld.1.out;clear hHeld;replace HD:=aK (HD.out.below hb);replace BM:=aK (blk_below BM.out hb);replace HB:=aK (below_step HB.out hb);replace HCO:=aK (Kd.C_below HCO.out hb);replace HX:=aK (Kd.R_below HX.out hb);clear hb;have u3:IntKind.i64.wrap ((k:Int)+1)=(k:Int)+1:=IntWalk.i64_in _ (by have:=HK1.out;have:=HZ.out;omega)
       go_wp2
       go_roundw
       case rel=>exact ⟨k+1,rfl,⟨HK1.out⟩,HD,BM,HB,HCO,HX⟩
       case measure=>have:=HK1.out;simp only [intOf];omega
     ·have d1 : decide ((k : Int) < (vs.length : Int)) = false := decide_eq_false ck
      have d1b:=eq_false (show¬k<vs.length by omega);clear ck;have q0:=(blk_cell BM.out 0).trans rfl;have q1:=(blk_cell BM.out 1).trans rfl;have q2:=(blk_cell BM.out 2).trans rfl;have q3:=(blk_cell BM.out 3).trans rfl;have q4:=(blk_cell BM.out 4).trans rfl;go_wp2;refine sT 18 (S:=fun w'=>Aside0 (Below wr.heap.size wr w')∧w'.cell? ⟨gm,0,none⟩=some (.slice (some a0) ws.length c0)∧w'.cell? ⟨gm,1,none⟩=some (.int .i64 y)∧w'.cell? ⟨gm,2,none⟩=some (.int .i64 t)∧w'.cell? ⟨gm,3,none⟩=some (.int .i64 o)∧w'.cell? ⟨gm,4,none⟩=some (.slice A4 cards.length c4)∧w'.cell? ⟨gX,i,none⟩=some (.int .i64 x)∧w'.cell? ⟨(ao.add (i*2)).block,(ao.add (i*2)).off+1,none⟩=some (.slice A1 vs.length c1)) (ds:=[]) ⟨⟨below_drew1 (Below.refl _ _)⟩,(by go_simp),(by go_simp),(by go_simp),(by go_simp),(by go_simp),(by go_simp),(by go_simp)⟩ (fun hHeld=>?_);refine pS 0 120 (lA 18 1) ?_;refine pS 2 122 (lA 18 5) ?_;refine pS 3 123 (lA 18 13) ?_;refine pS 4 124 (lA 18 29) ?_;refine pS 6 126 (lA 18 93) ?_;refine pS 7 127 (lA 18 221) ?_;refine pS 8 128 (lA 18 477) ?_;refine pS 9 129 (lA 18 989) ?_;refine tS 1 121 (lA 18 991) rfl rfl (by kernel_rfl) hHeld (by rintro w' ⟨s0,s1,s2,s3,s4,s5,s6,s7⟩;go_simp;with_reducible rfl) ?_;refine tS 5 125 (lA 18 1023) rfl rfl (by kernel_rfl) hHeld (by rintro w' ⟨s0,s1,s2,s3,s4,s5,s6,s7⟩;go_simp;with_reducible rfl) ?_;refine tS 10 130 (lA 18 2047) rfl rfl (by kernel_rfl) hHeld (by rintro w' ⟨s0,s1,s2,s3,s4,s5,s6,s7⟩;go_simp;with_reducible rfl) ?_;refine pS 11 131 (lA 18 4095) ?_;refine oS 12 132 (lA 18 8191) rfl rfl (fun K hK=>?_);refine gO Try.func15 #[.slice A5 cs.length c5,.agg #[.slice (some a0) ws.length c0,.int .i64 y,.int .i64 t,.int .i64 o,.slice A4 cards.length c4],.int .i64 x,.int .i64 (vs.length:Int)] ?_;(with_reducible refine (impl_MemGet.calls 5000000 A5 c5 cs (some a0) c0 ws y t o A4 c4 cards x (vs.length:Int) 0 false _ (Kd.C_below HD.out.C5 hHeld.1.out) HD.out.n5 (Kd.C_below HD.out.C0 hHeld.1.out) HD.out.n0 (Kd.C_below HD.out.C4 hHeld.1.out) HD.out.n4 HG3.out).mono ?_);rintro e w9 ⟨rfl,hb9⟩;refine ⟨_,rfl,?_⟩;refine hK.out _ _ ⟨⟨below_step hHeld.1.out hb9⟩,(pw_cell_below hb9 hHeld.2.1),(pw_cell_below hb9 hHeld.2.2.1),(pw_cell_below hb9 hHeld.2.2.2.1),(pw_cell_below hb9 hHeld.2.2.2.2.1),(pw_cell_below hb9 hHeld.2.2.2.2.2.1),(pw_cell_below hb9 hHeld.2.2.2.2.2.2.1),(pw_cell_below hb9 hHeld.2.2.2.2.2.2.2)⟩ (fun hHeld=>?_);clear hK K;refine nS 132 ?_;refine pS 13 119 (lA 18 16383) ?_;refine pS 14 133 (lA 18 32767) ?_;refine pS 15 134 (lA 18 65535) ?_;refine pS 16 12 (lA 18 131071) ?_;refine pS 17 13 (lA 18 262143) ?_;refine done_ (by kernel_rfl) ?_;clear hcell r1 r2 r3 r2b r3b ho0 ho1 hv1 d1 d1b q0 q1 q2 q3 q4;have hb:=hHeld.1.out;clear hHeld;replace HD:=aK (HD.out.below hb);replace BM:=aK (blk_below BM.out hb);replace HB:=aK (below_step HB.out hb);replace HCO:=aK (Kd.C_below HCO.out hb);replace HX:=aK (Kd.R_below HX.out hb);clear hb;have u3:IntKind.i64.wrap ((i:Int)+1)=(i:Int)+1:=IntWalk.i64_in _ (by have:=HI1.out;have:=HS.out;omega)
      go_wp2
      go_roundw
      case rel=>exact ⟨i+1,rfl,⟨HI1.out.1⟩,HD,BM,HB,HCO,HX⟩
      case measure=>have:=HI1.out;simp only [intOf];omega
   ·have d0 : decide ((i : Int) < (s.length : Int)) = false := decide_eq_false cx
    have d0b:=eq_false (show¬i<s.length by omega);have dl:=HL_.out;clear cx;go_wp2;go_ret;exact ⟨by simp [dl],by first|exact HB.out|exact below_drew1 HB.out⟩
end Go.Proofs.Ytnlieahdakafbaa.K
namespace Go.Proofs.Ytnlieahdakafbaa.K
open Go.RowKit Go.Proofs.YtnlieahdakafbaaW.PrintWords Go.Proofs.YtnlieahdakafbaaW.PrintLast Go.Proofs.YtnlieahdakafbaaW.PrintMore
attribute [local go_sem] max2_int min2_int max_two min_two max_three min_three max_four min_four
set_option linter.unusedVariables false
set_option linter.unusedSimpArgs false
section
open Go.ChangeShapes Go.WideShapes Go.ChangeAt Go.Deep
def Opens {H α:Type} (enc:TypeId×Value→H) (P:Program) (w:World) (d:Kd α) (G:α→Prop) (t:TypeId):Prop:=
  ∀(fuel:Nat) (cs:List Value) (x:DataW H×List MemPlace),DataW.trod enc P w 0 (fun _=>true) true fuel t cs=some x→∃a:α,d.K w a cs∧G a
variable {H α:Type} {enc:TypeId×Value→H} {P:Program} {w:World} {d:Kd α} {G:α→Prop} {t e:TypeId}
theorem opens_int {k:IntKind} (ht:P.underlying t=some (.int k)):Opens enc P w (Kd.int k) (fun n=>(Lit.int k n).wf=true) t:=by
 intro fuel cs x h;obtain ⟨n,rfl,_,hw⟩:=DataW.trod_int ht h;exact ⟨n,rfl,hw⟩
def GL (G:α→Prop) (xs:List α):Prop:=xs.length≤9223372036854775807∧∀x∈xs,G x
theorem list_of {Q : Nat → α → Prop} : ∀ n : Nat, (∀ i, i < n → ∃ p, Q i p) → ∃ xs : List α, xs.length = n ∧ ∀ i p, xs[i]? = some p → Q i p
  |0,_=>⟨[],rfl,fun i p h=>by simp at h⟩
  | n + 1, h => by
    obtain ⟨xs,hl,hx⟩:=list_of n (fun i hi=>h i (by omega));obtain ⟨p,hp⟩:=h n (by omega);refine ⟨xs++[p],by simp [hl],fun i q hq=>?_⟩;by_cases hi:i<n
    · rw [List.getElem?_append_left (by omega)] at hq
      exact hx i q hq
    · have : i = n := by
        have:=(List.getElem?_eq_some_iff.1 hq).1
        simp at this;omega
      subst this;rw [List.getElem?_append_right (by omega)] at hq;simp [hl] at hq
      subst hq;exact hp
theorem opens_slice (ht:P.underlying t=some (.slice e)) (hs:d.sz=P.cellsOf e) (he:Opens enc P w d G e):Opens enc P w (Kd.slice e d) (GL G) t:=by
 intro fuel cs x h;rcases open_slice ht h with ⟨rfl,_⟩|⟨a,len,cap,m,n,D,Pl,rfl,hb,hl,hm,hmm,hx,hi⟩
 ·exact ⟨[],⟨none,0,rfl,Nat.le_refl _,Kd.C_nil _ _⟩,by simp [GL]⟩
 ·have hmc : m = cap := by simpa using hmm
  obtain ⟨xs,hlen,hxs⟩:=list_of (Q:=fun i p=> ∃c,c.length=d.sz∧d.K w p c∧(∀j u,c[j]? =some u→w.cell? (a.add (i*d.sz+j))=some u)∧G p) len (fun i hil=>by
   obtain ⟨cs',hc,ht'⟩:=hi i (by omega);obtain ⟨p,hK,hG⟩:=he n cs' _ ht';obtain ⟨_,hcl,hat⟩:=World.cells?_some hc;refine ⟨p,cs',d.K_len hK,hK,fun j u hu=>?_,hG⟩;have hj:j<P.cellsOf e:=by rw [←hcl];exact (List.getElem?_eq_some_iff.1 hu).1
   have:=hat j hj
   rw [Go.Deep.add_add] at this
   rw [hs,this,hu])
  subst hlen;refine ⟨xs,⟨some a,cap,rfl,hl,rfl,?_,fun _=>⟨a,rfl,fun j p hj=>?_⟩⟩,?_,fun x hx=>?_⟩
  ·have : maxLen = 9223372036854775807 := rfl
   omega
  ·obtain ⟨c, h1, h2, h3, _⟩ := hxs j p hj
   exact ⟨c,h1,h2,h3⟩
  ·have : maxLen = 9223372036854775807 := rfl
   omega
  ·obtain ⟨i, hi', rfl⟩ := List.getElem_of_mem hx
   obtain ⟨c,_,_,_,hG⟩:=hxs i _ (List.getElem?_eq_getElem hi');exact hG
end
def laws_FnObjsGet.Pure:Prop:= ∀(a0:List Int),(GL (fun n:Int=>(Lit.int .u8 n).wf=true)) a0→laws_FnObjsGet.f a0=some true
section
open Go.ChangeShapes Go.WideShapes Go.ChangeAt Go.Deep
end
end Go.Proofs.Ytnlieahdakafbaa.K
namespace Go.Proofs.Ytnlieahdakafbaa.Pure
open Go.RowKit Go.Proofs.Ytnlieahdakafbaa.K Go.Proofs.YtnlieahdakafbaaW.PrintWords Go.Proofs.YtnlieahdakafbaaW.PrintLast Go.Proofs.YtnlieahdakafbaaW.PrintMore
set_option linter.unusedVariables false
set_option linter.unusedSimpArgs false
theorem FnObjsGet:laws_FnObjsGet.Pure:=by
 intro l hl;unfold laws_FnObjsGet.f;exact if_pos (show∀x∈l,(Lit.int .u8 x).wf=true from hl.2)
end Go.Proofs.Ytnlieahdakafbaa.Pure
