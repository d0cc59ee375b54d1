import Derived.Test.YtnlieahdakafbaaPb24
import Derived.Test.YtnlieahdakafbaaPb32
import Derived.Test.YtnlieahdakafbaaPb35
import Derived.Deep.CutRange
import Derived.Deep.CutBlock
import Derived.Shelf.Spec.SlicesInsertGrow
import Derived.Test.YtnlieahdakafbaaPb30
import Derived.Test.YtnlieahdakafbaaPb27
namespace Go.Proofs.Ytnlieahdakafbaa.K
open Go.RowKit Go.Proofs.YtnlieahdakafbaaW.PrintWords Go.Proofs.YtnlieahdakafbaaW.PrintLast Go.Proofs.YtnlieahdakafbaaW.PrintMore
attribute [local go_sem] max2_int min2_int max_two min_two max_three min_three max_four min_four
set_option linter.unusedVariables false
set_option linter.unusedSimpArgs false
open Go.Proofs.Ytnlieahdakafbaa.Pure
set_option maxHeartbeats 64000000 in
set_option maxRecDepth 100000 in
theorem mem_any (M:Int) (g:Nat) (w0 w:World) (hi:Rdr M w0 w g) (hM:M≤100000):
  Calls Try.prog 31 #[.pointer (some ⟨g,0,none⟩)] w (MemP M w0 w g):=by
 obtain ⟨b0,hb0⟩: ∃b,b=w.heap.size:=⟨_,rfl⟩;have HG:=aK (show g<b0∧w0.heap.size≤b0 by have h1:=hi.lt;have h2:=hi.ge;rw [hb0];omega);have HBW:=aK hb0;have HI:=aK hi;have HM:=aK hM;have HCh:=aK (Ch.refl (fun k=>k=g) w);clear hi hM hb0;go_enter Try.func31,Try.ntmps31
 go_wp2_with ((with_reducible refine gate_dst (N:=3) rfl ?_);refine Classical.byContradiction (fun hng=>?_))
 refine hng ?_;clear hng;refine box_event ?hg (N:=3) ?hd (cs:= #[.slice none 0 0,.int .i64 0,.int .i64 0,.int .i64 0,.slice none 0 0]) (t:=27) ?hr ?_
 (case hd=>rfl)
 (case hg=>rfl)
 (case hr=>first|(go_simp;done)|(go_simp;rfl))
 intro gz hg w1 hbox hb;have BZ1:=aK hbox;have HI1:=aK (HI.out.below hb);have HCh1:=aK (HCh.out.below hb);have HGz:=aK (show b0≤gz by rw [hg,HBW.out];exact Nat.le_refl _);clear hb hbox hg HI HCh
 go_wp2_with (go_at_call 61;refine Classical.byContradiction (fun hng=>?_))
 refine hng ?_;clear hng;refine (classes_any M g w0 _ HI1.out z53).mono ?_;rintro e w2 ⟨v5,cs,rfl,⟨hok,hfew⟩,hS,hi,hk⟩;have hst:=HI1.out.step hi hk;have HI2:=aK hi;have HCh2:=aK (HCh1.out.then_ hst);have BZ2:=aK (hst.blk BZ1.out (by have:=HG.out;have:=HGz.out;omega));obtain ⟨s1,hs1⟩: ∃z,z=w2.heap.size:=⟨_,rfl⟩;have HS1:=aK (show gz<s1 by rw [hs1];exact blk_lt BZ2.out);have HV2:=aK (show Kd.V k112 112 w2 b0 (fun k=>gz<k∧k<s1) v5 cs from Kd.S_V (Kd.S_mono (Kd.S_bound hS) (fun k hk=>⟨by have:=blk_lt BZ1.out;omega,by rw [hs1];exact hk.2.2.1⟩)));have HOk:=aK hok;have HFw:=aK hfew;have Hs1:=aK hs1;obtain ⟨A,cA,eA⟩:=Kd.V_slice HV2.out;subst eA;clear hok hfew hS hi hk hst hs1 HI1 HCh1 BZ1
 go_wp2_with (go_at_call 62;refine Classical.byContradiction (fun hng=>?_))
 refine hng ?_;clear hng;refine (fill_any _ g A cA cs w0 _ HI2.out z53 HOk.out (Kd.C_foot_ownV HV2.out (fun k hk=>by have:=HG.out;have:=HGz.out;omega)) (Kd.V_reads' HV2.out).2.1).mono ?_;rintro e w3 ⟨gw,cW,gc,cC,ws,y,t,o,cards,v7,rt,rfl,hB,hrl,hO,hR,hi,hc⟩;rw [←Hs1.out] at hO hR;have HO3:=aK hO;have HR3:=aK hR;have HI3:=aK hi;have HCh3:=aK (HCh2.out.then_ hc);have BZ3:=aK (hc.blk BZ2.out (by have:=HG.out;have:=HGz.out;omega));have HV3:=aK (Kd.V_kept HV2.out hc.kept (fun k hk q=>by have:=HG.out;have:=HGz.out;omega));have HLs:=aK (show (14≤ws.length∧ws.length≤160)∧(4≤cards.length∧cards.length≤40)∧rt.length≤60 by have:=hB.n0;have:=hB.n1;have:=hB.y0;have:=hB.y1;have:=hB.cd;omega);clear hB hrl hO hR hi hc HI2 HCh2 BZ2 HV2;obtain ⟨A7,c7,e7⟩:=Kd.R_slice HR3.out;subst e7
 go_wp2_with ((with_reducible refine gate_dst (N:=6) rfl ?_);refine Classical.byContradiction (fun hng=>?_))
 refine hng ?_;clear hng;refine box_event ?hg (N:=6) ?hd (cs:= #[.slice none 0 0,.int .i64 0,.int .i64 0,.int .i64 0,.slice none 0 0]) (t:=27) ?hr ?_
 (case hd=>rfl)
 (case hg=>rfl)
 (case hr=>first|(go_simp;done)|(go_simp;rfl))
 intro gm hg w4 hbox hb;have HO4:=aK (HO3.out.ch ((Ch.refl (fun _=>False) _).below hb) (fun h=>h) (fun h=>h));have HR4:=aK (Kd.R_mono (Kd.R_bound (Kd.R_below HR3.out hb)) (fun k hk=>(show k≠gw from hk.1)));have HV4:=aK (Kd.V_below HV3.out hb);have BZ4:=aK (blk_below BZ3.out hb);have HI4:=aK (HI3.out.below hb);have HCh4:=aK (HCh3.out.below hb);have HGm:=aK (show s1≤gm by rw [hg];have:=HO3.out.bw;omega);have BM4:=aK hbox;clear hb hbox hg HO3 HR3 HV3 BZ3 HI3 HCh3;have c0:=(blk_cell BM4.out 0).trans rfl;have c1:=(blk_cell BM4.out 1).trans rfl;have c2:=(blk_cell BM4.out 2).trans rfl;have c3:=(blk_cell BM4.out 3).trans rfl;have c4:=(blk_cell BM4.out 4).trans rfl;have f0:=blk_frozen BM4.out 0;have f1:=blk_frozen BM4.out 1;have f2:=blk_frozen BM4.out 2;have f3:=blk_frozen BM4.out 3;have f4:=blk_frozen BM4.out 4
 go_wp2_with ((with_reducible refine gate_store (t:=27) (p:=6) rfl ?_);refine Classical.byContradiction (fun hng=>?_))
 refine hng ?_;clear hng;refine store_event (t:=27) (p:=6) (v:=?vm1) (w1:=(memBox w4 gm (.slice (some ⟨gw,0,none⟩) ws.length cW) (.int .i64 y) (.int .i64 t) (.int .i64 o) (.slice (some ⟨gc,0,none⟩) cards.length cC))) ?hg ?ho ?hn ?hr ?_
 (case ho=>rfl)
 (case hg=>rfl)
 (case hn=>rfl)
 (case hr=>first|(go_simp;done)|(go_simp;rfl))
 intro w5 hw;have n4:=HO4.out.nbox BM4.out;have hc4:Ch (fun k=>k=gm) w4 w5:=by rw [hw];exact (Ch.refl (fun k=>k=gm) _).box5 (.inl rfl) _ _ _ _ _
 have HMs5:=aK (show Ms b0 s1 gz gm gw cW gc cC w5 (.slice A cs.length cA) (.slice A7 rt.length c7) cs ws y t o cards rt from ⟨HO4.out.ch hc4 n4.1 n4.2,Kd.V_kept HV4.out hc4.kept (fun k hk q=>by have:=HGm.out;omega),by rw [hw];exact R_box5t HR4.out BM4.out (by decide),by rw [hw];exact blk_box5 BM4.out,hc4.blk BZ4.out (by have:=HGm.out;have:=HS1.out;omega),⟨HGz.out,HS1.out,HGm.out⟩,⟨by have:=csOk_len HOk.out;omega,by have:=csOk_len HOk.out;omega,fun x hx=>by have:=HFw.out x hx;omega⟩,HLs.out.1,HLs.out.2.1,HLs.out.2.2⟩);have HI5:=aK (HI4.out.ch hc4 (by have:=HG.out;have:=HGz.out;have:=HGm.out;have:=HS1.out;omega) (fun k hk=>by have:=HG.out;have:=HGz.out;have:=HGm.out;have:=HS1.out;omega));have HCh5:=aK (HCh4.out.trans hc4 (fun k hk=> .inr (by have:=HBW.out;have:=HGz.out;have:=HGm.out;have:=HS1.out;omega)));clear hw hc4 n4 HO4 HR4 HV4 BM4 BZ4 HI4 HCh4;clear c0 c1 c2 c3 c4;clear f0 f1 f2 f3 f4
 go_wp2_with (go_at_call 33;refine Classical.byContradiction (fun hng=>?_))
 refine hng ?_;clear hng;refine (pick_any _ g 16 w0 _ HI5.out z53 (by have:=HMs5.out.l0;omega) (by have:=HMs5.out.l0;omega)).mono ?_;rintro e w6 ⟨q,rfl,hq,hi,hk⟩;have hst:=HI5.out.step hi hk;have HI6:=aK hi;have HCh6:=aK (HCh5.out.then_ hst);have HMs6:=aK (HMs5.out.ch hst (fun k hk=>by have:=HG.out;omega));clear hst hi hk HI5 HCh5 HMs5;by_cases cq:0<q
 ·have d0 : decide (0 < q) = true := decide_eq_true cq
  clear cq hq;have HD:=aK (HMs6.out.dm.mono (fun k hk=>hk.1));have BMt:=aK HMs6.out.bm;have BZt:=aK HMs6.out.bz;have HIt:=HI6;have HCht:=HCh6;clear HMs6 HI6 HCh6;go_wp2;replace HD:=aK (HD.out.ch (Ch.drew (Ch.refl (fun _=>False) _)) (fun _ _ h=>h));replace BMt:=aK (blk_drew BMt.out);replace BZt:=aK (blk_drew BZt.out);replace HIt:=aK HIt.out.drew;replace HCht:=aK HCht.out.drew;have z0:=(blk_cell BZt.out 0).trans rfl;have z1:=(blk_cell BZt.out 1).trans rfl;have z2:=(blk_cell BZt.out 2).trans rfl;have z3:=(blk_cell BZt.out 3).trans rfl;have z4:=(blk_cell BZt.out 4).trans rfl;have y_0:=blk_frozen BZt.out 0;have y_1:=blk_frozen BZt.out 1;have y_2:=blk_frozen BZt.out 2;have y_3:=blk_frozen BZt.out 3;have y_4:=blk_frozen BZt.out 4;refine sT 6 (S:=fun w'=>w'.cell? ⟨gm,0,none⟩=some (.slice (some ⟨gw,0,none⟩) ws.length cW)∧w'.cell? ⟨gm,1,none⟩=some (.int .i64 y)∧w'.cell? ⟨gm,2,none⟩=some (.int .i64 t)∧w'.cell? ⟨gm,3,none⟩=some (.int .i64 o)∧w'.cell? ⟨gm,4,none⟩=some (.slice (some ⟨gc,0,none⟩) cards.length cC)) (ds:=[4]) ⟨((blk_cell BMt.out 0).trans rfl),((blk_cell BMt.out 1).trans rfl),((blk_cell BMt.out 2).trans rfl),((blk_cell BMt.out 3).trans rfl),((blk_cell BMt.out 4).trans rfl)⟩ (fun hHeld=>?_);generalize w6.drew=wt at HD BMt BZt HIt HCht z0 z1 z2 z3 z4 y_0 y_1 y_2 y_3 y_4 hHeld ⊢;refine pS 0 20 #[true,false,false,false,false,false] ?_;refine pS 2 22 #[true,false,true,false,false,false] ?_;refine pS 3 2 #[true,false,true,true,false,false] ?_;refine tS 1 21 #[true,true,true,true,false,false] rfl rfl (by kernel_rfl) hHeld z12 ?_;refine last_ (i:=4) (N:=none) #[true,true,true,true,true,false] rfl rfl (by kernel_rfl) (by decide) (fun K hK=>?_);refine skip_ (w1:=?_) (by rfl) rfl ?_ ?_;rotate_left
  ·go_simp
   rfl
  refine hK.out _ _ ?_;clear hK K;refine pS 5 4 #[true,true,true,true,true,true] ?_;refine done_ (by kernel_rfl) ?_;clear z0 y_0 z1 y_1 z2 y_2 z3 y_3 z4 y_4;go_wp2;refine bodyPost_ret (results_list (rs:=[.tmp 2,.cell 3 27,.tmp 4]) rfl (by simp) (.tmp (.cell gz 27 #[.slice (some ⟨gw,0,none⟩) ws.length cW,.int .i64 y,.int .i64 t,.int .i64 o,.slice (some ⟨gc,0,none⟩) cards.length cC] (0,0) _ rfl (blk_box5 BZt.out) Try.underlying27 rfl (by kernel_rfl) (.tmp .nil)))) rfl ?_;exact (show Dm _ w.heap.size (fun k=>w.heap.size≤k∧k≠gz) _ _ _ _ _ _ _ _ by rw [←HBW.out];exact HD.out).ret HIt.out (by omega) HCht.out (by have:=HG.out;have:=HBW.out;omega) (by have:=HGz.out;have:=HBW.out;omega)
 ·have d0 : decide (0 < q) = false := decide_eq_false cq
  clear cq hq;have k0:=(blk_cell HMs6.out.bm 0).trans rfl
  go_wp2_with fail
  go_at_call 33;refine (pick_any _ g ws.length w0 _ HI6.out z53 (by have:=HMs6.out.l0;omega) (by have:=HMs6.out.l0;omega)).mono ?_;rintro e w7 ⟨at_,rfl,hat,hi,hk⟩;have hst:=HI6.out.step hi hk;have HI7:=aK hi;have HCh7:=aK (HCh6.out.then_ hst);have HMs7:=aK (HMs6.out.ch hst (fun k hk=>by have:=HG.out;omega));have HAt:=aK hat;clear hat k0;clear hst hi hk HI6 HCh6 HMs6
  go_wp2_with fail
  go_at_call 33;refine (pick_any _ g 10 w0 _ HI7.out z53 (by have:=HMs7.out.l0;omega) (by have:=HMs7.out.l0;omega)).mono ?_;rintro e w8 ⟨s,rfl,hs,hi,hk⟩;have hst:=HI7.out.step hi hk;have HI8:=aK hi;have HCh8:=aK (HCh7.out.then_ hst);have HMs8:=aK (HMs7.out.ch hst (fun k hk=>by have:=HG.out;omega));clear hst hi hk HI7 HCh7 HMs7
  go_upto_block 0 with fail
  go_cut [5,7] from 30 to 102 (fun v5 v7 wx=> ∃(A5:Option Addr) (n5 c5:Nat) (A0:Option Addr) (n0 c0:Nat) (A4:Option Addr) (n4 c4:Nat) (A9:Option Addr) (n9 c9:Nat) (cs:Cs) (ws:List Int) (y t o:Int) (cards:List Bool) (rt:List Int),v5= .slice A5 n5 c5∧v7= .slice A9 n9 c9∧Aside0 (Dm wx b0 (fun k=>b0≤k∧k≠gz) (.slice A5 n5 c5) (.slice A0 n0 c0) (.slice A4 n4 c4) (.slice A9 n9 c9) cs ws cards rt)∧Aside0 (wx.heap[gm]? =some (.cells #[.slice A0 n0 c0,.int .i64 y,.int .i64 t,.int .i64 o,.slice A4 n4 c4] 27 (0,0)))∧Aside0 (wx.heap[gz]? =some (.cells #[.slice none 0 0,.int .i64 0,.int .i64 0,.int .i64 0,.slice none 0 0] 27 (0,0)))∧Aside0 (Rdr (M+6000) w0 wx g)∧Aside0 (Ch (fun k=>k=g) w wx))
  case first =>
   have hs10:s=0∨s=1∨s=2∨s=3∨s=4∨s=5∨s=6∨s=7∨s=8∨s=9:=by omega
   clear hs;rcases hs10 with rfl|rfl|rfl|rfl|rfl|rfl|rfl|rfl|rfl|rfl
   ·have k0 := (blk_cell HMs8.out.bm 0).trans rfl
    go_wp2;replace HMs8:=aK (HMs8.out.ch (Ch.drew (Ch.refl (fun _=>False) _)) (fun _ h=>h.elim));replace HI8:=aK HI8.out.drew;replace HCh8:=aK HCh8.out.drew;have p1:=eq_true HAt.out.1;have p2:=eq_true HAt.out.2;clear k0;refine sT 8 (S:=fun w'=>w'.cell? ⟨gm,0,none⟩=some (.slice (some ⟨gw,0,none⟩) ws.length cW)) (ds:=[7]) (((blk_cell HMs8.out.bm 0).trans rfl)) (fun hHeld=>?_);generalize w8.drew=w8a at HMs8 HI8 HCh8 hHeld ⊢;refine pS 0 36 #[true,false,false,false,false,false,false,false] ?_;refine pS 2 38 #[true,false,true,false,false,false,false,false] ?_;refine pS 3 39 #[true,false,true,true,false,false,false,false] ?_;refine tS 1 37 #[true,true,true,true,false,false,false,false] rfl rfl (by kernel_rfl) hHeld (by intro w' s0;go_simp;with_reducible rfl) ?_;refine oS 4 40 #[true,true,true,true,true,false,false,false] rfl rfl (fun K hK=>?_);refine gO Try.func33 #[.pointer (some ⟨g,0,none⟩),.int .i64 9] ?_;(with_reducible refine (pick_any _ g 9 w0 _ HI8.out z53 (by omega) (by omega)).mono ?_);rintro e w8b ⟨y9,rfl,hy9,hi,hk⟩;refine ⟨_,rfl,?_⟩;have hst:=HI8.out.step hi hk;have HI9:=aK hi;have HCh9:=aK (HCh8.out.then_ hst);have HMs9:=aK (HMs8.out.ch hst (fun k hk=>by have:=HG.out;omega));clear hst hi hk hy9 HI8 HCh8 HMs8;obtain ⟨x0,fx0⟩:=HMs9.out.om.wcell at_ HAt.out.1 HAt.out.2;refine hK.out _ _ (((blk_cell HMs9.out.bm 0).trans rfl)) (fun hHeld=>?_);clear hK K;refine nS 40 ?_;refine pS 5 41 #[true,true,true,true,true,true,false,false] ?_;refine pS 6 42 #[true,true,true,true,true,true,true,false] ?_;refine last_ (i:=7) (N:=none) #[true,true,true,true,true,true,true,true] rfl rfl (by kernel_rfl) (by decide) (fun K hK=>?_);refine skip_ (w1:=?_) (by rfl) rfl ?_ ?_;rotate_left
    ·go_simp
     rfl
    refine hK.out _ _ ?_;clear hK K;refine done_ (by kernel_rfl) ?_;obtain ⟨w9,hw⟩: ∃z,z=w8b.setCell ⟨gw,at_.toNat,none⟩ (.int .i64 (wrap64 (y9 - 3))):=⟨_,rfl⟩;rw [←hw];have hO9:OM s1 gw cW gc cC w9 (ws.set at_.toNat (wrap64 (y9 - 3))) cards:=by rw [hw];exact HMs9.out.om.setw at_ (wrap64 (y9 - 3))
    have hc9:Ch (fun z=>z=gw) w8b w9:=by rw [hw];exact (Ch.refl (fun z=>z=gw) _).set (.inl rfl) _
    have HMa:=aK (HMs9.out.word hc9 hO9 (List.length_set));have HD:=aK (HMa.out.dm.mono (fun k hk=>hk.1));have BMt:=aK HMa.out.bm;have BZt:=aK HMa.out.bz;have HIt:=aK (HI9.out.ch hc9 (by have:=HMs9.out.om.bw;have:=HMs9.out.ge;have:=HG.out;omega) (fun z hz=>by have:=HMs9.out.om.bw;have:=HMs9.out.ge;have:=HG.out;omega));have HCht:=aK (HCh9.out.trans hc9 (fun z hz=> .inr (by have:=HMs9.out.om.bw;have:=HMs9.out.ge;have:=HBW.out;omega)));clear hO9 hc9 hw x0 fx0 HMs9 HI9 HCh9;simp only [List.length_set] at HD BMt;go_wp2;go_meet;exact ⟨_,_,_,_,_,_,_,_,_,_,_,_,_,_,_,_,_,_,_,rfl,rfl,HD,BMt,BZt,⟨HIt.out.le (by omega)⟩,HCht⟩
   ·go_wp2_with fail
    go_at_call 33;refine (pick_any _ g 12 w0 _ HI8.out z53 (by have:=HMs8.out.l0;omega) (by have:=HMs8.out.l0;omega)).mono ?_;rintro e w9 ⟨p9,rfl,hp9,hi,hk⟩;have hst:=HI8.out.step hi hk;have HI9:=aK hi;have HCh9:=aK (HCh8.out.then_ hst);have HMs9:=aK (HMs8.out.ch hst (fun k hk=>by have:=HG.out;omega));have k2:=(blk_cell HMs9.out.bm 2).trans rfl;have fk2:=blk_frozen HMs9.out.bm 2;clear hp9;clear hst hi hk HI8 HCh8 HMs8
    go_wp2_with ((with_reducible refine gate_store (t:=3) (p:=47) rfl ?_);refine Classical.byContradiction (fun hng=>?_))
    refine hng ?_;clear hng;refine store_event (t:=3) (p:=47) (v:=?vs1) (w1:=(w9.setCell ⟨gm,2,none⟩ (.int .i64 p9))) ?hg ?ho ?hn ?hr ?_
    (case ho=>rfl)
    (case hg=>rfl)
    (case hn=>rfl)
    (case hr=>first|(go_simp;done)|(go_simp;rfl))
    intro wa hw;clear k2 fk2;have hc9:Ch (fun z=>z=gm) w9 wa:=by rw [hw];exact (Ch.refl (fun z=>z=gm) _).set (.inl rfl) _
    have HD:=aK ((HMs9.out.dm.ch hc9 (fun z hz=>hz.2)).mono (fun z hz=>hz.1));have BMt:=aK (show wa.heap[gm]? =some (.cells #[.slice (some ⟨gw,0,none⟩) ws.length cW,.int .i64 y,.int .i64 p9,.int .i64 o,.slice (some ⟨gc,0,none⟩) cards.length cC] 27 (0,0)) by rw [hw];exact blk_put HMs9.out.bm 2 _ rfl);have BZt:=aK (hc9.blk HMs9.out.bz (by have:=HMs9.out.ge;omega));have HIt:=aK (HI9.out.ch hc9 (by have:=HMs9.out.ge;have:=HG.out;omega) (fun z hz=>by have:=HMs9.out.ge;have:=HG.out;omega));have HCht:=aK (HCh9.out.trans hc9 (fun z hz=> .inr (by have:=HMs9.out.ge;have:=HBW.out;omega)));clear hc9 hw HMs9 HI9 HCh9;go_wp2;go_meet;exact ⟨_,_,_,_,_,_,_,_,_,_,_,_,_,_,_,_,_,_,_,rfl,rfl,HD,BMt,BZt,⟨HIt.out.le (by omega)⟩,HCht⟩
   ·have k3 := (blk_cell HMs8.out.bm 3).trans rfl
    go_wp2;replace HMs8:=aK (HMs8.out.ch (Ch.drew (Ch.refl (fun _=>False) _)) (fun _ h=>h.elim));replace HI8:=aK HI8.out.drew;replace HCh8:=aK HCh8.out.drew;clear k3;refine sT 8 (S:=fun w'=>w'.cell? ⟨gm,3,none⟩=some (.int .i64 o)) (ds:=[7]) (((blk_cell HMs8.out.bm 3).trans rfl)) (fun hHeld=>?_);generalize w8.drew=w8a at HMs8 HI8 HCh8 hHeld ⊢;refine pS 0 50 #[true,false,false,false,false,false,false,false] ?_;refine pS 2 52 #[true,false,true,false,false,false,false,false] ?_;refine tS 1 51 #[true,true,true,false,false,false,false,false] rfl rfl (by kernel_rfl) hHeld (by intro w' s0;go_simp;with_reducible rfl) ?_;refine oS 3 53 #[true,true,true,true,false,false,false,false] rfl rfl (fun K hK=>?_);refine gO Try.func33 #[.pointer (some ⟨g,0,none⟩),.int .i64 4] ?_;(with_reducible refine (pick_any _ g 4 w0 _ HI8.out z53 (by omega) (by omega)).mono ?_);rintro e w8b ⟨p9,rfl,hp9,hi,hk⟩;refine ⟨_,rfl,?_⟩;have hst:=HI8.out.step hi hk;have HI9:=aK hi;have HCh9:=aK (HCh8.out.then_ hst);have HMs9:=aK (HMs8.out.ch hst (fun k hk=>by have:=HG.out;omega));clear hst hi hk hp9 HI8 HCh8 HMs8;have k3:=(blk_cell HMs9.out.bm 3).trans rfl;have fk3:=blk_frozen HMs9.out.bm 3;refine hK.out _ _ (k3) (fun hHeld=>?_);clear hK K;refine nS 53 ?_;refine pS 4 54 #[true,true,true,true,true,false,false,false] ?_;refine pS 5 55 #[true,true,true,true,true,true,false,false] ?_;refine pS 6 56 #[true,true,true,true,true,true,true,false] ?_;refine last_ (i:=7) (N:=none) #[true,true,true,true,true,true,true,true] rfl rfl (by kernel_rfl) (by decide) (fun K hK=>?_);refine skip_ (w1:=?_) (by rfl) rfl ?_ ?_;rotate_left
    ·go_simp
     rfl
    refine hK.out _ _ ?_;clear hK K;refine done_ (by kernel_rfl) ?_;obtain ⟨w9,hw⟩: ∃z,z=w8b.setCell ⟨gm,3,none⟩ (.int .i64 (wrap64 (wrap64 (o+p9) - 1))):=⟨_,rfl⟩;rw [←hw];have hc9:Ch (fun z=>z=gm) w8b w9:=by rw [hw];exact (Ch.refl (fun z=>z=gm) _).set (.inl rfl) _
    have HD:=aK ((HMs9.out.dm.ch hc9 (fun z hz=>hz.2)).mono (fun z hz=>hz.1));have BMt:=aK (show w9.heap[gm]? =some (.cells #[.slice (some ⟨gw,0,none⟩) ws.length cW,.int .i64 y,.int .i64 t,.int .i64 (wrap64 (wrap64 (o+p9) - 1)),.slice (some ⟨gc,0,none⟩) cards.length cC] 27 (0,0)) by rw [hw];exact blk_put HMs9.out.bm 3 _ rfl);have BZt:=aK (hc9.blk HMs9.out.bz (by have:=HMs9.out.ge;omega));have HIt:=aK (HI9.out.ch hc9 (by have:=HMs9.out.ge;have:=HG.out;omega) (fun z hz=>by have:=HMs9.out.ge;have:=HG.out;omega));have HCht:=aK (HCh9.out.trans hc9 (fun z hz=> .inr (by have:=HMs9.out.ge;have:=HBW.out;omega)));clear hc9 hw k3 fk3 HMs9 HI9 HCh9;go_wp2;go_meet;exact ⟨_,_,_,_,_,_,_,_,_,_,_,_,_,_,_,_,_,_,_,rfl,rfl,HD,BMt,BZt,⟨HIt.out.le (by omega)⟩,HCht⟩
   ·have k4 := (blk_cell HMs8.out.bm 4).trans rfl; have fk4 := blk_frozen HMs8.out.bm 4
    go_wp2_with ((with_reducible refine gate_dst (N:=62) rfl ?_);refine Classical.byContradiction (fun hng=>?_))
    refine hng ?_;clear hng;refine Kd.R_make Kd.bool _ 4 rfl (N:=62) rfl 25 _ _ rfl (cards.length:Int) rfl rfl Try.underlying25 (.bool false) 1 info4 rfl (by decide) (by omega) false (ok:=fun _=>True) (okp:=fun _=>True) rfl (fun _ hk=>hk) trivial (by omega) (by have:=HMs8.out.l4;omega) (Below.refl _ _) (Nat.le_refl _) ?_;intro v9 w9 ho hb hg_ hnew_;have HM9:=aK (HMs8.out.below hb);have HR9:=aK (Kd.R_mono (Kd.R_bound ho) (fun k hk=>show w8.heap.size≤k from hk.2.1));have HI9:=aK (HI8.out.below hb);have HCh9:=aK (HCh8.out.below hb);have HZ8:=aK (show gm<w8.heap.size from blk_lt HMs8.out.bm);clear ho hb hg_ hnew_ HI8 HCh8 HMs8 k4 fk4;obtain ⟨A9,c9,e9⟩:=Kd.R_slice HR9.out;subst e9;have k4:=(blk_cell HM9.out.bm 4).trans rfl;have fk4:=blk_frozen HM9.out.bm 4
    go_wp2_with ((with_reducible refine gate_store (t:=25) (p:=63) rfl ?_);refine Classical.byContradiction (fun hng=>?_))
    refine hng ?_;clear hng;refine store_event (t:=25) (p:=63) (v:=?vs3) (w1:=(w9.setCell ⟨gm,4,none⟩ (.slice A9 (List.replicate (cards.length:Int).toNat false).length c9))) ?hg ?ho ?hn ?hr ?_
    (case ho=>rfl)
    (case hg=>rfl)
    (case hn=>rfl)
    (case hr=>first|(go_simp;done)|(go_simp;rfl))
    intro wa hw;clear k4 fk4;have hd:=HM9.out.dm;have hc9:Ch (fun z=>z=gm) w9 wa:=by rw [hw];exact (Ch.refl (fun z=>z=gm) _).set (.inl rfl) _
    have HD:=aK (((Dm.mk hd.h5 hd.h0 (Kd.R_V (Kd.R_mono HR9.out (fun k hk=>(show (b0≤k∧k≠gz)∧k≠gm by have:=HZ8.out;have:=HM9.out.ge;omega)))) hd.h7 hd.l5 hd.l0 (by have:=HM9.out.l4;rw [List.length_replicate];omega) hd.l7).ch hc9 (fun z hz=>hz.2)).mono (fun z hz=>hz.1));have BMt:=aK (show wa.heap[gm]? =some (.cells #[.slice (some ⟨gw,0,none⟩) ws.length cW,.int .i64 y,.int .i64 t,.int .i64 o,.slice A9 (List.replicate (cards.length:Int).toNat false).length c9] 27 (0,0)) by rw [hw];exact blk_put HM9.out.bm 4 _ rfl);have BZt:=aK (hc9.blk HM9.out.bz (by have:=HM9.out.ge;omega));have HIt:=aK (HI9.out.ch hc9 (by have:=HM9.out.ge;have:=HG.out;omega) (fun z hz=>by have:=HM9.out.ge;have:=HG.out;omega));have HCht:=aK (HCh9.out.trans hc9 (fun z hz=> .inr (by have:=HM9.out.ge;have:=HBW.out;omega)));clear hd hc9 hw HM9 HI9 HCh9 HR9;simp only [List.length_replicate,Int.toNat_natCast] at HD BMt;go_wp2;go_meet;exact ⟨_,_,_,_,_,_,_,_,_,_,_,_,_,_,_,_,_,_,_,rfl,rfl,HD,BMt,BZt,⟨HIt.out.le (by omega)⟩,HCht⟩
   ·have k4 := (blk_cell HMs8.out.bm 4).trans rfl; have fk4 := blk_frozen HMs8.out.bm 4
    have hcc:=(Kd.R_reads' HMs8.out.om.hc).2.1;have h4_:=HMs8.out.l4;have p1:=eq_true (show 1≤cards.length by omega);have p2:=eq_true (show (1:Int)≤(cards.length:Int) by omega);have p3:=eq_false (show¬cC=1 by omega);have p4:=eq_true (show 1≤cC by omega);have p5:=eq_true (show (1:Int)≤(cC:Int) by omega);clear hcc h4_
    go_wp2_with ((with_reducible refine gate_store (t:=25) (p:=69) rfl ?_);refine Classical.byContradiction (fun hng=>?_))
    refine hng ?_;clear hng;refine store_event (t:=25) (p:=69) (v:=?vs4) (w1:=(w8.setCell ⟨gm,4,none⟩ (.slice (some ⟨gc,1,none⟩) (cards.length - 1) (cC - 1)))) ?hg ?ho ?hn ?hr ?_
    (case ho=>rfl)
    (case hg=>rfl)
    (case hn=>rfl)
    (case hr=>first|(go_simp;done)|(go_simp;rfl))
    intro wa hw;clear p1 p2 p3 p4 p5;clear k4 fk4;have hc9:Ch (fun z=>z=gm) w8 wa:=by rw [hw];exact (Ch.refl (fun z=>z=gm) _).set (.inl rfl) _
    have HD:=aK ((HMs8.out.cut.ch hc9 (fun z hz=>hz.2)).mono (fun z hz=>hz.1));have BMt:=aK (show wa.heap[gm]? =some (.cells #[.slice (some ⟨gw,0,none⟩) ws.length cW,.int .i64 y,.int .i64 t,.int .i64 o,.slice (some ⟨gc,1,none⟩) (cards.length - 1) (cC - 1)] 27 (0,0)) by rw [hw];exact blk_put HMs8.out.bm 4 _ rfl);have BZt:=aK (hc9.blk HMs8.out.bz (by have:=HMs8.out.ge;omega));have HIt:=aK (HI8.out.ch hc9 (by have:=HMs8.out.ge;have:=HG.out;omega) (fun z hz=>by have:=HMs8.out.ge;have:=HG.out;omega));have HCht:=aK (HCh8.out.trans hc9 (fun z hz=> .inr (by have:=HMs8.out.ge;have:=HBW.out;omega)));clear hc9 hw HMs8 HI8 HCh8;go_wp2;go_meet;exact ⟨_,_,_,_,_,_,_,_,_,_,_,_,_,_,_,_,_,_,_,rfl,rfl,HD,BMt,BZt,⟨HIt.out.le (by omega)⟩,HCht⟩
   ·have k1 := (blk_cell HMs8.out.bm 1).trans rfl; have fk1 := blk_frozen HMs8.out.bm 1
    go_wp2_with ((with_reducible refine gate_store (t:=3) (p:=75) rfl ?_);refine Classical.byContradiction (fun hng=>?_))
    refine hng ?_;clear hng;refine store_event (t:=3) (p:=75) (v:=?vs5) (w1:=(w8.setCell ⟨gm,1,none⟩ (.int .i64 (wrap64 (y+1))))) ?hg ?ho ?hn ?hr ?_
    (case ho=>rfl)
    (case hg=>rfl)
    (case hn=>rfl)
    (case hr=>first|(go_simp;done)|(go_simp;rfl))
    intro wa hw;clear k1 fk1;have hc9:Ch (fun z=>z=gm) w8 wa:=by rw [hw];exact (Ch.refl (fun z=>z=gm) _).set (.inl rfl) _
    have HD:=aK ((HMs8.out.dm.ch hc9 (fun z hz=>hz.2)).mono (fun z hz=>hz.1));have BMt:=aK (show wa.heap[gm]? =some (.cells #[.slice (some ⟨gw,0,none⟩) ws.length cW,.int .i64 (wrap64 (y+1)),.int .i64 t,.int .i64 o,.slice (some ⟨gc,0,none⟩) cards.length cC] 27 (0,0)) by rw [hw];exact blk_put HMs8.out.bm 1 _ rfl);have BZt:=aK (hc9.blk HMs8.out.bz (by have:=HMs8.out.ge;omega));have HIt:=aK (HI8.out.ch hc9 (by have:=HMs8.out.ge;have:=HG.out;omega) (fun z hz=>by have:=HMs8.out.ge;have:=HG.out;omega));have HCht:=aK (HCh8.out.trans hc9 (fun z hz=> .inr (by have:=HMs8.out.ge;have:=HBW.out;omega)));clear hc9 hw HMs8 HI8 HCh8;go_wp2;go_meet;exact ⟨_,_,_,_,_,_,_,_,_,_,_,_,_,_,_,_,_,_,_,rfl,rfl,HD,BMt,BZt,⟨HIt.out.le (by omega)⟩,HCht⟩
   ·have k0 := (blk_cell HMs8.out.bm 0).trans rfl; have fk0 := blk_frozen HMs8.out.bm 0
    go_wp2_with ((with_reducible refine gate_builtin (b:= .append) (xs:= #[.tmp 79,.tmp 80]) rfl ?_);refine Classical.byContradiction (fun hng=>?_))
    refine hng ?_;clear hng
    at_builtin
    refine Kd.R_append (Kd.int .i64) (w0:=w8) s1 rfl (.tmp 79) (.tmp 80) 24 3 (.int .i64 0) 8 rfl Try.underlying24 info3 rfl (by decide) (by omega) (.slice (some ⟨gw,0,none⟩) ws.length cW) ws 0 [.int .i64 0] (fun k=>k=gw∨w8.heap.size≤k) (fun _=>False) rfl (by first|rfl|(go_simp;done)|(go_simp;rfl)) ?aP (fun _ hk=>hk.elim) ?aF ?aO ?aB ?aS ?aL ?_
    (case aP=>exact rfl)
    (case aB=>exact Below.refl _ _)
    (case aF=>exact fun k hk=> .inr hk)
    (case aO=>exact Kd.R_mono HMs8.out.om.hw (fun k hk=> .inl hk))
    (case aS=>have:=HMs8.out.om.bw;omega)
    (case aL=>have:=HMs8.out.l0;omega)
    intro v9 w9 ho hbn hgr hat;have hc9:Ch (fun z=>z=gw) w8 w9:=(Ch.refl _ w8).grown hgr (fun k e=> .inl (Option.some.inj e).symm)
    obtain ⟨A9,c9,e9⟩:=Kd.R_slice ho;subst e9;obtain ⟨hd,hbm,hbz⟩:=HMs8.out.grow hc9 ho (fun k hk=>hk) (by have:=HMs8.out.l0;simp;omega);simp only [List.length_append,List.length_cons,List.length_nil,Nat.zero_add] at hd;have HD9:=aK hd;have BM9:=aK hbm;have BZ9:=aK hbz;have HGE:=aK HMs8.out.ge;have HI9:=aK (HI8.out.ch hc9 (by have:=HMs8.out.om.bw;have:=HMs8.out.ge;have:=HG.out;omega) (fun z hz=>by have:=HMs8.out.om.bw;have:=HMs8.out.ge;have:=HG.out;omega));have HCh9:=aK (HCh8.out.trans hc9 (fun z hz=> .inr (by have:=HMs8.out.om.bw;have:=HMs8.out.ge;have:=HBW.out;omega)));clear ho hbn hgr hat hd hbm hbz hc9 HMs8 HI8 HCh8 k0 fk0;have k0:=(blk_cell BM9.out 0).trans rfl;have fk0:=blk_frozen BM9.out 0
    go_wp2_with ((with_reducible refine gate_store (t:=24) (p:=82) rfl ?_);refine Classical.byContradiction (fun hng=>?_))
    refine hng ?_;clear hng;refine store_event (t:=24) (p:=82) (v:=?vs6) (w1:=(w9.setCell ⟨gm,0,none⟩ (.slice A9 (ws.length+1) c9))) ?hg ?ho ?hn ?hr ?_
    (case ho=>rfl)
    (case hg=>rfl)
    (case hn=>rfl)
    (case hr=>first|(go_simp;done)|(go_simp;rfl))
    intro wa hw;clear k0 fk0;have hc9:Ch (fun z=>z=gm) w9 wa:=by rw [hw];exact (Ch.refl (fun z=>z=gm) _).set (.inl rfl) _
    have HD:=aK ((HD9.out.ch hc9 (fun z hz=>hz.2)).mono (fun z hz=>hz.1));have BMt:=aK (show wa.heap[gm]? =some (.cells #[.slice A9 (ws.length+1) c9,.int .i64 y,.int .i64 t,.int .i64 o,.slice (some ⟨gc,0,none⟩) cards.length cC] 27 (0,0)) by rw [hw];exact blk_put BM9.out 0 _ rfl);have BZt:=aK (hc9.blk BZ9.out (by have:=HGE.out;omega));have HIt:=aK (HI9.out.ch hc9 (by have:=HGE.out;have:=HG.out;omega) (fun z hz=>by have:=HGE.out;have:=HG.out;omega));have HCht:=aK (HCh9.out.trans hc9 (fun z hz=> .inr (by have:=HGE.out;have:=HBW.out;omega)));clear hc9 hw HD9 BM9 BZ9 HI9 HCh9;go_wp2;go_meet;exact ⟨_,_,_,_,_,_,_,_,_,_,_,_,_,_,_,_,_,_,_,rfl,rfl,HD,BMt,BZt,⟨HIt.out.le (by omega)⟩,HCht⟩
   ·go_wp2
    replace HMs8:=aK (HMs8.out.ch (Ch.drew (Ch.refl (fun _=>False) _)) (fun _ h=>h.elim));replace HI8:=aK (HI8.out.drew.le (L:=M+5990) (by omega));replace HCh8:=aK HCh8.out.drew;refine sT 15 (S:=fun w'=>w'.cell? ⟨gm,0,none⟩=some (.slice (some ⟨gw,0,none⟩) ws.length cW)) (ds:=[13]) (((blk_cell HMs8.out.bm 0).trans rfl)) (fun hHeld=>?_);generalize w8.drew=w8a at HMs8 HI8 HCh8 hHeld ⊢;refine pS 0 85 (lA 15 1) ?_;refine pS 1 86 (lA 15 3) ?_;refine pS 2 87 (lA 15 7) ?_;refine pS 3 88 (lA 15 15) ?_;refine pS 8 93 (lA 15 271) ?_;refine tS 4 89 (lA 15 287) rfl rfl (by kernel_rfl) hHeld (by intro w' s0;go_simp;with_reducible rfl) ?_;refine pS 5 90 (lA 15 319) ?_;refine pS 6 91 (lA 15 383) ?_;refine join_ (σ:=Nat×Int) 5 (lA 15 1023) (fun s=>[(92,.slice (some ⟨s.1,0,none⟩) 3 3),(94,.int .i64 s.2)]) (fun s w'=>(0≤s.2∧s.2<3)∧w'.heap[s.1]? =some (.cells #[.int .i64 (-1),.int .i64 (wrap64 (at_+1)),.int .i64 (wrap64 ((ws.length:Int)+1))] 3 (0,0))∧Rdr (M+5990+1) w0 w' g∧Ch (fun k=>k=g) w w'∧Ms b0 s1 gz gm gw cW gc cC w' (.slice A cs.length cA) (.slice A7 rt.length c7) cs ws y t o cards rt∧(w'.cell? ⟨gm,0,none⟩=some (.slice (some ⟨gw,0,none⟩) ws.length cW))) ?_ ?_;rotate_left
    ·intro hCont
     refine two_ (i:=7) (j:=9) (Ni:=some 92) (Nj:=some 94) (lA 15 511) (lA 15 895) rfl rfl rfl rfl (by kernel_rfl) (by decide) (by decide) (fun K hK=>?_) (fun K hK=>?_)
     ·skip
      refine value_ (w1:=?_) (v:=?_) (by rfl) rfl ?_ ?_;rotate_left 2
      ·go_simp
       constructor
       ·rfl
       ·rfl
      refine hK.out _ _ ((pw_cell_below (below_alloc (Below.refl _ _) _) hHeld)) (fun hHeld=>?_);clear hK K;refine nS 92 ?_;refine oS 9 94 (lA 15 1023) rfl rfl (fun K hK=>?_);refine gO Try.func33 #[.pointer (some ⟨g,0,none⟩),.int .i64 3] ?_;(with_reducible refine (pick_any _ g 3 w0 _ (HI8.out.alloc (.cells #[.int .i64 (-1),.int .i64 (wrap64 (at_+1)),.int .i64 (wrap64 ((ws.length:Int)+1))] 3 (0,0))) z53 (by omega) (by omega)).mono ?_);rintro e w9 ⟨y9,rfl,hy9,hi,hk⟩;refine ⟨_,rfl,?_⟩;have hst:=(HI8.out.alloc (.cells #[.int .i64 (-1),.int .i64 (wrap64 (at_+1)),.int .i64 (wrap64 ((ws.length:Int)+1))] 3 (0,0))).step hi hk;have HL9:=aK (hst.blk (blk_new w8a (.cells #[.int .i64 (-1),.int .i64 (wrap64 (at_+1)),.int .i64 (wrap64 ((ws.length:Int)+1))] 3 (0,0))) (by have:=HG.out;have:=HMs8.out.ge;have:=blk_lt HMs8.out.bm;omega));have HI9:=aK hi;have HCh9:=aK ((HCh8.out.alloc (.cells #[.int .i64 (-1),.int .i64 (wrap64 (at_+1)),.int .i64 (wrap64 ((ws.length:Int)+1))] 3 (0,0))).then_ hst);have HMs9:=aK ((HMs8.out.below (below_alloc (Below.refl _ _) (.cells #[.int .i64 (-1),.int .i64 (wrap64 (at_+1)),.int .i64 (wrap64 ((ws.length:Int)+1))] 3 (0,0)))).ch hst (fun k hk=>by have:=HG.out;omega));have hy9_:=aK hy9;clear hst hi hk hy9;refine hK.out _ _ (((blk_cell HMs9.out.bm 0).trans rfl)) (fun hHeld=>?_);clear hK K;refine nS 94 ?_;exact norm_ z28 (hCont (w8a.heap.size,y9) _ ⟨hy9_.out,HL9.out,HI9.out,HCh9.out,HMs9.out,hHeld⟩)
     ·skip
      refine gO Try.func33 #[.pointer (some ⟨g,0,none⟩),.int .i64 3] ?_;(with_reducible refine (pick_any _ g 3 w0 _ HI8.out z53 (by omega) (by omega)).mono ?_);rintro e w9 ⟨y9,rfl,hy9,hi,hk⟩;refine ⟨_,rfl,?_⟩;have hst:=HI8.out.step hi hk;have HI9:=aK hi;have HCh9:=aK (HCh8.out.then_ hst);have HMs9:=aK (HMs8.out.ch hst (fun k hk=>by have:=HG.out;omega));have hy9_:=aK hy9;clear hst hi hk hy9;refine hK.out _ _ (((blk_cell HMs9.out.bm 0).trans rfl)) (fun hHeld=>?_);clear hK K;refine nS 94 ?_;refine one_ (i:=7) (N:=some 92) (lA 15 1023) rfl rfl (by kernel_rfl) (by decide) (fun K hK=>?_);refine value_ (w1:=?_) (v:=?_) (by rfl) rfl ?_ ?_;rotate_left 2
      ·go_simp
       constructor
       ·rfl
       ·rfl
      refine hK.out _ _ ((pw_cell_below (below_alloc (Below.refl _ _) _) hHeld)) (fun hHeld=>?_);clear hK K;refine nS 92 ?_;exact norm_ z28 (hCont (w9.heap.size,y9) _ ⟨hy9_.out,blk_new w9 _,HI9.out.alloc _,HCh9.out.alloc _,HMs9.out.below (below_alloc (Below.refl _ _) _),hHeld⟩)
    rintro ⟨gl,y9⟩ w9 ⟨hy,hl,hi,hch,hm,hHeld⟩;have HI9:=aK hi;have HCh9:=aK hch;have HMs9:=aK hm;have q5:=eq_true hy.1;have q6:=eq_true hy.2
    obtain ⟨z,hz⟩: ∃z,w9.cell? ⟨gl,y9.toNat,none⟩=some (.int .i64 z):=by
     have h4:y9.toNat=0∨y9.toNat=1∨y9.toNat=2:=by omega
     rcases h4 with h4|h4|h4<;>rw [h4]
     ·exact ⟨_,(blk_cell hl 0).trans rfl⟩
     ·exact ⟨_,(blk_cell hl 1).trans rfl⟩
     ·exact ⟨_,(blk_cell hl 2).trans rfl⟩
    clear hi hch hm hl hy HMs8 HCh8 HI8;refine norm_ (a':=?_) ?_ ?_;rotate_left
    ·simp only [putAll, Act.put, List.setIfInBounds_toArray, List.set_cons_zero, List.set_cons_succ]
     rfl
    refine pS 10 95 (lA 15 2047) ?_;refine one_ (i:=11) (N:=some 96) (lA 15 4095) rfl rfl (by kernel_rfl) (by decide) (fun K hK=>?_);refine value_ (w1:=?_) (v:=?_) (by rfl) rfl ?_ ?_;rotate_left 2
    ·go_simp
     constructor
     ·rfl
     ·rfl
    refine hK.out _ _ (hHeld) (fun hHeld=>?_);clear hK K;refine nS 96 ?_;refine one_ (i:=12) (N:=some 97) (lA 15 8191) rfl rfl (by kernel_rfl) (by decide) (fun K hK=>?_);refine value_ (w1:=?_) (v:=?_) (by rfl) rfl ?_ ?_;rotate_left 2
    ·go_simp
     constructor
     ·rfl
     ·rfl
    refine hK.out _ _ ((pw_cell_below (below_alloc (Below.refl _ _) _) hHeld)) (fun hHeld=>?_);clear hK K;refine nS 97 ?_;refine last_ (i:=13) (N:=some 98) (lA 15 16383) rfl rfl (by kernel_rfl) (by decide) (fun K hK=>?_);refine Kd.R_append_step (Kd.int .i64) s1 (by rfl) (.tmp 85) (.tmp 97) 24 3 (.int .i64 0) 8 rfl Try.underlying24 info3 rfl (by decide) (by omega) (.slice A7 rt.length c7) rt z [.int .i64 z] (fun k=>k≠gw∧k≠gc) (fun _=>False) rfl rfl ?aP (fun _ hk=>hk.elim) ?aF ?aO (Below.refl _ _) ?aS ?aL ?_
    (case aP=>exact rfl)
    (case aF=>exact fun k hk=>by have:=HMs9.out.om.bw;have:=HMs9.out.om.bc;omega)
    (case aO=>exact HMs9.out.r7)
    (case aS=>have:=HMs9.out.om.bw;omega)
    (case aL=>have:=HMs9.out.l7;omega)
    intro v8 wb ho hbn hgr hat;obtain ⟨hd,hbm,hbz⟩:=HMs9.out.roots hgr ho (by have:=HMs9.out.l7;simp;omega);obtain ⟨AN,cN,eN⟩:=Kd.R_slice ho;subst eN;simp only [List.length_append,List.length_cons,List.length_nil,Nat.zero_add] at hd;have HD:=aK hd;have BMt:=aK hbm;have BZt:=aK hbz;have hbs: ∀k,(Value.slice A7 rt.length c7).ownBlock=some k→s1≤k:=fun k e=>Kd.R_base HMs9.out.h7 k e
    have HIt:=aK (HI9.out.grown hgr (fun e=>by have:=hbs g e.symm;have:=HG.out;have:=HMs9.out.ge;omega) (fun k e=>by have:=hbs k e;have:=HG.out;have:=HMs9.out.ge;omega));have HCht:=aK (HCh9.out.grown hgr (fun k e=> .inr (by have:=hbs k e;have:=HBW.out;have:=HMs9.out.ge;omega)));clear ho hbn hgr hat hd hbm hbz hbs HMs9 HI9 HCh9;refine hK.out _ _ ?_;clear hK K;refine nS 98 ?_;refine pS 14 7 (lA 15 32767) ?_;refine done_ (by kernel_rfl) ?_;go_wp2;go_meet;exact ⟨_,_,_,_,_,_,_,_,_,_,_,_,_,_,_,_,_,_,_,rfl,rfl,HD,BMt,BZt,⟨HIt.out.le (by omega)⟩,HCht⟩
   ·go_wp2_with (go_at_call 63; refine Classical.byContradiction (fun hng => ?_))
    refine hng ?_;clear hng;refine (off_any _ g w0 _ HI8.out z53).mono ?_;rintro e w9 ⟨A9,c9,cs9,rfl,hl,hf,hV,hi,hk⟩;have hst:=HI8.out.step hi hk;have HIt:=aK hi;have HCht:=aK (HCh8.out.then_ hst);have HM9:=aK (HMs8.out.ch hst (fun k hk=>by have:=HG.out;omega));have HZ8:=aK (show gm<w8.heap.size from blk_lt HMs8.out.bm);have HD:=aK (show Dm w9 b0 (fun k=>b0≤k∧k≠gz) (.slice A9 cs9.length c9) (.slice (some ⟨gw,0,none⟩) ws.length cW) (.slice (some ⟨gc,0,none⟩) cards.length cC) (.slice A7 rt.length c7) cs9 ws cards rt from (by have hd:=HM9.out.dm.mono (fun k hk=>hk.1);exact Dm.mk (Kd.V_mono hV (fun k hk=>(show b0≤k∧k≠gz by have:=HZ8.out;have:=HM9.out.ge;omega))) hd.h0 hd.h4 hd.h7 ⟨hl.1,hl.2.1,hf⟩ hd.l0 hd.l4 hd.l7));have BMt:=aK HM9.out.bm;have BZt:=aK HM9.out.bz;clear hl hf hV hi hk hst HI8 HCh8 HMs8;go_wp2;go_meet;exact ⟨_,_,_,_,_,_,_,_,_,_,_,_,_,_,_,_,_,_,_,rfl,rfl,HD,BMt,BZt,⟨HIt.out.le (by omega)⟩,HCht⟩
   ·have k0 := (blk_cell HMs8.out.bm 0).trans rfl
    have p1:=eq_true HAt.out.1;have p2:=eq_true HAt.out.2;obtain ⟨x0,fx0⟩:=HMs8.out.om.wcell at_ HAt.out.1 HAt.out.2
    go_wp2_with ((with_reducible refine gate_store (t:=3) (p:=33) rfl ?_);refine Classical.byContradiction (fun hng=>?_))
    refine hng ?_;clear hng;refine store_event (t:=3) (p:=33) (v:=?vs9) (w1:=(w8.setCell ⟨gw,at_.toNat,none⟩ (.int .i64 300))) ?hg ?ho ?hn ?hr ?_
    (case ho=>rfl)
    (case hg=>rfl)
    (case hn=>rfl)
    (case hr=>first|(go_simp;done)|(go_simp;rfl))
    intro wa hw;clear k0 x0 fx0;have hO9:OM s1 gw cW gc cC wa (ws.set at_.toNat 300) cards:=by rw [hw];exact HMs8.out.om.setw at_ 300
    have hc9:Ch (fun z=>z=gw) w8 wa:=by rw [hw];exact (Ch.refl (fun z=>z=gw) _).set (.inl rfl) _
    have HMa:=aK (HMs8.out.word hc9 hO9 (List.length_set));have HD:=aK (HMa.out.dm.mono (fun k hk=>hk.1));have BMt:=aK HMa.out.bm;have BZt:=aK HMa.out.bz;have HIt:=aK (HI8.out.ch hc9 (by have:=HMs8.out.om.bw;have:=HMs8.out.ge;have:=HG.out;omega) (fun z hz=>by have:=HMs8.out.om.bw;have:=HMs8.out.ge;have:=HG.out;omega));have HCht:=aK (HCh8.out.trans hc9 (fun z hz=> .inr (by have:=HMs8.out.om.bw;have:=HMs8.out.ge;have:=HBW.out;omega)));clear hO9 hc9 hw HMs8 HI8 HCh8;simp only [List.length_set] at HD BMt;go_wp2;go_meet;exact ⟨_,_,_,_,_,_,_,_,_,_,_,_,_,_,_,_,_,_,_,rfl,rfl,HD,BMt,BZt,⟨HIt.out.le (by omega)⟩,HCht⟩
  case rest=>
   clear HMs8 HI8 HCh8 HAt hs;obtain ⟨A5,n5,c5,A0,n0,c0,A4,n4,c4,A9,n9,c9,cs',ws',y',t',o',cards',rt',rfl,rfl,HD,BMt,BZt,HIt,HCht⟩:=hcut;go_wp2;replace HD:=aK (HD.out.ch (Ch.drew (Ch.refl (fun _=>False) _)) (fun _ _ h=>h));replace BMt:=aK (blk_drew BMt.out);replace BZt:=aK (blk_drew BZt.out);replace HIt:=aK HIt.out.drew;replace HCht:=aK HCht.out.drew;have z0:=(blk_cell BZt.out 0).trans rfl;have z1:=(blk_cell BZt.out 1).trans rfl;have z2:=(blk_cell BZt.out 2).trans rfl;have z3:=(blk_cell BZt.out 3).trans rfl;have z4:=(blk_cell BZt.out 4).trans rfl;have y_0:=blk_frozen BZt.out 0;have y_1:=blk_frozen BZt.out 1;have y_2:=blk_frozen BZt.out 2;have y_3:=blk_frozen BZt.out 3;have y_4:=blk_frozen BZt.out 4;refine sT 6 (S:=fun w'=>w'.cell? ⟨gm,0,none⟩=some (.slice A0 n0 c0)∧w'.cell? ⟨gm,1,none⟩=some (.int .i64 y')∧w'.cell? ⟨gm,2,none⟩=some (.int .i64 t')∧w'.cell? ⟨gm,3,none⟩=some (.int .i64 o')∧w'.cell? ⟨gm,4,none⟩=some (.slice A4 n4 c4)) (ds:=[4]) ⟨((blk_cell BMt.out 0).trans rfl),((blk_cell BMt.out 1).trans rfl),((blk_cell BMt.out 2).trans rfl),((blk_cell BMt.out 3).trans rfl),((blk_cell BMt.out 4).trans rfl)⟩ (fun hHeld=>?_);generalize wc.drew=wt at HD BMt BZt HIt HCht z0 z1 z2 z3 z4 y_0 y_1 y_2 y_3 y_4 hHeld ⊢;refine pS 0 103 #[true,false,false,false,false,false] ?_;refine pS 2 105 #[true,false,true,false,false,false] ?_;refine pS 3 2 #[true,false,true,true,false,false] ?_;refine tS 1 104 #[true,true,true,true,false,false] rfl rfl (by kernel_rfl) hHeld z12 ?_;refine last_ (i:=4) (N:=none) #[true,true,true,true,true,false] rfl rfl (by kernel_rfl) (by decide) (fun K hK=>?_);refine skip_ (w1:=?_) (by rfl) rfl ?_ ?_;rotate_left
   ·go_simp
    rfl
   refine hK.out _ _ ?_;clear hK K;refine pS 5 4 #[true,true,true,true,true,true] ?_;refine done_ (by kernel_rfl) ?_;clear z0 y_0 z1 y_1 z2 y_2 z3 y_3 z4 y_4;go_wp2;refine bodyPost_ret (results_list (rs:=[.tmp 2,.cell 3 27,.tmp 4]) rfl (by simp) (.tmp (.cell gz 27 #[.slice A0 n0 c0,.int .i64 y',.int .i64 t',.int .i64 o',.slice A4 n4 c4] (0,0) _ rfl (blk_box5 BZt.out) Try.underlying27 rfl (by kernel_rfl) (.tmp .nil)))) rfl ?_;exact (show Dm _ w.heap.size (fun k=>w.heap.size≤k∧k≠gz) _ _ _ _ _ _ _ _ by rw [←HBW.out];exact HD.out).ret HIt.out (by omega) HCht.out (by have:=HG.out;have:=HBW.out;omega) (by have:=HGz.out;have:=HBW.out;omega)
structure Dr (W:World) (ok:Nat→Prop) (A5:Option Addr) (c5:Nat) (A0:Option Addr) (c0:Nat) (A4:Option Addr) (c4:Nat) (cs:Cs) (ws:List Int) (cards:List Bool):Prop where
 h5:Kd.V k112 112 W 0 ok (.slice A5 cs.length c5) cs
 h0:Kd.V (Kd.int .i64) 3 W 0 ok (.slice A0 ws.length c0) ws
 h4:Kd.V Kd.bool 4 W 0 ok (.slice A4 cards.length c4) cards
 l5:1≤cs.length∧cs.length≤9∧∀x∈cs,x.f1.length≤3
 l0:1≤ws.length∧ws.length≤1000
 l4:cards.length≤1000
def DrawP5 (X:Value→Prop) (w:World) (e:Ending) (w':World):Prop:= ∃(A5:Option Addr) (c5:Nat) (A0:Option Addr) (c0:Nat) (A4:Option Addr) (c4:Nat) (cs:Cs) (ws:List Int) (y t o:Int) (cards:List Bool) (a b:Int) (x:Value),X x∧e= .returned (.tuple #[.slice A5 cs.length c5,.agg #[.slice A0 ws.length c0,.int .i64 y,.int .i64 t,.int .i64 o,.slice A4 cards.length c4],.int .i64 a,.int .i64 b,x])∧Dr w' (fun k=>w.heap.size≤k) A5 c5 A0 c0 A4 c4 cs ws cards∧Below w.heap.size w w'
section
variable {b0:Nat} {W w1:World} {A5 A0 A4:Option Addr} {c5 c0 c4:Nat} {v7:Value} {cs:Cs} {ws:List Int} {cards:List Bool} {rt:List Int} {ok ok' S:Nat→Prop}
theorem Dr.of (h:Dm W b0 ok (.slice A5 cs.length c5) (.slice A0 ws.length c0) (.slice A4 cards.length c4) v7 cs ws cards rt):Dr W ok A5 c5 A0 c0 A4 c4 cs ws cards:=⟨h.h5,h.h0,h.h4,h.l5,h.l0,h.l4⟩
theorem Dr.ch (h:Dr W ok A5 c5 A0 c0 A4 c4 cs ws cards) (hc:Ch S W w1) (hS: ∀k,ok k→¬S k):Dr w1 ok A5 c5 A0 c0 A4 c4 cs ws cards:=⟨Kd.V_kept h.h5 hc.kept hS,Kd.V_kept h.h0 hc.kept hS,Kd.V_kept h.h4 hc.kept hS,h.l5,h.l0,h.l4⟩
theorem Dr.below (h:Dr W ok A5 c5 A0 c0 A4 c4 cs ws cards) (hb:Below W.heap.size W w1):Dr w1 ok A5 c5 A0 c0 A4 c4 cs ws cards:=⟨Kd.V_below h.h5 hb,Kd.V_below h.h0 hb,Kd.V_below h.h4 hb,h.l5,h.l0,h.l4⟩
theorem Dr.mono (h:Dr W ok A5 c5 A0 c0 A4 c4 cs ws cards) (hS: ∀k,ok k→ok' k):Dr W ok' A5 c5 A0 c0 A4 c4 cs ws cards:=⟨Kd.V_mono h.h5 hS,Kd.V_mono h.h0 hS,Kd.V_mono h.h4 hS,h.l5,h.l0,h.l4⟩
theorem Dr.bound (h:Dr W ok A5 c5 A0 c0 A4 c4 cs ws cards):Dr W (fun k=>ok k∧k<W.heap.size) A5 c5 A0 c0 A4 c4 cs ws cards:=⟨Kd.V_bound h.h5,Kd.V_bound h.h0,Kd.V_bound h.h4,h.l5,h.l0,h.l4⟩
theorem Dr.C5 (h:Dr W ok A5 c5 A0 c0 A4 c4 cs ws cards):k112.C W A5 cs.length cs:=(Kd.V_reads' h.h5).2.2
theorem Dr.n5 (h:Dr W ok A5 c5 A0 c0 A4 c4 cs ws cards):cs.length≤c5:=(Kd.V_reads' h.h5).2.1
theorem Dr.C0 (h:Dr W ok A5 c5 A0 c0 A4 c4 cs ws cards):(Kd.int .i64).C W A0 ws.length ws:=(Kd.V_reads' h.h0).2.2
theorem Dr.n0 (h:Dr W ok A5 c5 A0 c0 A4 c4 cs ws cards):ws.length≤c0:=(Kd.V_reads' h.h0).2.1
theorem Dr.C4 (h:Dr W ok A5 c5 A0 c0 A4 c4 cs ws cards):Kd.bool.C W A4 cards.length cards:=(Kd.V_reads' h.h4).2.2
theorem Dr.n4 (h:Dr W ok A5 c5 A0 c0 A4 c4 cs ws cards):cards.length≤c4:=(Kd.V_reads' h.h4).2.1
end
set_option maxHeartbeats 16000000 in
set_option maxRecDepth 100000 in
theorem memmake_any (AC:Option Addr) (cC:Nat) (lC:List Int) (w:World) (hr0:Kd.C (Kd.int .u8) w AC lC.length lC) (hc0:lC.length≤cC) (hl: ∀x∈lC,(Lit.int .u8 x).wf=true):
  Calls Try.prog 26 #[.slice AC lC.length cC] w (DrawP5 (fun x=> ∃v:Bool,x= .bool v) w):=by
 have HR0:=aK hr0;have HC0:=aK hc0;have HL:=aK hl;clear hr0 hc0 hl;go_enter Try.func26,Try.ntmps26
 go_wp2_with ((with_reducible refine gate_dst (N:=3) rfl ?_);refine Classical.byContradiction (fun hng=>?_))
 refine hng ?_;clear hng;refine box_event ?hg (N:=3) ?hd (cs:= #[.slice none 0 0,.int .i64 0,.int .i64 0,.int .i64 0,.slice none 0 0]) (t:=27) ?hr ?_
 (case hd=>rfl)
 (case hg=>rfl)
 (case hr=>first|(go_simp;done)|(go_simp;rfl))
 intro gz hg w1 hbox hb;have BZ:=aK hbox;have HB:=aK hb;have HGz:=aK (show w.heap.size≤gz by rw [hg];exact Nat.le_refl _);clear hb hbox hg
 go_wp2_with (go_at_call 30;refine Classical.byContradiction (fun hng=>?_))
 refine hng ?_;clear hng;refine (open_any AC cC lC _ (Kd.C_below HR0.out HB.out) HC0.out HL.out).mono ?_;rintro e w2 ⟨g,rfl,hi,hge,hb⟩;have HI:=aK hi;have HG0:=aK (show gz<g from Nat.lt_of_lt_of_le (blk_lt BZ.out) hge);replace HB:=aK (below_step HB.out hb);replace BZ:=aK (blk_below BZ.out hb);clear hi hge hb HR0 HC0 HL
 go_wp2_with (go_at_call 31;refine Classical.byContradiction (fun hng=>?_))
 refine hng ?_;clear hng;refine (mem_any 0 g _ _ HI.out (by omega)).mono ?_;rintro e w3 ⟨v5,v0,v4,v7,cs,ws,y,t,o,cards,rt,rfl,hd,hi,hc⟩;obtain ⟨A5,c5,rfl⟩:=Kd.V_slice hd.h5;obtain ⟨A0,c0,rfl⟩:=Kd.V_slice hd.h0;obtain ⟨A4,c4,rfl⟩:=Kd.V_slice hd.h4;have HD:=aK ((Dr.of hd).bound.mono (ok':=fun k=>(gz<k∧k≠g)∧k<w3.heap.size) (fun k hk=>⟨⟨by have:=hk.1;have:=blk_lt BZ.out;omega,by have:=hk.1;have:=HI.out.lt;omega⟩,hk.2⟩));replace HB:=aK (HB.out.trans (hc.toBelow (B:=w.heap.size) (below_size HB.out) (fun k hk=>by have:=HG0.out;have:=HGz.out;omega)));replace BZ:=aK (hc.blk BZ.out (by have:=HG0.out;omega));replace HI:=aK hi;have HG1:=aK (show g<w3.heap.size from HI.out.lt);clear hd hi hc
 go_wp2_with ((with_reducible refine gate_dst (N:=9) rfl ?_);refine Classical.byContradiction (fun hng=>?_))
 refine hng ?_;clear hng;refine box_event ?hg (N:=9) ?hd (cs:= #[.slice none 0 0,.int .i64 0,.int .i64 0,.int .i64 0,.slice none 0 0]) (t:=27) ?hr ?_
 (case hd=>rfl)
 (case hg=>rfl)
 (case hr=>first|(go_simp;done)|(go_simp;rfl))
 intro gm hg w4 hbox hb;have BM0:=aK hbox;replace HD:=aK ((HD.out.below hb).mono (ok':=fun k=>(gz<k∧k≠g)∧k≠gm) (fun k hk=>⟨hk.1,by rw [hg];omega⟩));replace HB:=aK (below_step HB.out hb);replace BZ:=aK (blk_below BZ.out hb);replace HI:=aK (HI.out.below hb);have HG:=aK (show (gz<g∧g<gm)∧w.heap.size≤gz by rw [hg];exact ⟨⟨HG0.out,HG1.out⟩,HGz.out⟩);clear hb hbox hg HG0 HG1 HGz;have qc0:=(blk_cell BM0.out 0).trans rfl;have qc1:=(blk_cell BM0.out 1).trans rfl;have qc2:=(blk_cell BM0.out 2).trans rfl;have qc3:=(blk_cell BM0.out 3).trans rfl;have qc4:=(blk_cell BM0.out 4).trans rfl;have qf0:=blk_frozen BM0.out 0;have qf1:=blk_frozen BM0.out 1;have qf2:=blk_frozen BM0.out 2;have qf3:=blk_frozen BM0.out 3;have qf4:=blk_frozen BM0.out 4
 go_wp2_with ((with_reducible refine gate_store (t:=27) (p:=9) rfl ?_);refine Classical.byContradiction (fun hng=>?_))
 refine hng ?_;clear hng;refine store_event (t:=27) (p:=9) (v:=?vm1) (w1:=(memBox w4 gm (.slice A0 ws.length c0) (.int .i64 y) (.int .i64 t) (.int .i64 o) (.slice A4 cards.length c4))) ?hg ?ho ?hn ?hr ?_
 (case ho=>rfl)
 (case hg=>rfl)
 (case hn=>rfl)
 (case hr=>first|(go_simp;done)|(go_simp;rfl))
 intro w5 hw;have hc4:Ch (fun k=>k=gm) w4 w5:=by rw [hw];exact (Ch.refl (fun k=>k=gm) _).box5 (.inl rfl) _ _ _ _ _
 replace HD:=aK ((HD.out.ch hc4 (fun k hk=>hk.2)).mono (ok':=fun k=>gz<k∧k≠g) (fun k hk=>hk.1));have BM:=aK (show w5.heap[gm]? =some (.cells #[.slice A0 ws.length c0,.int .i64 y,.int .i64 t,.int .i64 o,.slice A4 cards.length c4] 27 (0,0)) by rw [hw];exact blk_box5 BM0.out);replace BZ:=aK (hc4.blk BZ.out (by have:=HG.out;omega));replace HB:=aK (HB.out.trans (hc4.toBelow (B:=w.heap.size) (below_size HB.out) (fun k hk=>by have:=HG.out;omega)));replace HI:=aK (HI.out.ch hc4 (by have:=HG.out;omega) (fun k hk=>by have:=HI.out.ge;have:=HG.out;omega));clear hw hc4 BM0;clear qc0 qc1 qc2 qc3 qc4;clear qf0 qf1 qf2 qf3 qf4;go_wp2;replace HD:=aK (HD.out.ch (Ch.drew (Ch.refl (fun _=>False) _)) (fun _ _ h=>h));replace BM:=aK (blk_drew BM.out);replace BZ:=aK (blk_drew BZ.out);replace HB:=aK (below_drew1 HB.out);replace HI:=aK HI.out.drew;have z0:=(blk_cell BZ.out 0).trans rfl;have z1:=(blk_cell BZ.out 1).trans rfl;have z2:=(blk_cell BZ.out 2).trans rfl;have z3:=(blk_cell BZ.out 3).trans rfl;have z4:=(blk_cell BZ.out 4).trans rfl;have y_0:=blk_frozen BZ.out 0;have y_1:=blk_frozen BZ.out 1;have y_2:=blk_frozen BZ.out 2;have y_3:=blk_frozen BZ.out 3;have y_4:=blk_frozen BZ.out 4;have n1:IntKind.i64.wrap ((cs.length:Int)+3)=(cs.length:Int)+3:=IntWalk.i64_in _ (by have:=HD.out.l5;omega)
 refine sT 26 (S:=fun w'=>w'.cell? ⟨gm,0,none⟩=some (.slice A0 ws.length c0)∧w'.cell? ⟨gm,1,none⟩=some (.int .i64 y)∧w'.cell? ⟨gm,2,none⟩=some (.int .i64 t)∧w'.cell? ⟨gm,3,none⟩=some (.int .i64 o)∧w'.cell? ⟨gm,4,none⟩=some (.slice A4 cards.length c4)) (ds:=[22]) ⟨((blk_cell BM.out 0).trans rfl),((blk_cell BM.out 1).trans rfl),((blk_cell BM.out 2).trans rfl),((blk_cell BM.out 3).trans rfl),((blk_cell BM.out 4).trans rfl)⟩ (fun hHeld=>?_);generalize w5.drew=wt at HD BM BZ HB HI z0 z1 z2 z3 z4 y_0 y_1 y_2 y_3 y_4 hHeld ⊢;refine pS 0 19 (lA 26 1) ?_;refine pS 2 21 (lA 26 5) ?_;refine pS 3 22 (lA 26 13) ?_;refine pS 4 23 (lA 26 29) ?_;refine pS 5 24 (lA 26 61) ?_;refine pS 8 27 (lA 26 317) ?_;refine pS 12 31 (lA 26 4413) ?_;refine pS 14 33 (lA 26 20797) ?_;refine pS 18 37 (lA 26 282941) ?_;refine tS 1 20 (lA 26 282943) rfl rfl (by kernel_rfl) hHeld z12 ?_;refine oS 6 25 (lA 26 283007) rfl rfl (fun K hK=>?_);refine gO Try.func33 #[.pointer (some ⟨g,0,none⟩),.int .i64 ((cs.length:Int)+3)] ?_;(with_reducible refine (pick_any _ g ((cs.length:Int)+3) _ _ HI.out (by first|omega|(have:=HM1.out;omega)) (by have:=HD.out.l5;omega) (by have:=HD.out.l5;omega)).mono ?_);rintro e wa1 ⟨x1,rfl,hx1,hi,hk⟩;refine ⟨_,rfl,?_⟩;have hst:=HI.out.step hi hk;clear hk hx1;replace HB:=aK (HB.out.trans (hst.toBelow (B:=w.heap.size) (below_size HB.out) (fun k hk=>by have:=HG.out;omega)));replace HD:=aK (HD.out.ch hst (fun k hk=>hk.2));replace BM:=aK (hst.blk BM.out (by have:=HG.out;omega));replace BZ:=aK (hst.blk BZ.out (by have:=HG.out;omega));replace HI:=aK hi;clear z0 y_0 z1 y_1 z2 y_2 z3 y_3 z4 y_4;have z0:=(blk_cell BZ.out 0).trans rfl;have y_0:=blk_frozen BZ.out 0;have z1:=(blk_cell BZ.out 1).trans rfl;have y_1:=blk_frozen BZ.out 1;have z2:=(blk_cell BZ.out 2).trans rfl;have y_2:=blk_frozen BZ.out 2;have z3:=(blk_cell BZ.out 3).trans rfl;have y_3:=blk_frozen BZ.out 3;have z4:=(blk_cell BZ.out 4).trans rfl;have y_4:=blk_frozen BZ.out 4;clear hst hi;refine hK.out _ _ ⟨((blk_cell BM.out 0).trans rfl),((blk_cell BM.out 1).trans rfl),((blk_cell BM.out 2).trans rfl),((blk_cell BM.out 3).trans rfl),((blk_cell BM.out 4).trans rfl)⟩ (fun hHeld=>?_);clear hK K;refine nS 25 ?_;refine pS 7 26 (lA 26 283135) ?_;refine oS 9 28 (lA 26 283647) rfl rfl (fun K hK=>?_);refine gO Try.func33 #[.pointer (some ⟨g,0,none⟩),.int .i64 24] ?_;(with_reducible refine (pick_any _ g 24 _ _ HI.out (by first|omega|(have:=HM1.out;omega)) (by have:=HD.out.l5;omega) (by have:=HD.out.l5;omega)).mono ?_);rintro e wa2 ⟨x2,rfl,hx2,hi,hk⟩;refine ⟨_,rfl,?_⟩;have hst:=HI.out.step hi hk;clear hk hx2;replace HB:=aK (HB.out.trans (hst.toBelow (B:=w.heap.size) (below_size HB.out) (fun k hk=>by have:=HG.out;omega)));replace HD:=aK (HD.out.ch hst (fun k hk=>hk.2));replace BM:=aK (hst.blk BM.out (by have:=HG.out;omega));replace BZ:=aK (hst.blk BZ.out (by have:=HG.out;omega));replace HI:=aK hi;clear z0 y_0 z1 y_1 z2 y_2 z3 y_3 z4 y_4;have z0:=(blk_cell BZ.out 0).trans rfl;have y_0:=blk_frozen BZ.out 0;have z1:=(blk_cell BZ.out 1).trans rfl;have y_1:=blk_frozen BZ.out 1;have z2:=(blk_cell BZ.out 2).trans rfl;have y_2:=blk_frozen BZ.out 2;have z3:=(blk_cell BZ.out 3).trans rfl;have y_3:=blk_frozen BZ.out 3;have z4:=(blk_cell BZ.out 4).trans rfl;have y_4:=blk_frozen BZ.out 4;clear hst hi;refine hK.out _ _ ⟨((blk_cell BM.out 0).trans rfl),((blk_cell BM.out 1).trans rfl),((blk_cell BM.out 2).trans rfl),((blk_cell BM.out 3).trans rfl),((blk_cell BM.out 4).trans rfl)⟩ (fun hHeld=>?_);clear hK K;refine nS 28 ?_;refine pS 10 29 (lA 26 284671) ?_;refine pS 11 30 (lA 26 286719) ?_;refine oS 13 32 (lA 26 294911) rfl rfl (fun K hK=>?_);refine gO Try.func33 #[.pointer (some ⟨g,0,none⟩),.int .i64 8] ?_
 (with_reducible refine (pick_any _ g 8 _ _ HI.out (by first|omega|(have:=HM1.out;omega)) (by have:=HD.out.l5;omega) (by have:=HD.out.l5;omega)).mono ?_);rintro e wa3 ⟨x3,rfl,hx3,hi,hk⟩;refine ⟨_,rfl,?_⟩;have hst:=HI.out.step hi hk;clear hk hx3;replace HB:=aK (HB.out.trans (hst.toBelow (B:=w.heap.size) (below_size HB.out) (fun k hk=>by have:=HG.out;omega)));replace HD:=aK (HD.out.ch hst (fun k hk=>hk.2));replace BM:=aK (hst.blk BM.out (by have:=HG.out;omega));replace BZ:=aK (hst.blk BZ.out (by have:=HG.out;omega));replace HI:=aK hi;clear z0 y_0 z1 y_1 z2 y_2 z3 y_3 z4 y_4;have z0:=(blk_cell BZ.out 0).trans rfl;have y_0:=blk_frozen BZ.out 0;have z1:=(blk_cell BZ.out 1).trans rfl;have y_1:=blk_frozen BZ.out 1;have z2:=(blk_cell BZ.out 2).trans rfl;have y_2:=blk_frozen BZ.out 2;have z3:=(blk_cell BZ.out 3).trans rfl;have y_3:=blk_frozen BZ.out 3;have z4:=(blk_cell BZ.out 4).trans rfl;have y_4:=blk_frozen BZ.out 4;clear hst hi;refine hK.out _ _ ⟨((blk_cell BM.out 0).trans rfl),((blk_cell BM.out 1).trans rfl),((blk_cell BM.out 2).trans rfl),((blk_cell BM.out 3).trans rfl),((blk_cell BM.out 4).trans rfl)⟩ (fun hHeld=>?_);clear hK K;refine nS 32 ?_;refine oS 15 34 (lA 26 327679) rfl rfl (fun K hK=>?_);refine gO Try.func33 #[.pointer (some ⟨g,0,none⟩),.int .i64 12] ?_;(with_reducible refine (pick_any _ g 12 _ _ HI.out (by first|omega|(have:=HM1.out;omega)) (by have:=HD.out.l5;omega) (by have:=HD.out.l5;omega)).mono ?_);rintro e wa4 ⟨x4,rfl,hx4,hi,hk⟩;refine ⟨_,rfl,?_⟩;have hst:=HI.out.step hi hk;clear hk hx4;replace HB:=aK (HB.out.trans (hst.toBelow (B:=w.heap.size) (below_size HB.out) (fun k hk=>by have:=HG.out;omega)));replace HD:=aK (HD.out.ch hst (fun k hk=>hk.2));replace BM:=aK (hst.blk BM.out (by have:=HG.out;omega));replace BZ:=aK (hst.blk BZ.out (by have:=HG.out;omega));replace HI:=aK hi;clear z0 y_0 z1 y_1 z2 y_2 z3 y_3 z4 y_4;have z0:=(blk_cell BZ.out 0).trans rfl;have y_0:=blk_frozen BZ.out 0;have z1:=(blk_cell BZ.out 1).trans rfl;have y_1:=blk_frozen BZ.out 1;have z2:=(blk_cell BZ.out 2).trans rfl;have y_2:=blk_frozen BZ.out 2;have z3:=(blk_cell BZ.out 3).trans rfl;have y_3:=blk_frozen BZ.out 3;have z4:=(blk_cell BZ.out 4).trans rfl;have y_4:=blk_frozen BZ.out 4;clear hst hi;refine hK.out _ _ ⟨((blk_cell BM.out 0).trans rfl),((blk_cell BM.out 1).trans rfl),((blk_cell BM.out 2).trans rfl),((blk_cell BM.out 3).trans rfl),((blk_cell BM.out 4).trans rfl)⟩ (fun hHeld=>?_);clear hK K;refine nS 34 ?_;refine pS 16 35 (lA 26 393215) ?_;refine pS 17 36 (lA 26 524287) ?_;refine oS 19 38 (lA 26 1048575) rfl rfl (fun K hK=>?_);refine gO Try.func33 #[.pointer (some ⟨g,0,none⟩),.int .i64 2] ?_;(with_reducible refine (pick_any _ g 2 _ _ HI.out (by first|omega|(have:=HM1.out;omega)) (by have:=HD.out.l5;omega) (by have:=HD.out.l5;omega)).mono ?_);rintro e wa5 ⟨x5,rfl,hx5,hi,hk⟩;refine ⟨_,rfl,?_⟩;have hst:=HI.out.step hi hk;clear hk hx5;replace HB:=aK (HB.out.trans (hst.toBelow (B:=w.heap.size) (below_size HB.out) (fun k hk=>by have:=HG.out;omega)));replace HD:=aK (HD.out.ch hst (fun k hk=>hk.2));replace BM:=aK (hst.blk BM.out (by have:=HG.out;omega));replace BZ:=aK (hst.blk BZ.out (by have:=HG.out;omega));replace HI:=aK hi;clear z0 y_0 z1 y_1 z2 y_2 z3 y_3 z4 y_4;have z0:=(blk_cell BZ.out 0).trans rfl;have y_0:=blk_frozen BZ.out 0;have z1:=(blk_cell BZ.out 1).trans rfl;have y_1:=blk_frozen BZ.out 1;have z2:=(blk_cell BZ.out 2).trans rfl;have y_2:=blk_frozen BZ.out 2;have z3:=(blk_cell BZ.out 3).trans rfl;have y_3:=blk_frozen BZ.out 3;have z4:=(blk_cell BZ.out 4).trans rfl;have y_4:=blk_frozen BZ.out 4;clear hst hi
 refine hK.out _ _ ⟨((blk_cell BM.out 0).trans rfl),((blk_cell BM.out 1).trans rfl),((blk_cell BM.out 2).trans rfl),((blk_cell BM.out 3).trans rfl),((blk_cell BM.out 4).trans rfl)⟩ (fun hHeld=>?_);clear hK K;refine nS 38 ?_;refine pS 20 39 (lA 26 2097151) ?_;refine pS 21 2 (lA 26 4194303) ?_;refine last_ (i:=22) (N:=none) (lA 26 8388607) rfl rfl (by kernel_rfl) (by decide) (fun K hK=>?_);refine skip_ (w1:=?_) (by rfl) rfl ?_ ?_;rotate_left
 ·go_simp
  rfl
 refine hK.out _ _ ?_;clear hK K;refine pS 23 4 (lA 26 16777215) ?_;refine pS 24 5 (lA 26 33554431) ?_;refine pS 25 6 (lA 26 67108863) ?_;refine done_ (by kernel_rfl) ?_;clear z0 y_0 z1 y_1 z2 y_2 z3 y_3 z4 y_4;go_wp2;refine bodyPost_ret (results_list (rs:=[.tmp 2,.cell 3 27,.tmp 4,.tmp 5,.tmp 6]) rfl (by simp) (.tmp (.cell gz 27 #[.slice A0 ws.length c0,.int .i64 y,.int .i64 t,.int .i64 o,.slice A4 cards.length c4] (0,0) _ rfl (blk_box5 BZ.out) Try.underlying27 rfl (by kernel_rfl) (.tmp (.tmp (.tmp .nil)))))) rfl ?_;exact ⟨A5,c5,A0,c0,A4,c4,cs,ws,y,t,o,cards,_,_,_,⟨_,rfl⟩,rfl,(HD.out.ch (Ch.box5 (Ch.refl (fun k=>k=gz) _) (.inl rfl) _ _ _ _ _) (fun k hk=>by omega)).mono (fun k hk=>by have:=HG.out;omega),HB.out.trans ((Ch.box5 (Ch.refl (fun k=>k=gz) _) (.inl rfl) _ _ _ _ _).toBelow (below_size HB.out) (fun k hk=>by have:=HG.out;omega))⟩
end Go.Proofs.Ytnlieahdakafbaa.K
namespace Go.Proofs.Ytnlieahdakafbaa.K
open Go.RowKit Go.Proofs.YtnlieahdakafbaaW.PrintWords Go.Proofs.YtnlieahdakafbaaW.PrintLast Go.Proofs.YtnlieahdakafbaaW.PrintMore
attribute [local go_sem] max2_int min2_int max_two min_two max_three min_three max_four min_four
set_option linter.unusedVariables false
set_option linter.unusedSimpArgs false
def insRen:Go.Shelf.Ren:=⟨fun|21=>92|27=>109|28=>110|35=>114|39=>115|n=>n,fun|0=>0|3=>3|4=>4|22=>24|n=>n,fun n=>n⟩
theorem insLays:Lays2.n21 Try.prog insRen:={
 mixed:=by kernel_rfl
 f21:=Try.func92.trans (congrArg some (by kernel_rfl))
 f27:=Try.func109.trans (congrArg some (by kernel_rfl))
 f28:=Try.func110.trans (congrArg some (by kernel_rfl))
 f35:=Try.func114.trans (congrArg some (by kernel_rfl))
 f39:=Try.func115.trans (congrArg some (by kernel_rfl))
 t0:=Try.underlying0
 a0:=Try.isAgg0
 z0:=Try.sizeOf0
 v0:=Try.zeroValue0
 t3:=Try.underlying3
 a3:=Try.isAgg3
 z3:=Try.sizeOf3
 v3:=Try.zeroValue3
 t4:=Try.underlying4
 a4:=Try.isAgg4
 z4:=Try.sizeOf4
 v4:=Try.zeroValue4
 t22:=Try.underlying24
 a22:=Try.isAgg24
 z22:=Try.sizeOf24
 v22:=Try.zeroValue24
 i3:=by kernel_rfl}
theorem ins_shift {cur cs l1 l2:List Value} {n i:Nat} {x:Value} (hcs:cs=cur.take n) (hc:n+1≤cur.length) (hi:i≤n)
  (e1:l1=cur.take (i+1)++cs.drop i++cur.drop (i+1+(cs.drop i).length)) (e2:l2=l1.take i++[x]++l1.drop (i+[x].length)):l2.take (n+1)=cs.take i++x::cs.drop i:=by
 have hl:cs.length=n:=by rw [hcs,List.length_take];omega
 have a:l1.take i=cs.take i:=by
  rw [e1,List.append_assoc,List.take_append_of_le_length (by rw [List.length_take];omega),List.take_take,hcs,List.take_take]
  congr 1;omega
 have b:l1.drop (i+1)=cs.drop i++cur.drop (i+1+(cs.drop i).length):=by
  rw [e1,List.append_assoc,List.drop_left' (by rw [List.length_take];omega)]
 have c:l2=(cs.take i++x::cs.drop i)++cur.drop (i+1+(cs.drop i).length):=by
  rw [e2,a,List.length_singleton,b];simp
 rw [c,List.take_left' (by simp;omega)]
theorem ins_new {l0 cs l1 l2:List Value} {n i:Nat} {x:Value} (hl:cs.length=n) (hi:i≤n) (h0:l0.take i=cs.take i) (hc:n+1≤l0.length)
  (e1:l1=l0.take i++[x]++l0.drop (i+[x].length)) (e2:l2=l1.take (i+1)++cs.drop i++l1.drop (i+1+(cs.drop i).length)):l2.take (n+1)=cs.take i++x::cs.drop i:=by
 have a:l1.take (i+1)=cs.take i++[x]:=by
  rw [e1,h0,List.take_left' (by simp;omega)]
 rw [e2,a,List.take_left' (by simp;omega)];simp
theorem ins_fin {w:World} {base g cap:Nat} {ok:Nat→Prop} {cur:Array Value} {ys:List Int} (hok:ok g) (hb:base≤g) (hh:w.heap[g]? =some (.cells cur 3 (0,0))) (hn:ys.length≤cap) (hm:cap≤maxLen) (hs:cur.size=cap) (ht:cur.toList.take ys.length=encs (Value.int .i64) ys):
    Kd.R (Kd.int .i64) 3 w base ok (.slice (some ⟨g,0,none⟩) ys.length cap) ys:=
  Kd.R_of_own (enc:=Value.int .i64) (h1:=fun _=>rfl) ⟨by simp [encs],.inr ⟨g,cap,cur,rfl,hb,hh,hn,hm,by rw [hs,Nat.mul_one],by rw [Nat.mul_one];exact ht⟩⟩ (fun k hk=>by simp [Value.ownBlock] at hk;subst hk;exact hok)
theorem ins_encs (acc:List Int) (i:Nat) (x:Int):(encs (Value.int .i64) acc).take i++Value.int .i64 x::(encs (Value.int .i64) acc).drop i=encs (Value.int .i64) (acc.take i++x::acc.drop i):=by
  simp [encs,List.map_take,List.map_drop]
theorem ins_calls {w : World} {base : Nat} {ok : Nat → Prop} {AB : Option Addr} {cB : Nat} {acc : List Int} {i : Nat} {vb : Nat} {x : Int}
    (h:Kd.R (Kd.int .i64) 3 w base ok (.slice AB acc.length cB) acc) (hi:i≤acc.length) (hl:acc.length+1≤1048576) (hbase:base≤w.heap.size) (hfr: ∀k,w.heap.size≤k→ok k)
    (hv:w.heap[vb]? =some (.cells #[.int .i64 x] 3 (0,0))) (hne:some vb≠(Value.slice AB acc.length cB).ownBlock):
    Calls Try.prog 92 #[.slice AB acc.length cB,.int .i64 i,.slice (some ⟨vb,0,none⟩) 1 1] w fun e w'=> ∃AN cN,e= .returned (.slice AN (acc.take i++x::acc.drop i).length cN)∧Kd.R (Kd.int .i64) 3 w' base ok (.slice AN (acc.take i++x::acc.drop i).length cN) (acc.take i++x::acc.drop i)∧w.grownBy w' (Value.slice AB acc.length cB).ownBlock∧((Value.slice AN (acc.take i++x::acc.drop i).length cN).ownBlock=(Value.slice AB acc.length cB).ownBlock∨∃k,(Value.slice AN (acc.take i++x::acc.drop i).length cN).ownBlock=some k∧w.heap.size≤k):=by
  have hlen:(acc.take i++x::acc.drop i).length=acc.length+1:=by simp;omega
  have hvs: ∀j v,[Value.int .i64 x][j]? =some v→w.cell? ⟨vb,0+j,none⟩=some v:=fun j v hj=>by
    rcases j with _|j
    · rw [blk_cell hv];exact hj
    · simp at hj
  have h1v: ∀v∈[Value.int .i64 x],v.oneCell'=true:=fun v hv'=>by rw [List.mem_singleton.mp hv'];rfl
  have h1c: ∀v∈encs (Value.int .i64) acc,v.oneCell'=true:=fun v hv'=>by
    obtain ⟨y,_,rfl⟩:=List.mem_map.mp hv';rfl
  have hel:(encs (Value.int .i64) acc).length=acc.length:=by simp [encs]
  have hml:(1048577:Nat)≤maxLen:=by decide
  have hmx:maxLen≤9223372036854775807:=by decide
  have hg3: ∀c,acc.length+1≤grownCap w (acc.length+1) c 3:=fun c=>grownCap_ge w _ c 3
  have hgm: ∀c,grownCap w (acc.length+1) c 3≤maxLen:=fun c=>grownCap_le_maxLen w _ c 3 (by omega)
  obtain ⟨h1,h2⟩:=Kd.own_of_R h;rcases h2 with ⟨hv0,hn⟩|⟨g,cap,cur,hv0,hg,hh,hcap,hmax,hsz,hcur⟩
  · injection hv0 with e1 e2 e3
    subst e1;subst e3;have ha:acc=[]:=List.length_eq_zero_iff.mp hn
    subst ha;obtain rfl:i=0:=by simpa using hi
    refine (Any2.slices_Insert_int_end_grow insLays none 0 0 vb 0 1 1 [] [.int .i64 x] w (by omega) (by omega) (by omega) (by omega) rfl rfl (fun _=>rfl) (fun a e=>by cases e) hvs h1v).mono ?_;rintro e w' ⟨rfl,rfl⟩;have hgr:=World.grownBy_alloc w.drew (.cells (([]++[Value.int .i64 x]).toArray++Builtin.zeroCells (Value.int .i64 0).cells (grownCap w (0+1) 0 3 - (0+1))) 3) (Value.slice none 0 0).ownBlock;have q:=hg3 0;have q2:=hgm 0;simp only [List.length_nil] at q q2;refine ⟨_,_,rfl,ins_fin (hfr _ (Nat.le_refl _)) hbase (heap_alloc_new w.drew _) q q2 ?_ ?_,⟨hgr.os,hgr.tape,hgr.output,hgr.size,hgr.block⟩,.inr ⟨_,rfl,Nat.le_refl _⟩⟩
    · have q3 : 1 ≤ grownCap w 1 0 (insRen.t 3) := q
      simp [size_zeroCells, Value.cells]; exact (by have e : grownCap w 1 0 3 = grownCap w 1 0 (insRen.t 3) := rfl
                                                    omega)
    · simp [encs]
  · injection hv0 with e1 e2 e3
    subst e1;subst e3;rw [Nat.mul_one] at hsz hcur;have hgv:vb≠g:=fun e=>hne (by rw [e];rfl)
    have hcs: ∀j v,(encs (Value.int .i64) acc)[j]? =some v→w.cell? ⟨g,0+j,none⟩=some v:=fun j v hj=>by
      rw [blk_cell hh,Nat.zero_add];rw [←hcur] at hj
      have hj2:j<acc.length:=by
        have:=(List.getElem?_eq_some_iff.mp hj).1
        simp at this;omega
      rw [List.getElem?_take_of_lt hj2] at hj
      simpa using hj
    have hsp: ∀j,j<cB→(w.cell? ⟨g,0+j,none⟩).isSome=true:=fun j hj=>by
      rw [blk_cell hh,Nat.zero_add,Array.getElem?_eq_getElem (by omega)];rfl
    have hfz: ∀j,w.frozen? ⟨g,j,none⟩=false:=fun j=>blk_frozen hh j
    rcases Nat.lt_or_ge i acc.length with hin|hin
    · rcases Nat.lt_or_ge cB (acc.length + 1) with hroom | hroom
      · refine (Any2.slices_Insert_int_grow insLays g 0 acc.length cB i vb 0 1 1 (encs (Value.int .i64) acc) [.int .i64 x] w hin (by omega) hcap hroom (by omega) hel rfl hcs hvs h1c h1v).mono ?_
        rintro e w' ⟨rfl,rfl⟩;obtain ⟨l0,hl0⟩: ∃l,l=((encs (Value.int .i64) acc).take i).toArray++Builtin.zeroCells (Value.int .i64 0).cells (acc.length+1 - i)++Builtin.zeroCells (Value.int .i64 0).cells (grownCap w (acc.length+1) cB 3 - (acc.length+1)):=⟨_,rfl⟩;have q:=hg3 cB;have q2:=hgm cB;have hs0:l0.size=grownCap w (acc.length+1) cB 3:=by rw [hl0];simp [size_zeroCells,Value.cells,hel];omega
        have hb0:(w.alloc (.cells l0 3)).drew.heap[w.heap.size]? =some (.cells l0 3 (0,0)):=heap_alloc_new w _
        rw [show insRen.t 3=3 from rfl,←hl0];obtain ⟨c1,r1,r2,r3⟩:=setCells_row [Value.int .i64 x] i _ l0 hb0 (by rw [hs0,List.length_singleton];omega);obtain ⟨c2,s1,s2,s3⟩:=setCells_row ((encs (Value.int .i64) acc).drop i) (i+1) (((w.alloc (.cells l0 3)).drew.setCells w.heap.size i [Value.int .i64 x]).drew) c1 r1 (by rw [r2,hs0,List.length_drop,hel];omega);obtain ⟨a1,a2,a3,a4⟩:=setCells_same w.heap.size [Value.int .i64 x] i (w.alloc (.cells l0 3)).drew;obtain ⟨b1,b2,b3,b4⟩:=setCells_same w.heap.size ((encs (Value.int .i64) acc).drop i) (i+1) (((w.alloc (.cells l0 3)).drew.setCells w.heap.size i [Value.int .i64 x]).drew);refine ⟨some ⟨w.heap.size,0,none⟩,grownCap w (acc.length+1) cB 3,by rw [hlen],?_,⟨b1.trans a1,b2.trans a2,b3.trans a3,?_,fun k hk hk2=>?_⟩,.inr ⟨_,rfl,Nat.le_refl _⟩⟩
        · refine ins_fin (hfr _ (Nat.le_refl _)) hbase s1 (by rw [hlen]; exact q) q2 (by rw [s2, r2, hs0]) ?_
          rw [hlen,←ins_encs];exact ins_new hel (by omega) (by rw [hl0];simp [hel];rw [List.take_append_of_le_length (by simp [hel];omega),List.take_take];simp) (by rw [show l0.toList.length=l0.size from rfl,hs0];exact q) r3 s3
        · rw [b4];show w.heap.size≤((w.alloc (.cells l0 3)).drew.setCells w.heap.size i [Value.int .i64 x]).heap.size;rw [a4];show w.heap.size≤(w.alloc (.cells l0 3)).heap.size;rw [World.size_alloc];omega
        · rw [setCells_far _ _ k (by omega)]
          show ((w.alloc (.cells l0 3)).drew.setCells w.heap.size i [Value.int .i64 x]).heap[k]? =_
          rw [setCells_far _ _ k (by omega)];exact (World.grownBy_alloc w (.cells l0 3) none).block k hk (by simp)
      · refine (Any2.slices_Insert_int_shift insLays g 0 acc.length cB i vb 0 1 1 (encs (Value.int .i64) acc) [.int .i64 x] w hin (by omega) hroom (by omega) hgv hel rfl hcs (fun j hj => hsp j (by omega)) (fun j _ => hfz _) hvs h1c h1v 3 3 1 cur.size (by simp [World.shape?, hv]) (by simp [World.shape?, hh]) (by omega) (blk_frozen hv 0) (blk_frozen hv 1)).mono ?_
        rintro e w' ⟨rfl,rfl⟩;have hb0:w.drew.heap[g]? =some (.cells cur 3 (0,0)):=hh
        obtain ⟨c1,r1,r2,r3⟩:=setCells_row ((encs (Value.int .i64) acc).drop i) (0+(i+1)) w.drew cur hb0 (by rw [List.length_drop,hel];omega);obtain ⟨c2,s1,s2,s3⟩:=setCells_row [Value.int .i64 x] (0+i) (w.drew.setCells g (0+(i+1)) ((encs (Value.int .i64) acc).drop i)) c1 r1 (by rw [r2,List.length_singleton];omega);obtain ⟨a1,a2,a3,a4⟩:=setCells_same g ((encs (Value.int .i64) acc).drop i) (0+(i+1)) w.drew;obtain ⟨b1,b2,b3,b4⟩:=setCells_same g [Value.int .i64 x] (0+i) (w.drew.setCells g (0+(i+1)) ((encs (Value.int .i64) acc).drop i));have hok:ok g:=h.1 g rfl
        refine ⟨some ⟨g,0,none⟩,cB,by rw [hlen],?_,⟨b1.trans a1,b2.trans a2,b3.trans a3,by rw [b4,a4];exact Nat.le_refl _,fun k hk hk2=>?_⟩,.inl rfl⟩
        · refine ins_fin hok hg s1 (by rw [hlen]; exact hroom) hmax (by rw [s2, r2, hsz]) ?_
          rw [hlen,←ins_encs];rw [Nat.zero_add] at r3 s3;exact ins_shift hcur.symm (by rw [show cur.toList.length=cur.size from rfl];omega) (by omega) r3 s3
        · have hkg : k ≠ g := fun e => hk2 (by rw [e]; rfl)
          rw [setCells_far _ _ k hkg,setCells_far _ _ k hkg];rfl
    · obtain rfl : i = acc.length := by omega
      have hys:acc.take acc.length++x::acc.drop acc.length=acc++[x]:=by simp
      rcases Nat.lt_or_ge cB (acc.length+1) with hroom|hroom
      · refine (Any2.slices_Insert_int_end_grow insLays (some ⟨g, 0, none⟩) acc.length cB vb 0 1 1 (encs (Value.int .i64) acc) [.int .i64 x] w (by omega) hcap hroom (by omega) hel rfl (fun e => by cases e) (fun a e j v hj => by
          cases e;rw [Addr.add_lit];exact hcs j v hj) hvs h1v).mono ?_
        rintro e w' ⟨rfl,rfl⟩;have hgr:=World.grownBy_alloc w.drew (.cells ((encs (Value.int .i64) acc++[Value.int .i64 x]).toArray++Builtin.zeroCells (Value.int .i64 0).cells (grownCap w (acc.length+1) cB 3 - (acc.length+1))) 3) (Value.slice (some ⟨g,0,none⟩) acc.length cB).ownBlock;have q:=hg3 cB;have q2:=hgm cB;refine ⟨some ⟨w.heap.size,0,none⟩,grownCap w (acc.length+1) cB 3,by rw [hlen];rfl,ins_fin (hfr _ (Nat.le_refl _)) hbase (heap_alloc_new w.drew _) (by rw [hlen];exact q) q2 ?_ ?_,⟨hgr.os,hgr.tape,hgr.output,hgr.size,hgr.block⟩,.inr ⟨_,rfl,Nat.le_refl _⟩⟩
        · have q3 : grownCap w (acc.length + 1) cB 3 = grownCap w (acc.length + 1) cB (insRen.t 3) := rfl
          simp [size_zeroCells,Value.cells,hel];omega
        · rw [hlen,hys,Array.toList_append,List.take_left' (by simp [hel])];simp [encs]
      · refine (Any2.slices_Insert_int_end_room insLays g 0 acc.length cB vb 0 1 1 [.int .i64 x] w (by omega) hroom (by omega) rfl (fun j hj => by have := hsp (acc.length + j) (by omega); rwa [Nat.zero_add] at this ⊢) (fun j _ => hfz _) hvs h1v).mono ?_
        rintro e w' ⟨rfl,rfl⟩;obtain ⟨c1,r1,r2,r3⟩:=setCells_row [Value.int .i64 x] (0+acc.length) w cur hh (by rw [List.length_singleton];omega);obtain ⟨a1,a2,a3,a4⟩:=setCells_same g [Value.int .i64 x] (0+acc.length) w;have hok:ok g:=h.1 g rfl
        refine ⟨some ⟨g,0,none⟩,cB,by rw [hlen],?_,⟨a1,a2,a3,by rw [a4];exact Nat.le_refl _,fun k hk hk2=>?_⟩,.inl rfl⟩
        · refine ins_fin hok hg r1 (by rw [hlen]; exact hroom) hmax (by rw [r2, hsz]) ?_
          rw [hlen,hys,r3,Nat.zero_add,hcur,List.take_left' (by simp [hel])];simp [encs]
        · have hkg : k ≠ g := fun e => hk2 (by rw [e]; rfl)
          rw [setCells_far _ _ k hkg]
def Mm.setW (m:Mm) (x v:Int):Mm:={m with words:=m.words.set x.toNat v}
def Mm.setC (m:Mm) (c:Int):Mm:={m with cards:=m.cards.set c.toNat true}
theorem MO_setword {w:World} {b g gw:Nat} {m:Mm} {cW:Nat} {AC:Option Addr} {cC:Nat} {AF:Option Addr} {cF:Nat} {AB:Option Addr} {cB:Nat} (x v:Int)
  (h0:w.heap[g]? =some (.cells #[.slice (some ⟨gw,0,none⟩) m.words.length cW,.int .i64 m.young,.int .i64 m.top,.int .i64 m.old,.slice AC m.cards.length cC,.slice AF m.fields.length cF,.slice AB m.begins.length cB] 72 (0,0))) (hg:b≤g) (hf:m.fields.length≤cF)
  (h1:Kd.R (Kd.int .i64) 3 w b (fun k=>(k≠g∧some k≠(Value.slice AC m.cards.length cC).ownBlock)∧some k≠(Value.slice AB m.begins.length cB).ownBlock) (.slice (some ⟨gw,0,none⟩) m.words.length cW) m.words)
  (h2:Kd.R Kd.bool 4 w b (fun k=>(k≠g∧some k≠(Value.slice (some ⟨gw,0,none⟩) m.words.length cW).ownBlock)∧some k≠(Value.slice AB m.begins.length cB).ownBlock) (.slice AC m.cards.length cC) m.cards)
  (h3:Kd.F (Kd.slice 3 (Kd.int .i64)) w (fun k=>((k≠g∧some k≠(Value.slice (some ⟨gw,0,none⟩) m.words.length cW).ownBlock)∧some k≠(Value.slice AC m.cards.length cC).ownBlock)∧some k≠(Value.slice AB m.begins.length cB).ownBlock) AF m.fields.length m.fields)
  (h4:Kd.R (Kd.int .i64) 3 w b (fun k=>(k≠g∧some k≠(Value.slice (some ⟨gw,0,none⟩) m.words.length cW).ownBlock)∧some k≠(Value.slice AC m.cards.length cC).ownBlock) (.slice AB m.begins.length cB) m.begins):
  MO (w.setCell ⟨gw,x.toNat,none⟩ (.int .i64 v)) b g {m with words:=m.words.set x.toNat v}:=by
 have hp:=Kd.R_put (enc:=Value.int .i64) (h1:=fun _=>rfl) h1 x v;have hgw:gw≠g:=(h1.1 gw (by simp [Value.ownBlock])).1.1
 have ob:(Value.slice (some ⟨gw,0,none⟩) m.words.length cW).ownBlock=some gw:=by simp [Value.ownBlock]
 have hl:(m.words.set x.toNat v).length=m.words.length:=List.length_set
 refine ⟨some ⟨gw,0,none⟩,cW,AC,cC,AF,cF,AB,cB,?_,hg,hf,?_,?_,?_,?_⟩
 ·show (w.setCell ⟨gw, x.toNat, none⟩ (.int .i64 v)).heap[g]? = some (.cells #[.slice (some ⟨gw, 0, none⟩) (m.words.set x.toNat v).length cW, .int .i64 m.young, .int .i64 m.top, .int .i64 m.old, .slice AC m.cards.length cC, .slice AF m.fields.length cF, .slice AB m.begins.length cB] 72 (0, 0))
  rw [hl];exact blk_far h0 (fun e=>hgw e.symm) _
 ·show Kd.R (Kd.int .i64) 3 _ b _ (.slice (some ⟨gw, 0, none⟩) (m.words.set x.toNat v).length cW) (m.words.set x.toNat v)
  rw [hl];exact hp.1
 ·show Kd.R Kd.bool _ _ b (fun k => (k ≠ g ∧ some k ≠ (Value.slice (some ⟨gw, 0, none⟩) (m.words.set x.toNat v).length cW).ownBlock) ∧ some k ≠ (Value.slice AB m.begins.length cB).ownBlock) (.slice AC m.cards.length cC) m.cards
  rw [hl];exact Kd.R_grown h2 hp.2 (fun k hk=>by rw [←ob];exact hk.1.2)
 ·show Kd.F _ _ (fun k => ((k ≠ g ∧ some k ≠ (Value.slice (some ⟨gw, 0, none⟩) (m.words.set x.toNat v).length cW).ownBlock) ∧ some k ≠ (Value.slice AC m.cards.length cC).ownBlock) ∧ some k ≠ (Value.slice AB m.begins.length cB).ownBlock) AF m.fields.length m.fields
  rw [hl];exact Kd.F_grown h3 hp.2 (fun k hk=>by rw [←ob];exact hk.1.1.2)
 ·show Kd.R (Kd.int .i64) 3 _ b (fun k => (k ≠ g ∧ some k ≠ (Value.slice (some ⟨gw, 0, none⟩) (m.words.set x.toNat v).length cW).ownBlock) ∧ some k ≠ (Value.slice AC m.cards.length cC).ownBlock) (.slice AB m.begins.length cB) m.begins
  rw [hl];exact Kd.R_grown h4 hp.2 (fun k hk=>by rw [←ob];exact hk.1.2)
end Go.Proofs.Ytnlieahdakafbaa.K
