import Derived.Test.YtnlieahdakafbaaPd24
import Derived.Test.YtnlieahdakafbaaPd29
import Derived.Test.YtnlieahdakafbaaPd25
import Derived.Deep.CutRange
import Derived.Deep.CutBlock
import Derived.Test.YtnlieahdakafbaaPd27
namespace Go.Proofs.Ytnlieahdakafbaa.K
open Go.RowKit Go.Proofs.YtnlieahdakafbaaW.PrintWords Go.Proofs.YtnlieahdakafbaaW.PrintLast Go.Proofs.YtnlieahdakafbaaW.PrintMore
attribute [local go_sem] max2_int min2_int max_two min_two max_three min_three max_four min_four
set_option linter.unusedVariables false
set_option linter.unusedSimpArgs false
open Go.Proofs.Ytnlieahdakafbaa.Pure
set_option maxHeartbeats 64000000 in
set_option maxRecDepth 100000 in
theorem mem_any (M:Int) (g:Nat) (w0 w:World) (hi:Rdr M w0 w g) (hM:M≤100000):
  Calls Try.prog 31 #[.pointer (some ⟨g,0,none⟩)] w (MemP M w0 w g):=by
 obtain ⟨b0,hb0⟩: ∃b,b=w.heap.size:=⟨_,rfl⟩;have HG:=aK (show g<b0∧w0.heap.size≤b0 by have h1:=hi.lt;have h2:=hi.ge;rw [hb0];omega);have HBW:=aK hb0;have HI:=aK hi;have HM:=aK hM;have HCh:=aK (Ch.refl (fun k=>k=g) w);clear hi hM hb0;go_enter Try.func31,Try.ntmps31
 go_wp2_with ((with_reducible refine gate_dst (N:=3) rfl ?_);refine Classical.byContradiction (fun hng=>?_))
 refine hng ?_;clear hng;refine box_event ?hg (N:=3) ?hd (cs:= #[.slice none 0 0,.int .i64 0,.int .i64 0,.int .i64 0,.slice none 0 0]) (t:=27) ?hr ?_
 (case hd=>rfl)
 (case hg=>rfl)
 (case hr=>first|(go_simp;done)|(go_simp;rfl))
 intro gz hg w1 hbox hb;have BZ1:=aK hbox;have HI1:=aK (HI.out.below hb);have HCh1:=aK (HCh.out.below hb);have HGz:=aK (show b0≤gz by rw [hg,HBW.out];exact Nat.le_refl _);clear hb hbox hg HI HCh
 go_wp2_with (go_at_call 61;refine Classical.byContradiction (fun hng=>?_))
 refine hng ?_;clear hng;refine (classes_any M g w0 _ HI1.out zz44).mono ?_;rintro e w2 ⟨v5,cs,rfl,⟨hok,hfew⟩,hS,hi,hk⟩;have hst:=HI1.out.step hi hk;have HI2:=aK hi;have HCh2:=aK (HCh1.out.then_ hst);have BZ2:=aK (hst.blk BZ1.out (by have:=HG.out;have:=HGz.out;omega));obtain ⟨s1,hs1⟩: ∃z,z=w2.heap.size:=⟨_,rfl⟩;have HS1:=aK (show gz<s1 by rw [hs1];exact blk_lt BZ2.out);have HV2:=aK (show Kd.V k112 112 w2 b0 (fun k=>gz<k∧k<s1) v5 cs from Kd.S_V (Kd.S_mono (Kd.S_bound hS) (fun k hk=>⟨by have:=blk_lt BZ1.out;omega,by rw [hs1];exact hk.2.2.1⟩)));have HOk:=aK hok;have HFw:=aK hfew;have Hs1:=aK hs1;obtain ⟨A,cA,eA⟩:=Kd.V_slice HV2.out;subst eA;clear hok hfew hS hi hk hst hs1 HI1 HCh1 BZ1
 go_wp2_with (go_at_call 62;refine Classical.byContradiction (fun hng=>?_))
 refine hng ?_;clear hng;refine (fill_any _ g A cA cs w0 _ HI2.out zz44 HOk.out (Kd.C_foot_ownV HV2.out (fun k hk=>by have:=HG.out;have:=HGz.out;omega)) (Kd.V_reads' HV2.out).2.1).mono ?_;rintro e w3 ⟨gw,cW,gc,cC,ws,y,t,o,cards,v7,rt,rfl,hB,hrl,hO,hR,hi,hc⟩;rw [←Hs1.out] at hO hR;have HO3:=aK hO;have HR3:=aK hR;have HI3:=aK hi;have HCh3:=aK (HCh2.out.then_ hc);have BZ3:=aK (hc.blk BZ2.out (by have:=HG.out;have:=HGz.out;omega));have HV3:=aK (Kd.V_kept HV2.out hc.kept (fun k hk q=>by have:=HG.out;have:=HGz.out;omega));have HLs:=aK (show (14≤ws.length∧ws.length≤160)∧(4≤cards.length∧cards.length≤40)∧rt.length≤60 by have:=hB.n0;have:=hB.n1;have:=hB.y0;have:=hB.y1;have:=hB.cd;omega);clear hB hrl hO hR hi hc HI2 HCh2 BZ2 HV2;obtain ⟨A7,c7,e7⟩:=Kd.R_slice HR3.out;subst e7
 go_wp2_with ((with_reducible refine gate_dst (N:=6) rfl ?_);refine Classical.byContradiction (fun hng=>?_))
 refine hng ?_;clear hng;refine box_event ?hg (N:=6) ?hd (cs:= #[.slice none 0 0,.int .i64 0,.int .i64 0,.int .i64 0,.slice none 0 0]) (t:=27) ?hr ?_
 (case hd=>rfl)
 (case hg=>rfl)
 (case hr=>first|(go_simp;done)|(go_simp;rfl))
 intro gm hg w4 hbox hb;have HO4:=aK (HO3.out.ch ((Ch.refl (fun _=>False) _).below hb) (fun h=>h) (fun h=>h));have HR4:=aK (Kd.R_mono (Kd.R_bound (Kd.R_below HR3.out hb)) (fun k hk=>(show k≠gw from hk.1)));have HV4:=aK (Kd.V_below HV3.out hb);have BZ4:=aK (blk_below BZ3.out hb);have HI4:=aK (HI3.out.below hb);have HCh4:=aK (HCh3.out.below hb);have HGm:=aK (show s1≤gm by rw [hg];have:=HO3.out.bw;omega);have BM4:=aK hbox;clear hb hbox hg HO3 HR3 HV3 BZ3 HI3 HCh3;have c0:=(blk_cell BM4.out 0).trans rfl;have c1:=(blk_cell BM4.out 1).trans rfl;have c2:=(blk_cell BM4.out 2).trans rfl;have c3:=(blk_cell BM4.out 3).trans rfl;have c4:=(blk_cell BM4.out 4).trans rfl;have f0:=blk_frozen BM4.out 0;have f1:=blk_frozen BM4.out 1;have f2:=blk_frozen BM4.out 2;have f3:=blk_frozen BM4.out 3;have f4:=blk_frozen BM4.out 4
 go_wp2_with ((with_reducible refine gate_store (t:=27) (p:=6) rfl ?_);refine Classical.byContradiction (fun hng=>?_))
 refine hng ?_;clear hng;refine store_event (t:=27) (p:=6) (v:=?vm1) (w1:=(memBox w4 gm (.slice (some ⟨gw,0,none⟩) ws.length cW) (.int .i64 y) (.int .i64 t) (.int .i64 o) (.slice (some ⟨gc,0,none⟩) cards.length cC))) ?hg ?ho ?hn ?hr ?_
 (case ho=>rfl)
 (case hg=>rfl)
 (case hn=>rfl)
 (case hr=>first|(go_simp;done)|(go_simp;rfl))
 intro w5 hw;have n4:=HO4.out.nbox BM4.out;have hc4:Ch (fun k=>k=gm) w4 w5:=by rw [hw];exact (Ch.refl (fun k=>k=gm) _).box5 (.inl rfl) _ _ _ _ _
 have HMs5:=aK (show Ms b0 s1 gz gm gw cW gc cC w5 (.slice A cs.length cA) (.slice A7 rt.length c7) cs ws y t o cards rt from ⟨HO4.out.ch hc4 n4.1 n4.2,Kd.V_kept HV4.out hc4.kept (fun k hk q=>by have:=HGm.out;omega),by rw [hw];exact R_box5t HR4.out BM4.out (by decide),by rw [hw];exact blk_box5 BM4.out,hc4.blk BZ4.out (by have:=HGm.out;have:=HS1.out;omega),⟨HGz.out,HS1.out,HGm.out⟩,⟨by have:=csOk_len HOk.out;omega,by have:=csOk_len HOk.out;omega,fun x hx=>by have:=HFw.out x hx;omega⟩,HLs.out.1,HLs.out.2.1,HLs.out.2.2⟩);have HI5:=aK (HI4.out.ch hc4 (by have:=HG.out;have:=HGz.out;have:=HGm.out;have:=HS1.out;omega) (fun k hk=>by have:=HG.out;have:=HGz.out;have:=HGm.out;have:=HS1.out;omega));have HCh5:=aK (HCh4.out.trans hc4 (fun k hk=> .inr (by have:=HBW.out;have:=HGz.out;have:=HGm.out;have:=HS1.out;omega)));clear hw hc4 n4 HO4 HR4 HV4 BM4 BZ4 HI4 HCh4;clear c0 c1 c2 c3 c4;clear f0 f1 f2 f3 f4
 go_wp2_with (go_at_call 33;refine Classical.byContradiction (fun hng=>?_))
 refine hng ?_;clear hng;refine (pick_any _ g 16 w0 _ HI5.out zz44 (by have:=HMs5.out.l0;omega) (by have:=HMs5.out.l0;omega)).mono ?_;rintro e w6 ⟨q,rfl,hq,hi,hk⟩;have hst:=HI5.out.step hi hk;have HI6:=aK hi;have HCh6:=aK (HCh5.out.then_ hst);have HMs6:=aK (HMs5.out.ch hst (fun k hk=>by have:=HG.out;omega));clear hst hi hk HI5 HCh5 HMs5;by_cases cq:0<q
 ·have d0 : decide (0 < q) = true := decide_eq_true cq
  clear cq hq;have HD:=aK (HMs6.out.dm.mono (fun k hk=>hk.1));have BMt:=aK HMs6.out.bm;have BZt:=aK HMs6.out.bz;have HIt:=HI6;have HCht:=HCh6;clear HMs6 HI6 HCh6;go_wp2;replace HD:=aK (HD.out.ch (Ch.drew (Ch.refl (fun _=>False) _)) (fun _ _ h=>h));replace BMt:=aK (blk_drew BMt.out);replace BZt:=aK (blk_drew BZt.out);replace HIt:=aK HIt.out.drew;replace HCht:=aK HCht.out.drew;have z0:=(blk_cell BZt.out 0).trans rfl;have z1:=(blk_cell BZt.out 1).trans rfl;have z2:=(blk_cell BZt.out 2).trans rfl;have z3:=(blk_cell BZt.out 3).trans rfl;have z4:=(blk_cell BZt.out 4).trans rfl;have y_0:=blk_frozen BZt.out 0;have y_1:=blk_frozen BZt.out 1;have y_2:=blk_frozen BZt.out 2;have y_3:=blk_frozen BZt.out 3;have y_4:=blk_frozen BZt.out 4;refine sT 6 (S:=fun w'=>w'.cell? ⟨gm,0,none⟩=some (.slice (some ⟨gw,0,none⟩) ws.length cW)∧w'.cell? ⟨gm,1,none⟩=some (.int .i64 y)∧w'.cell? ⟨gm,2,none⟩=some (.int .i64 t)∧w'.cell? ⟨gm,3,none⟩=some (.int .i64 o)∧w'.cell? ⟨gm,4,none⟩=some (.slice (some ⟨gc,0,none⟩) cards.length cC)) (ds:=[4]) ⟨((blk_cell BMt.out 0).trans rfl),((blk_cell BMt.out 1).trans rfl),((blk_cell BMt.out 2).trans rfl),((blk_cell BMt.out 3).trans rfl),((blk_cell BMt.out 4).trans rfl)⟩ (fun hHeld=>?_);generalize w6.drew=wt at HD BMt BZt HIt HCht z0 z1 z2 z3 z4 y_0 y_1 y_2 y_3 y_4 hHeld ⊢;refine pS 0 20 #[true,false,false,false,false,false] ?_;refine pS 2 22 #[true,false,true,false,false,false] ?_;refine pS 3 2 #[true,false,true,true,false,false] ?_;refine tS 1 21 #[true,true,true,true,false,false] rfl rfl (by kernel_rfl) hHeld zz17 ?_;refine last_ (i:=4) (N:=none) #[true,true,true,true,true,false] rfl rfl (by kernel_rfl) (by decide) (fun K hK=>?_);refine skip_ (w1:=?_) (by rfl) rfl ?_ ?_;rotate_left
  ·go_simp
   rfl
  refine hK.out _ _ ?_;clear hK K;refine pS 5 4 #[true,true,true,true,true,true] ?_;refine done_ (by kernel_rfl) ?_;clear z0 y_0 z1 y_1 z2 y_2 z3 y_3 z4 y_4;go_wp2;refine bodyPost_ret (results_list (rs:=[.tmp 2,.cell 3 27,.tmp 4]) rfl (by simp) (.tmp (.cell gz 27 #[.slice (some ⟨gw,0,none⟩) ws.length cW,.int .i64 y,.int .i64 t,.int .i64 o,.slice (some ⟨gc,0,none⟩) cards.length cC] (0,0) _ rfl (blk_box5 BZt.out) Try.underlying27 rfl (by kernel_rfl) (.tmp .nil)))) rfl ?_;exact (show Dm _ w.heap.size (fun k=>w.heap.size≤k∧k≠gz) _ _ _ _ _ _ _ _ by rw [←HBW.out];exact HD.out).ret HIt.out (by omega) HCht.out (by have:=HG.out;have:=HBW.out;omega) (by have:=HGz.out;have:=HBW.out;omega)
 ·have d0 : decide (0 < q) = false := decide_eq_false cq
  clear cq hq;have k0:=(blk_cell HMs6.out.bm 0).trans rfl
  go_wp2_with fail
  go_at_call 33;refine (pick_any _ g ws.length w0 _ HI6.out zz44 (by have:=HMs6.out.l0;omega) (by have:=HMs6.out.l0;omega)).mono ?_;rintro e w7 ⟨at_,rfl,hat,hi,hk⟩;have hst:=HI6.out.step hi hk;have HI7:=aK hi;have HCh7:=aK (HCh6.out.then_ hst);have HMs7:=aK (HMs6.out.ch hst (fun k hk=>by have:=HG.out;omega));have HAt:=aK hat;clear hat k0;clear hst hi hk HI6 HCh6 HMs6
  go_wp2_with fail
  go_at_call 33;refine (pick_any _ g 10 w0 _ HI7.out zz44 (by have:=HMs7.out.l0;omega) (by have:=HMs7.out.l0;omega)).mono ?_;rintro e w8 ⟨s,rfl,hs,hi,hk⟩;have hst:=HI7.out.step hi hk;have HI8:=aK hi;have HCh8:=aK (HCh7.out.then_ hst);have HMs8:=aK (HMs7.out.ch hst (fun k hk=>by have:=HG.out;omega));clear hst hi hk HI7 HCh7 HMs7
  go_upto_block 0 with fail
  go_cut [5,7] from 30 to 102 (fun v5 v7 wx=> ∃(A5:Option Addr) (n5 c5:Nat) (A0:Option Addr) (n0 c0:Nat) (A4:Option Addr) (n4 c4:Nat) (A9:Option Addr) (n9 c9:Nat) (cs:Cs) (ws:List Int) (y t o:Int) (cards:List Bool) (rt:List Int),v5= .slice A5 n5 c5∧v7= .slice A9 n9 c9∧Aside0 (Dm wx b0 (fun k=>b0≤k∧k≠gz) (.slice A5 n5 c5) (.slice A0 n0 c0) (.slice A4 n4 c4) (.slice A9 n9 c9) cs ws cards rt)∧Aside0 (wx.heap[gm]? =some (.cells #[.slice A0 n0 c0,.int .i64 y,.int .i64 t,.int .i64 o,.slice A4 n4 c4] 27 (0,0)))∧Aside0 (wx.heap[gz]? =some (.cells #[.slice none 0 0,.int .i64 0,.int .i64 0,.int .i64 0,.slice none 0 0] 27 (0,0)))∧Aside0 (Rdr (M+6000) w0 wx g)∧Aside0 (Ch (fun k=>k=g) w wx))
  case first =>
   have hs10:s=0∨s=1∨s=2∨s=3∨s=4∨s=5∨s=6∨s=7∨s=8∨s=9:=by omega
   clear hs;rcases hs10 with rfl|rfl|rfl|rfl|rfl|rfl|rfl|rfl|rfl|rfl
   ·have k0 := (blk_cell HMs8.out.bm 0).trans rfl
    go_wp2;replace HMs8:=aK (HMs8.out.ch (Ch.drew (Ch.refl (fun _=>False) _)) (fun _ h=>h.elim));replace HI8:=aK HI8.out.drew;replace HCh8:=aK HCh8.out.drew;have p1:=eq_true HAt.out.1;have p2:=eq_true HAt.out.2;clear k0;refine sT 8 (S:=fun w'=>w'.cell? ⟨gm,0,none⟩=some (.slice (some ⟨gw,0,none⟩) ws.length cW)) (ds:=[7]) (((blk_cell HMs8.out.bm 0).trans rfl)) (fun hHeld=>?_);generalize w8.drew=w8a at HMs8 HI8 HCh8 hHeld ⊢;refine pS 0 36 #[true,false,false,false,false,false,false,false] ?_;refine pS 2 38 #[true,false,true,false,false,false,false,false] ?_;refine pS 3 39 #[true,false,true,true,false,false,false,false] ?_;refine tS 1 37 #[true,true,true,true,false,false,false,false] rfl rfl (by kernel_rfl) hHeld (by intro w' s0;go_simp;with_reducible rfl) ?_;refine oS 4 40 #[true,true,true,true,true,false,false,false] rfl rfl (fun K hK=>?_);refine gO Try.func33 #[.pointer (some ⟨g,0,none⟩),.int .i64 9] ?_;(with_reducible refine (pick_any _ g 9 w0 _ HI8.out zz44 (by omega) (by omega)).mono ?_);rintro e w8b ⟨y9,rfl,hy9,hi,hk⟩;refine ⟨_,rfl,?_⟩;have hst:=HI8.out.step hi hk;have HI9:=aK hi;have HCh9:=aK (HCh8.out.then_ hst);have HMs9:=aK (HMs8.out.ch hst (fun k hk=>by have:=HG.out;omega));clear hst hi hk hy9 HI8 HCh8 HMs8;obtain ⟨x0,fx0⟩:=HMs9.out.om.wcell at_ HAt.out.1 HAt.out.2;refine hK.out _ _ (((blk_cell HMs9.out.bm 0).trans rfl)) (fun hHeld=>?_);clear hK K;refine nS 40 ?_;refine pS 5 41 #[true,true,true,true,true,true,false,false] ?_;refine pS 6 42 #[true,true,true,true,true,true,true,false] ?_;refine last_ (i:=7) (N:=none) #[true,true,true,true,true,true,true,true] rfl rfl (by kernel_rfl) (by decide) (fun K hK=>?_);refine skip_ (w1:=?_) (by rfl) rfl ?_ ?_;rotate_left
    ·go_simp
     rfl
    refine hK.out _ _ ?_;clear hK K;refine done_ (by kernel_rfl) ?_;obtain ⟨w9,hw⟩: ∃z,z=w8b.setCell ⟨gw,at_.toNat,none⟩ (.int .i64 (wrap64 (y9 - 3))):=⟨_,rfl⟩;rw [←hw];have hO9:OM s1 gw cW gc cC w9 (ws.set at_.toNat (wrap64 (y9 - 3))) cards:=by rw [hw];exact HMs9.out.om.setw at_ (wrap64 (y9 - 3))
    have hc9:Ch (fun z=>z=gw) w8b w9:=by rw [hw];exact (Ch.refl (fun z=>z=gw) _).set (.inl rfl) _
    have HMa:=aK (HMs9.out.word hc9 hO9 (List.length_set));have HD:=aK (HMa.out.dm.mono (fun k hk=>hk.1));have BMt:=aK HMa.out.bm;have BZt:=aK HMa.out.bz;have HIt:=aK (HI9.out.ch hc9 (by have:=HMs9.out.om.bw;have:=HMs9.out.ge;have:=HG.out;omega) (fun z hz=>by have:=HMs9.out.om.bw;have:=HMs9.out.ge;have:=HG.out;omega));have HCht:=aK (HCh9.out.trans hc9 (fun z hz=> .inr (by have:=HMs9.out.om.bw;have:=HMs9.out.ge;have:=HBW.out;omega)));clear hO9 hc9 hw x0 fx0 HMs9 HI9 HCh9;simp only [List.length_set] at HD BMt;go_wp2;go_meet;exact ⟨_,_,_,_,_,_,_,_,_,_,_,_,_,_,_,_,_,_,_,rfl,rfl,HD,BMt,BZt,⟨HIt.out.le (by omega)⟩,HCht⟩
   ·go_wp2_with fail
    go_at_call 33;refine (pick_any _ g 12 w0 _ HI8.out zz44 (by have:=HMs8.out.l0;omega) (by have:=HMs8.out.l0;omega)).mono ?_;rintro e w9 ⟨p9,rfl,hp9,hi,hk⟩;have hst:=HI8.out.step hi hk;have HI9:=aK hi;have HCh9:=aK (HCh8.out.then_ hst);have HMs9:=aK (HMs8.out.ch hst (fun k hk=>by have:=HG.out;omega));have k2:=(blk_cell HMs9.out.bm 2).trans rfl;have fk2:=blk_frozen HMs9.out.bm 2;clear hp9;clear hst hi hk HI8 HCh8 HMs8
    go_wp2_with ((with_reducible refine gate_store (t:=3) (p:=47) rfl ?_);refine Classical.byContradiction (fun hng=>?_))
    refine hng ?_;clear hng;refine store_event (t:=3) (p:=47) (v:=?vs1) (w1:=(w9.setCell ⟨gm,2,none⟩ (.int .i64 p9))) ?hg ?ho ?hn ?hr ?_
    (case ho=>rfl)
    (case hg=>rfl)
    (case hn=>rfl)
    (case hr=>first|(go_simp;done)|(go_simp;rfl))
    intro wa hw;clear k2 fk2;have hc9:Ch (fun z=>z=gm) w9 wa:=by rw [hw];exact (Ch.refl (fun z=>z=gm) _).set (.inl rfl) _
    have HD:=aK ((HMs9.out.dm.ch hc9 (fun z hz=>hz.2)).mono (fun z hz=>hz.1));have BMt:=aK (show wa.heap[gm]? =some (.cells #[.slice (some ⟨gw,0,none⟩) ws.length cW,.int .i64 y,.int .i64 p9,.int .i64 o,.slice (some ⟨gc,0,none⟩) cards.length cC] 27 (0,0)) by rw [hw];exact blk_put HMs9.out.bm 2 _ rfl);have BZt:=aK (hc9.blk HMs9.out.bz (by have:=HMs9.out.ge;omega));have HIt:=aK (HI9.out.ch hc9 (by have:=HMs9.out.ge;have:=HG.out;omega) (fun z hz=>by have:=HMs9.out.ge;have:=HG.out;omega));have HCht:=aK (HCh9.out.trans hc9 (fun z hz=> .inr (by have:=HMs9.out.ge;have:=HBW.out;omega)));clear hc9 hw HMs9 HI9 HCh9;go_wp2;go_meet;exact ⟨_,_,_,_,_,_,_,_,_,_,_,_,_,_,_,_,_,_,_,rfl,rfl,HD,BMt,BZt,⟨HIt.out.le (by omega)⟩,HCht⟩
   ·have k3 := (blk_cell HMs8.out.bm 3).trans rfl
    go_wp2;replace HMs8:=aK (HMs8.out.ch (Ch.drew (Ch.refl (fun _=>False) _)) (fun _ h=>h.elim));replace HI8:=aK HI8.out.drew;replace HCh8:=aK HCh8.out.drew;clear k3;refine sT 8 (S:=fun w'=>w'.cell? ⟨gm,3,none⟩=some (.int .i64 o)) (ds:=[7]) (((blk_cell HMs8.out.bm 3).trans rfl)) (fun hHeld=>?_);generalize w8.drew=w8a at HMs8 HI8 HCh8 hHeld ⊢;refine pS 0 50 #[true,false,false,false,false,false,false,false] ?_;refine pS 2 52 #[true,false,true,false,false,false,false,false] ?_;refine tS 1 51 #[true,true,true,false,false,false,false,false] rfl rfl (by kernel_rfl) hHeld (by intro w' s0;go_simp;with_reducible rfl) ?_;refine oS 3 53 #[true,true,true,true,false,false,false,false] rfl rfl (fun K hK=>?_);refine gO Try.func33 #[.pointer (some ⟨g,0,none⟩),.int .i64 4] ?_;(with_reducible refine (pick_any _ g 4 w0 _ HI8.out zz44 (by omega) (by omega)).mono ?_);rintro e w8b ⟨p9,rfl,hp9,hi,hk⟩;refine ⟨_,rfl,?_⟩;have hst:=HI8.out.step hi hk;have HI9:=aK hi;have HCh9:=aK (HCh8.out.then_ hst);have HMs9:=aK (HMs8.out.ch hst (fun k hk=>by have:=HG.out;omega));clear hst hi hk hp9 HI8 HCh8 HMs8;have k3:=(blk_cell HMs9.out.bm 3).trans rfl;have fk3:=blk_frozen HMs9.out.bm 3;refine hK.out _ _ (k3) (fun hHeld=>?_);clear hK K;refine nS 53 ?_;refine pS 4 54 #[true,true,true,true,true,false,false,false] ?_;refine pS 5 55 #[true,true,true,true,true,true,false,false] ?_;refine pS 6 56 #[true,true,true,true,true,true,true,false] ?_;refine last_ (i:=7) (N:=none) #[true,true,true,true,true,true,true,true] rfl rfl (by kernel_rfl) (by decide) (fun K hK=>?_);refine skip_ (w1:=?_) (by rfl) rfl ?_ ?_;rotate_left
    ·go_simp
     rfl
    refine hK.out _ _ ?_;clear hK K;refine done_ (by kernel_rfl) ?_;obtain ⟨w9,hw⟩: ∃z,z=w8b.setCell ⟨gm,3,none⟩ (.int .i64 (wrap64 (wrap64 (o+p9) - 1))):=⟨_,rfl⟩;rw [←hw];have hc9:Ch (fun z=>z=gm) w8b w9:=by rw [hw];exact (Ch.refl (fun z=>z=gm) _).set (.inl rfl) _
    have HD:=aK ((HMs9.out.dm.ch hc9 (fun z hz=>hz.2)).mono (fun z hz=>hz.1));have BMt:=aK (show w9.heap[gm]? =some (.cells #[.slice (some ⟨gw,0,none⟩) ws.length cW,.int .i64 y,.int .i64 t,.int .i64 (wrap64 (wrap64 (o+p9) - 1)),.slice (some ⟨gc,0,none⟩) cards.length cC] 27 (0,0)) by rw [hw];exact blk_put HMs9.out.bm 3 _ rfl);have BZt:=aK (hc9.blk HMs9.out.bz (by have:=HMs9.out.ge;omega));have HIt:=aK (HI9.out.ch hc9 (by have:=HMs9.out.ge;have:=HG.out;omega) (fun z hz=>by have:=HMs9.out.ge;have:=HG.out;omega));have HCht:=aK (HCh9.out.trans hc9 (fun z hz=> .inr (by have:=HMs9.out.ge;have:=HBW.out;omega)));clear hc9 hw k3 fk3 HMs9 HI9 HCh9;go_wp2;go_meet;exact ⟨_,_,_,_,_,_,_,_,_,_,_,_,_,_,_,_,_,_,_,rfl,rfl,HD,BMt,BZt,⟨HIt.out.le (by omega)⟩,HCht⟩
   ·have k4 := (blk_cell HMs8.out.bm 4).trans rfl; have fk4 := blk_frozen HMs8.out.bm 4
    go_wp2_with ((with_reducible refine gate_dst (N:=62) rfl ?_);refine Classical.byContradiction (fun hng=>?_))
    refine hng ?_;clear hng;refine Kd.R_make Kd.bool _ 4 rfl (N:=62) rfl 25 _ _ rfl (cards.length:Int) rfl rfl Try.underlying25 (.bool false) 1 info4 rfl (by decide) (by omega) false (ok:=fun _=>True) (okp:=fun _=>True) rfl (fun _ hk=>hk) trivial (by omega) (by have:=HMs8.out.l4;omega) (Below.refl _ _) (Nat.le_refl _) ?_;intro v9 w9 ho hb hg_ hnew_;have HM9:=aK (HMs8.out.below hb);have HR9:=aK (Kd.R_mono (Kd.R_bound ho) (fun k hk=>show w8.heap.size≤k from hk.2.1));have HI9:=aK (HI8.out.below hb);have HCh9:=aK (HCh8.out.below hb);have HZ8:=aK (show gm<w8.heap.size from blk_lt HMs8.out.bm);clear ho hb hg_ hnew_ HI8 HCh8 HMs8 k4 fk4;obtain ⟨A9,c9,e9⟩:=Kd.R_slice HR9.out;subst e9;have k4:=(blk_cell HM9.out.bm 4).trans rfl;have fk4:=blk_frozen HM9.out.bm 4
    go_wp2_with ((with_reducible refine gate_store (t:=25) (p:=63) rfl ?_);refine Classical.byContradiction (fun hng=>?_))
    refine hng ?_;clear hng;refine store_event (t:=25) (p:=63) (v:=?vs3) (w1:=(w9.setCell ⟨gm,4,none⟩ (.slice A9 (List.replicate (cards.length:Int).toNat false).length c9))) ?hg ?ho ?hn ?hr ?_
    (case ho=>rfl)
    (case hg=>rfl)
    (case hn=>rfl)
    (case hr=>first|(go_simp;done)|(go_simp;rfl))
    intro wa hw;clear k4 fk4;have hd:=HM9.out.dm;have hc9:Ch (fun z=>z=gm) w9 wa:=by rw [hw];exact (Ch.refl (fun z=>z=gm) _).set (.inl rfl) _
    have HD:=aK (((Dm.mk hd.h5 hd.h0 (Kd.R_V (Kd.R_mono HR9.out (fun k hk=>(show (b0≤k∧k≠gz)∧k≠gm by have:=HZ8.out;have:=HM9.out.ge;omega)))) hd.h7 hd.l5 hd.l0 (by have:=HM9.out.l4;rw [List.length_replicate];omega) hd.l7).ch hc9 (fun z hz=>hz.2)).mono (fun z hz=>hz.1));have BMt:=aK (show wa.heap[gm]? =some (.cells #[.slice (some ⟨gw,0,none⟩) ws.length cW,.int .i64 y,.int .i64 t,.int .i64 o,.slice A9 (List.replicate (cards.length:Int).toNat false).length c9] 27 (0,0)) by rw [hw];exact blk_put HM9.out.bm 4 _ rfl);have BZt:=aK (hc9.blk HM9.out.bz (by have:=HM9.out.ge;omega));have HIt:=aK (HI9.out.ch hc9 (by have:=HM9.out.ge;have:=HG.out;omega) (fun z hz=>by have:=HM9.out.ge;have:=HG.out;omega));have HCht:=aK (HCh9.out.trans hc9 (fun z hz=> .inr (by have:=HM9.out.ge;have:=HBW.out;omega)));clear hd hc9 hw HM9 HI9 HCh9 HR9;simp only [List.length_replicate,Int.toNat_natCast] at HD BMt;go_wp2;go_meet;exact ⟨_,_,_,_,_,_,_,_,_,_,_,_,_,_,_,_,_,_,_,rfl,rfl,HD,BMt,BZt,⟨HIt.out.le (by omega)⟩,HCht⟩
   ·have k4 := (blk_cell HMs8.out.bm 4).trans rfl; have fk4 := blk_frozen HMs8.out.bm 4
    have hcc:=(Kd.R_reads' HMs8.out.om.hc).2.1;have h4_:=HMs8.out.l4;have p1:=eq_true (show 1≤cards.length by omega);have p2:=eq_true (show (1:Int)≤(cards.length:Int) by omega);have p3:=eq_false (show¬cC=1 by omega);have p4:=eq_true (show 1≤cC by omega);have p5:=eq_true (show (1:Int)≤(cC:Int) by omega);clear hcc h4_
    go_wp2_with ((with_reducible refine gate_store (t:=25) (p:=69) rfl ?_);refine Classical.byContradiction (fun hng=>?_))
    refine hng ?_;clear hng;refine store_event (t:=25) (p:=69) (v:=?vs4) (w1:=(w8.setCell ⟨gm,4,none⟩ (.slice (some ⟨gc,1,none⟩) (cards.length - 1) (cC - 1)))) ?hg ?ho ?hn ?hr ?_
    (case ho=>rfl)
    (case hg=>rfl)
    (case hn=>rfl)
    (case hr=>first|(go_simp;done)|(go_simp;rfl))
    intro wa hw;clear p1 p2 p3 p4 p5;clear k4 fk4;have hc9:Ch (fun z=>z=gm) w8 wa:=by rw [hw];exact (Ch.refl (fun z=>z=gm) _).set (.inl rfl) _
    have HD:=aK ((HMs8.out.cut.ch hc9 (fun z hz=>hz.2)).mono (fun z hz=>hz.1));have BMt:=aK (show wa.heap[gm]? =some (.cells #[.slice (some ⟨gw,0,none⟩) ws.length cW,.int .i64 y,.int .i64 t,.int .i64 o,.slice (some ⟨gc,1,none⟩) (cards.length - 1) (cC - 1)] 27 (0,0)) by rw [hw];exact blk_put HMs8.out.bm 4 _ rfl);have BZt:=aK (hc9.blk HMs8.out.bz (by have:=HMs8.out.ge;omega));have HIt:=aK (HI8.out.ch hc9 (by have:=HMs8.out.ge;have:=HG.out;omega) (fun z hz=>by have:=HMs8.out.ge;have:=HG.out;omega));have HCht:=aK (HCh8.out.trans hc9 (fun z hz=> .inr (by have:=HMs8.out.ge;have:=HBW.out;omega)));clear hc9 hw HMs8 HI8 HCh8;go_wp2;go_meet;exact ⟨_,_,_,_,_,_,_,_,_,_,_,_,_,_,_,_,_,_,_,rfl,rfl,HD,BMt,BZt,⟨HIt.out.le (by omega)⟩,HCht⟩
   ·have k1 := (blk_cell HMs8.out.bm 1).trans rfl; have fk1 := blk_frozen HMs8.out.bm 1
    go_wp2_with ((with_reducible refine gate_store (t:=3) (p:=75) rfl ?_);refine Classical.byContradiction (fun hng=>?_))
    refine hng ?_;clear hng;refine store_event (t:=3) (p:=75) (v:=?vs5) (w1:=(w8.setCell ⟨gm,1,none⟩ (.int .i64 (wrap64 (y+1))))) ?hg ?ho ?hn ?hr ?_
    (case ho=>rfl)
    (case hg=>rfl)
    (case hn=>rfl)
    (case hr=>first|(go_simp;done)|(go_simp;rfl))
    intro wa hw;clear k1 fk1;have hc9:Ch (fun z=>z=gm) w8 wa:=by rw [hw];exact (Ch.refl (fun z=>z=gm) _).set (.inl rfl) _
    have HD:=aK ((HMs8.out.dm.ch hc9 (fun z hz=>hz.2)).mono (fun z hz=>hz.1));have BMt:=aK (show wa.heap[gm]? =some (.cells #[.slice (some ⟨gw,0,none⟩) ws.length cW,.int .i64 (wrap64 (y+1)),.int .i64 t,.int .i64 o,.slice (some ⟨gc,0,none⟩) cards.length cC] 27 (0,0)) by rw [hw];exact blk_put HMs8.out.bm 1 _ rfl);have BZt:=aK (hc9.blk HMs8.out.bz (by have:=HMs8.out.ge;omega));have HIt:=aK (HI8.out.ch hc9 (by have:=HMs8.out.ge;have:=HG.out;omega) (fun z hz=>by have:=HMs8.out.ge;have:=HG.out;omega));have HCht:=aK (HCh8.out.trans hc9 (fun z hz=> .inr (by have:=HMs8.out.ge;have:=HBW.out;omega)));clear hc9 hw HMs8 HI8 HCh8;go_wp2;go_meet;exact ⟨_,_,_,_,_,_,_,_,_,_,_,_,_,_,_,_,_,_,_,rfl,rfl,HD,BMt,BZt,⟨HIt.out.le (by omega)⟩,HCht⟩
   ·have k0 := (blk_cell HMs8.out.bm 0).trans rfl; have fk0 := blk_frozen HMs8.out.bm 0
    go_wp2_with ((with_reducible refine gate_builtin (b:= .append) (xs:= #[.tmp 79,.tmp 80]) rfl ?_);refine Classical.byContradiction (fun hng=>?_))
    refine hng ?_;clear hng
    at_builtin
    refine Kd.R_append (Kd.int .i64) (w0:=w8) s1 rfl (.tmp 79) (.tmp 80) 24 3 (.int .i64 0) 8 rfl Try.underlying24 info3 rfl (by decide) (by omega) (.slice (some ⟨gw,0,none⟩) ws.length cW) ws 0 [.int .i64 0] (fun k=>k=gw∨w8.heap.size≤k) (fun _=>False) rfl (by first|rfl|(go_simp;done)|(go_simp;rfl)) ?aP (fun _ hk=>hk.elim) ?aF ?aO ?aB ?aS ?aL ?_
    (case aP=>exact rfl)
    (case aB=>exact Below.refl _ _)
    (case aF=>exact fun k hk=> .inr hk)
    (case aO=>exact Kd.R_mono HMs8.out.om.hw (fun k hk=> .inl hk))
    (case aS=>have:=HMs8.out.om.bw;omega)
    (case aL=>have:=HMs8.out.l0;omega)
    intro v9 w9 ho hbn hgr hat;have hc9:Ch (fun z=>z=gw) w8 w9:=(Ch.refl _ w8).grown hgr (fun k e=> .inl (Option.some.inj e).symm)
    obtain ⟨A9,c9,e9⟩:=Kd.R_slice ho;subst e9;obtain ⟨hd,hbm,hbz⟩:=HMs8.out.grow hc9 ho (fun k hk=>hk) (by have:=HMs8.out.l0;simp;omega);simp only [List.length_append,List.length_cons,List.length_nil,Nat.zero_add] at hd;have HD9:=aK hd;have BM9:=aK hbm;have BZ9:=aK hbz;have HGE:=aK HMs8.out.ge;have HI9:=aK (HI8.out.ch hc9 (by have:=HMs8.out.om.bw;have:=HMs8.out.ge;have:=HG.out;omega) (fun z hz=>by have:=HMs8.out.om.bw;have:=HMs8.out.ge;have:=HG.out;omega));have HCh9:=aK (HCh8.out.trans hc9 (fun z hz=> .inr (by have:=HMs8.out.om.bw;have:=HMs8.out.ge;have:=HBW.out;omega)));clear ho hbn hgr hat hd hbm hbz hc9 HMs8 HI8 HCh8 k0 fk0;have k0:=(blk_cell BM9.out 0).trans rfl;have fk0:=blk_frozen BM9.out 0
    go_wp2_with ((with_reducible refine gate_store (t:=24) (p:=82) rfl ?_);refine Classical.byContradiction (fun hng=>?_))
    refine hng ?_;clear hng;refine store_event (t:=24) (p:=82) (v:=?vs6) (w1:=(w9.setCell ⟨gm,0,none⟩ (.slice A9 (ws.length+1) c9))) ?hg ?ho ?hn ?hr ?_
    (case ho=>rfl)
    (case hg=>rfl)
    (case hn=>rfl)
    (case hr=>first|(go_simp;done)|(go_simp;rfl))
    intro wa hw;clear k0 fk0;have hc9:Ch (fun z=>z=gm) w9 wa:=by rw [hw];exact (Ch.refl (fun z=>z=gm) _).set (.inl rfl) _
    have HD:=aK ((HD9.out.ch hc9 (fun z hz=>hz.2)).mono (fun z hz=>hz.1));have BMt:=aK (show wa.heap[gm]? =some (.cells #[.slice A9 (ws.length+1) c9,.int .i64 y,.int .i64 t,.int .i64 o,.slice (some ⟨gc,0,none⟩) cards.length cC] 27 (0,0)) by rw [hw];exact blk_put BM9.out 0 _ rfl);have BZt:=aK (hc9.blk BZ9.out (by have:=HGE.out;omega));have HIt:=aK (HI9.out.ch hc9 (by have:=HGE.out;have:=HG.out;omega) (fun z hz=>by have:=HGE.out;have:=HG.out;omega));have HCht:=aK (HCh9.out.trans hc9 (fun z hz=> .inr (by have:=HGE.out;have:=HBW.out;omega)));clear hc9 hw HD9 BM9 BZ9 HI9 HCh9;go_wp2;go_meet;exact ⟨_,_,_,_,_,_,_,_,_,_,_,_,_,_,_,_,_,_,_,rfl,rfl,HD,BMt,BZt,⟨HIt.out.le (by omega)⟩,HCht⟩
   ·go_wp2
    replace HMs8:=aK (HMs8.out.ch (Ch.drew (Ch.refl (fun _=>False) _)) (fun _ h=>h.elim));replace HI8:=aK (HI8.out.drew.le (L:=M+5990) (by omega));replace HCh8:=aK HCh8.out.drew;refine sT 15 (S:=fun w'=>w'.cell? ⟨gm,0,none⟩=some (.slice (some ⟨gw,0,none⟩) ws.length cW)) (ds:=[13]) (((blk_cell HMs8.out.bm 0).trans rfl)) (fun hHeld=>?_);generalize w8.drew=w8a at HMs8 HI8 HCh8 hHeld ⊢;refine pS 0 85 (lA 15 1) ?_;refine pS 1 86 (lA 15 3) ?_;refine pS 2 87 (lA 15 7) ?_;refine pS 3 88 (lA 15 15) ?_;refine pS 8 93 (lA 15 271) ?_;refine tS 4 89 (lA 15 287) rfl rfl (by kernel_rfl) hHeld (by intro w' s0;go_simp;with_reducible rfl) ?_;refine pS 5 90 (lA 15 319) ?_;refine pS 6 91 (lA 15 383) ?_;refine join_ (σ:=Nat×Int) 5 (lA 15 1023) (fun s=>[(92,.slice (some ⟨s.1,0,none⟩) 3 3),(94,.int .i64 s.2)]) (fun s w'=>(0≤s.2∧s.2<3)∧w'.heap[s.1]? =some (.cells #[.int .i64 (-1),.int .i64 (wrap64 (at_+1)),.int .i64 (wrap64 ((ws.length:Int)+1))] 3 (0,0))∧Rdr (M+5990+1) w0 w' g∧Ch (fun k=>k=g) w w'∧Ms b0 s1 gz gm gw cW gc cC w' (.slice A cs.length cA) (.slice A7 rt.length c7) cs ws y t o cards rt∧(w'.cell? ⟨gm,0,none⟩=some (.slice (some ⟨gw,0,none⟩) ws.length cW))) ?_ ?_;rotate_left
    ·intro hCont
     refine two_ (i:=7) (j:=9) (Ni:=some 92) (Nj:=some 94) (lA 15 511) (lA 15 895) rfl rfl rfl rfl (by kernel_rfl) (by decide) (by decide) (fun K hK=>?_) (fun K hK=>?_)
     ·skip
      refine value_ (w1:=?_) (v:=?_) (by rfl) rfl ?_ ?_;rotate_left 2
      ·go_simp
       constructor
       ·rfl
       ·rfl
      refine hK.out _ _ ((pw_cell_below (below_alloc (Below.refl _ _) _) hHeld)) (fun hHeld=>?_);clear hK K;refine nS 92 ?_;refine oS 9 94 (lA 15 1023) rfl rfl (fun K hK=>?_);refine gO Try.func33 #[.pointer (some ⟨g,0,none⟩),.int .i64 3] ?_;(with_reducible refine (pick_any _ g 3 w0 _ (HI8.out.alloc (.cells #[.int .i64 (-1),.int .i64 (wrap64 (at_+1)),.int .i64 (wrap64 ((ws.length:Int)+1))] 3 (0,0))) zz44 (by omega) (by omega)).mono ?_);rintro e w9 ⟨y9,rfl,hy9,hi,hk⟩;refine ⟨_,rfl,?_⟩;have hst:=(HI8.out.alloc (.cells #[.int .i64 (-1),.int .i64 (wrap64 (at_+1)),.int .i64 (wrap64 ((ws.length:Int)+1))] 3 (0,0))).step hi hk;have HL9:=aK (hst.blk (blk_new w8a (.cells #[.int .i64 (-1),.int .i64 (wrap64 (at_+1)),.int .i64 (wrap64 ((ws.length:Int)+1))] 3 (0,0))) (by have:=HG.out;have:=HMs8.out.ge;have:=blk_lt HMs8.out.bm;omega));have HI9:=aK hi;have HCh9:=aK ((HCh8.out.alloc (.cells #[.int .i64 (-1),.int .i64 (wrap64 (at_+1)),.int .i64 (wrap64 ((ws.length:Int)+1))] 3 (0,0))).then_ hst);have HMs9:=aK ((HMs8.out.below (below_alloc (Below.refl _ _) (.cells #[.int .i64 (-1),.int .i64 (wrap64 (at_+1)),.int .i64 (wrap64 ((ws.length:Int)+1))] 3 (0,0)))).ch hst (fun k hk=>by have:=HG.out;omega));have hy9_:=aK hy9;clear hst hi hk hy9;refine hK.out _ _ (((blk_cell HMs9.out.bm 0).trans rfl)) (fun hHeld=>?_);clear hK K;refine nS 94 ?_;exact norm_ zz29 (hCont (w8a.heap.size,y9) _ ⟨hy9_.out,HL9.out,HI9.out,HCh9.out,HMs9.out,hHeld⟩)
     ·skip
      refine gO Try.func33 #[.pointer (some ⟨g,0,none⟩),.int .i64 3] ?_;(with_reducible refine (pick_any _ g 3 w0 _ HI8.out zz44 (by omega) (by omega)).mono ?_);rintro e w9 ⟨y9,rfl,hy9,hi,hk⟩;refine ⟨_,rfl,?_⟩;have hst:=HI8.out.step hi hk;have HI9:=aK hi;have HCh9:=aK (HCh8.out.then_ hst);have HMs9:=aK (HMs8.out.ch hst (fun k hk=>by have:=HG.out;omega));have hy9_:=aK hy9;clear hst hi hk hy9;refine hK.out _ _ (((blk_cell HMs9.out.bm 0).trans rfl)) (fun hHeld=>?_);clear hK K;refine nS 94 ?_;refine one_ (i:=7) (N:=some 92) (lA 15 1023) rfl rfl (by kernel_rfl) (by decide) (fun K hK=>?_);refine value_ (w1:=?_) (v:=?_) (by rfl) rfl ?_ ?_;rotate_left 2
      ·go_simp
       constructor
       ·rfl
       ·rfl
      refine hK.out _ _ ((pw_cell_below (below_alloc (Below.refl _ _) _) hHeld)) (fun hHeld=>?_);clear hK K;refine nS 92 ?_;exact norm_ zz29 (hCont (w9.heap.size,y9) _ ⟨hy9_.out,blk_new w9 _,HI9.out.alloc _,HCh9.out.alloc _,HMs9.out.below (below_alloc (Below.refl _ _) _),hHeld⟩)
    rintro ⟨gl,y9⟩ w9 ⟨hy,hl,hi,hch,hm,hHeld⟩;have HI9:=aK hi;have HCh9:=aK hch;have HMs9:=aK hm;have q5:=eq_true hy.1;have q6:=eq_true hy.2
    obtain ⟨z,hz⟩: ∃z,w9.cell? ⟨gl,y9.toNat,none⟩=some (.int .i64 z):=by
     have h4:y9.toNat=0∨y9.toNat=1∨y9.toNat=2:=by omega
     rcases h4 with h4|h4|h4<;>rw [h4]
     ·exact ⟨_,(blk_cell hl 0).trans rfl⟩
     ·exact ⟨_,(blk_cell hl 1).trans rfl⟩
     ·exact ⟨_,(blk_cell hl 2).trans rfl⟩
    clear hi hch hm hl hy HMs8 HCh8 HI8;refine norm_ (a':=?_) ?_ ?_;rotate_left
    ·simp only [putAll, Act.put, List.setIfInBounds_toArray, List.set_cons_zero, List.set_cons_succ]
     rfl
    refine pS 10 95 (lA 15 2047) ?_;refine one_ (i:=11) (N:=some 96) (lA 15 4095) rfl rfl (by kernel_rfl) (by decide) (fun K hK=>?_);refine value_ (w1:=?_) (v:=?_) (by rfl) rfl ?_ ?_;rotate_left 2
    ·go_simp
     constructor
     ·rfl
     ·rfl
    refine hK.out _ _ (hHeld) (fun hHeld=>?_);clear hK K;refine nS 96 ?_;refine one_ (i:=12) (N:=some 97) (lA 15 8191) rfl rfl (by kernel_rfl) (by decide) (fun K hK=>?_);refine value_ (w1:=?_) (v:=?_) (by rfl) rfl ?_ ?_;rotate_left 2
    ·go_simp
     constructor
     ·rfl
     ·rfl
    refine hK.out _ _ ((pw_cell_below (below_alloc (Below.refl _ _) _) hHeld)) (fun hHeld=>?_);clear hK K;refine nS 97 ?_;refine last_ (i:=13) (N:=some 98) (lA 15 16383) rfl rfl (by kernel_rfl) (by decide) (fun K hK=>?_);refine Kd.R_append_step (Kd.int .i64) s1 (by rfl) (.tmp 85) (.tmp 97) 24 3 (.int .i64 0) 8 rfl Try.underlying24 info3 rfl (by decide) (by omega) (.slice A7 rt.length c7) rt z [.int .i64 z] (fun k=>k≠gw∧k≠gc) (fun _=>False) rfl rfl ?aP (fun _ hk=>hk.elim) ?aF ?aO (Below.refl _ _) ?aS ?aL ?_
    (case aP=>exact rfl)
    (case aF=>exact fun k hk=>by have:=HMs9.out.om.bw;have:=HMs9.out.om.bc;omega)
    (case aO=>exact HMs9.out.r7)
    (case aS=>have:=HMs9.out.om.bw;omega)
    (case aL=>have:=HMs9.out.l7;omega)
    intro v8 wb ho hbn hgr hat;obtain ⟨hd,hbm,hbz⟩:=HMs9.out.roots hgr ho (by have:=HMs9.out.l7;simp;omega);obtain ⟨AN,cN,eN⟩:=Kd.R_slice ho;subst eN;simp only [List.length_append,List.length_cons,List.length_nil,Nat.zero_add] at hd;have HD:=aK hd;have BMt:=aK hbm;have BZt:=aK hbz;have hbs: ∀k,(Value.slice A7 rt.length c7).ownBlock=some k→s1≤k:=fun k e=>Kd.R_base HMs9.out.h7 k e
    have HIt:=aK (HI9.out.grown hgr (fun e=>by have:=hbs g e.symm;have:=HG.out;have:=HMs9.out.ge;omega) (fun k e=>by have:=hbs k e;have:=HG.out;have:=HMs9.out.ge;omega));have HCht:=aK (HCh9.out.grown hgr (fun k e=> .inr (by have:=hbs k e;have:=HBW.out;have:=HMs9.out.ge;omega)));clear ho hbn hgr hat hd hbm hbz hbs HMs9 HI9 HCh9;refine hK.out _ _ ?_;clear hK K;refine nS 98 ?_;refine pS 14 7 (lA 15 32767) ?_;refine done_ (by kernel_rfl) ?_;go_wp2;go_meet;exact ⟨_,_,_,_,_,_,_,_,_,_,_,_,_,_,_,_,_,_,_,rfl,rfl,HD,BMt,BZt,⟨HIt.out.le (by omega)⟩,HCht⟩
   ·go_wp2_with (go_at_call 63; refine Classical.byContradiction (fun hng => ?_))
    refine hng ?_;clear hng;refine (off_any _ g w0 _ HI8.out zz44).mono ?_;rintro e w9 ⟨A9,c9,cs9,rfl,hl,hf,hV,hi,hk⟩;have hst:=HI8.out.step hi hk;have HIt:=aK hi;have HCht:=aK (HCh8.out.then_ hst);have HM9:=aK (HMs8.out.ch hst (fun k hk=>by have:=HG.out;omega));have HZ8:=aK (show gm<w8.heap.size from blk_lt HMs8.out.bm);have HD:=aK (show Dm w9 b0 (fun k=>b0≤k∧k≠gz) (.slice A9 cs9.length c9) (.slice (some ⟨gw,0,none⟩) ws.length cW) (.slice (some ⟨gc,0,none⟩) cards.length cC) (.slice A7 rt.length c7) cs9 ws cards rt from (by have hd:=HM9.out.dm.mono (fun k hk=>hk.1);exact Dm.mk (Kd.V_mono hV (fun k hk=>(show b0≤k∧k≠gz by have:=HZ8.out;have:=HM9.out.ge;omega))) hd.h0 hd.h4 hd.h7 ⟨hl.1,hl.2.1,hf⟩ hd.l0 hd.l4 hd.l7));have BMt:=aK HM9.out.bm;have BZt:=aK HM9.out.bz;clear hl hf hV hi hk hst HI8 HCh8 HMs8;go_wp2;go_meet;exact ⟨_,_,_,_,_,_,_,_,_,_,_,_,_,_,_,_,_,_,_,rfl,rfl,HD,BMt,BZt,⟨HIt.out.le (by omega)⟩,HCht⟩
   ·have k0 := (blk_cell HMs8.out.bm 0).trans rfl
    have p1:=eq_true HAt.out.1;have p2:=eq_true HAt.out.2;obtain ⟨x0,fx0⟩:=HMs8.out.om.wcell at_ HAt.out.1 HAt.out.2
    go_wp2_with ((with_reducible refine gate_store (t:=3) (p:=33) rfl ?_);refine Classical.byContradiction (fun hng=>?_))
    refine hng ?_;clear hng;refine store_event (t:=3) (p:=33) (v:=?vs9) (w1:=(w8.setCell ⟨gw,at_.toNat,none⟩ (.int .i64 300))) ?hg ?ho ?hn ?hr ?_
    (case ho=>rfl)
    (case hg=>rfl)
    (case hn=>rfl)
    (case hr=>first|(go_simp;done)|(go_simp;rfl))
    intro wa hw;clear k0 x0 fx0;have hO9:OM s1 gw cW gc cC wa (ws.set at_.toNat 300) cards:=by rw [hw];exact HMs8.out.om.setw at_ 300
    have hc9:Ch (fun z=>z=gw) w8 wa:=by rw [hw];exact (Ch.refl (fun z=>z=gw) _).set (.inl rfl) _
    have HMa:=aK (HMs8.out.word hc9 hO9 (List.length_set));have HD:=aK (HMa.out.dm.mono (fun k hk=>hk.1));have BMt:=aK HMa.out.bm;have BZt:=aK HMa.out.bz;have HIt:=aK (HI8.out.ch hc9 (by have:=HMs8.out.om.bw;have:=HMs8.out.ge;have:=HG.out;omega) (fun z hz=>by have:=HMs8.out.om.bw;have:=HMs8.out.ge;have:=HG.out;omega));have HCht:=aK (HCh8.out.trans hc9 (fun z hz=> .inr (by have:=HMs8.out.om.bw;have:=HMs8.out.ge;have:=HBW.out;omega)));clear hO9 hc9 hw HMs8 HI8 HCh8;simp only [List.length_set] at HD BMt;go_wp2;go_meet;exact ⟨_,_,_,_,_,_,_,_,_,_,_,_,_,_,_,_,_,_,_,rfl,rfl,HD,BMt,BZt,⟨HIt.out.le (by omega)⟩,HCht⟩
  case rest=>
   clear HMs8 HI8 HCh8 HAt hs;obtain ⟨A5,n5,c5,A0,n0,c0,A4,n4,c4,A9,n9,c9,cs',ws',y',t',o',cards',rt',rfl,rfl,HD,BMt,BZt,HIt,HCht⟩:=hcut;go_wp2;replace HD:=aK (HD.out.ch (Ch.drew (Ch.refl (fun _=>False) _)) (fun _ _ h=>h));replace BMt:=aK (blk_drew BMt.out);replace BZt:=aK (blk_drew BZt.out);replace HIt:=aK HIt.out.drew;replace HCht:=aK HCht.out.drew;have z0:=(blk_cell BZt.out 0).trans rfl;have z1:=(blk_cell BZt.out 1).trans rfl;have z2:=(blk_cell BZt.out 2).trans rfl;have z3:=(blk_cell BZt.out 3).trans rfl;have z4:=(blk_cell BZt.out 4).trans rfl;have y_0:=blk_frozen BZt.out 0;have y_1:=blk_frozen BZt.out 1;have y_2:=blk_frozen BZt.out 2;have y_3:=blk_frozen BZt.out 3;have y_4:=blk_frozen BZt.out 4;refine sT 6 (S:=fun w'=>w'.cell? ⟨gm,0,none⟩=some (.slice A0 n0 c0)∧w'.cell? ⟨gm,1,none⟩=some (.int .i64 y')∧w'.cell? ⟨gm,2,none⟩=some (.int .i64 t')∧w'.cell? ⟨gm,3,none⟩=some (.int .i64 o')∧w'.cell? ⟨gm,4,none⟩=some (.slice A4 n4 c4)) (ds:=[4]) ⟨((blk_cell BMt.out 0).trans rfl),((blk_cell BMt.out 1).trans rfl),((blk_cell BMt.out 2).trans rfl),((blk_cell BMt.out 3).trans rfl),((blk_cell BMt.out 4).trans rfl)⟩ (fun hHeld=>?_);generalize wc.drew=wt at HD BMt BZt HIt HCht z0 z1 z2 z3 z4 y_0 y_1 y_2 y_3 y_4 hHeld ⊢;refine pS 0 103 #[true,false,false,false,false,false] ?_;refine pS 2 105 #[true,false,true,false,false,false] ?_;refine pS 3 2 #[true,false,true,true,false,false] ?_;refine tS 1 104 #[true,true,true,true,false,false] rfl rfl (by kernel_rfl) hHeld zz17 ?_;refine last_ (i:=4) (N:=none) #[true,true,true,true,true,false] rfl rfl (by kernel_rfl) (by decide) (fun K hK=>?_);refine skip_ (w1:=?_) (by rfl) rfl ?_ ?_;rotate_left
   ·go_simp
    rfl
   refine hK.out _ _ ?_;clear hK K;refine pS 5 4 #[true,true,true,true,true,true] ?_;refine done_ (by kernel_rfl) ?_;clear z0 y_0 z1 y_1 z2 y_2 z3 y_3 z4 y_4;go_wp2;refine bodyPost_ret (results_list (rs:=[.tmp 2,.cell 3 27,.tmp 4]) rfl (by simp) (.tmp (.cell gz 27 #[.slice A0 n0 c0,.int .i64 y',.int .i64 t',.int .i64 o',.slice A4 n4 c4] (0,0) _ rfl (blk_box5 BZt.out) Try.underlying27 rfl (by kernel_rfl) (.tmp .nil)))) rfl ?_;exact (show Dm _ w.heap.size (fun k=>w.heap.size≤k∧k≠gz) _ _ _ _ _ _ _ _ by rw [←HBW.out];exact HD.out).ret HIt.out (by omega) HCht.out (by have:=HG.out;have:=HBW.out;omega) (by have:=HGz.out;have:=HBW.out;omega)
end Go.Proofs.Ytnlieahdakafbaa.K
namespace Go.Proofs.Ytnlieahdakafbaa.K
open Go.RowKit Go.Proofs.YtnlieahdakafbaaW.PrintWords Go.Proofs.YtnlieahdakafbaaW.PrintLast Go.Proofs.YtnlieahdakafbaaW.PrintMore
attribute [local go_sem] max2_int min2_int max_two min_two max_three min_three max_four min_four
set_option linter.unusedVariables false
set_option linter.unusedSimpArgs false
def spec_l21Walk.f (k:Nat) (l0:List (S112)) (l1_0:List Int) (a1_1:Int) (a1_2:Int) (a1_3:Int) (l1_4:List Bool):Option (List Int×Bool):=(spec_l21Part.f k l0 l1_0 0 a1_2).bind fun bt239=>((spec_l21Part.f k l0 l1_0 a1_1 a1_3).bind fun bt243=>(if bt239.1.length+bt243.1.length<17592186044416 then ((some (bt239.1++bt243.1:List Int)).bind fun y247=>(if bt239.2=true then (some (y247,bt243.2)) else (some (y247,false)))) else (none)))
set_option maxHeartbeats 8000000 in
set_option maxRecDepth 100000 in
theorem spec_l21Walk.calls (k:Nat) (A0:Option Addr) (c0:Nat) (l0:List (S112)) (A1_0:Option Addr) (c1_0:Nat) (l1_0:List Int) (a1_1:Int) (a1_2:Int) (a1_3:Int) (A1_4:Option Addr) (c1_4:Nat) (l1_4:List Bool) (r1:List Int) (r2:Bool) (w:World) (hr0:Kd.C k112 w A0 l0.length l0) (hc0:l0.length≤c0) (hr1_0:Kd.C (Kd.int .i64) w A1_0 l1_0.length l1_0) (hc1_0:l1_0.length≤c1_0) (hr1_4:Kd.C Kd.bool w A1_4 l1_4.length l1_4) (hc1_4:l1_4.length≤c1_4) (h:spec_l21Walk.f k l0 l1_0 a1_1 a1_2 a1_3 l1_4=some (r1,r2)):
  Calls Try.prog 40 #[.slice A0 l0.length c0,.agg #[.slice A1_0 l1_0.length c1_0,.int .i64 a1_1,.int .i64 a1_2,.int .i64 a1_3,.slice A1_4 l1_4.length c1_4]] w fun e w'=> ∃v0_:Value,e= .returned (.tuple #[v0_,.bool r2])∧Kd.R (Kd.int .i64) 3 w' w.heap.size (fun _=>True) v0_ r1∧Below w.heap.size w w':=by
 have hu27:=Try.underlying27;have HR0:=aK hr0;have HC0:=aK hc0;clear hr0 hc0;have HR1_0:=aK hr1_0;have HC1_0:=aK hc1_0;clear hr1_0 hc1_0;have HR1_4:=aK hr1_4;have HC1_4:=aK hc1_4;clear hr1_4 hc1_4;have HB:=aK (Below.refl w.heap.size w);have H:((spec_l21Part.f k l0 l1_0 0 a1_2).bind fun bt239=>((spec_l21Part.f k l0 l1_0 a1_1 a1_3).bind fun bt243=>(if bt239.1.length+bt243.1.length<17592186044416 then ((some (bt239.1++bt243.1:List Int)).bind fun y247=>(if bt239.2=true then (some (y247,bt243.2)) else (some (y247,false)))) else (none))))=some (r1,r2):=h
 clear h;replace H:=Option.bind_eq_some_iff.mp H;obtain ⟨⟨t239,t240⟩,A30,H⟩:=H;(try dsimp only at H);have A3:=aK A30;clear A30;replace H:=Option.bind_eq_some_iff.mp H;obtain ⟨⟨t243,t244⟩,A40,H⟩:=H;(try dsimp only at H);have A4:=aK A40;clear A40;by_cases c5:t239.length+t243.length<17592186044416
 ·rw [if_pos c5] at H
  have LMc5:=aK c5;clear c5;obtain ⟨y247,hy247⟩: ∃y_:List Int,y_=(t239++t243):=⟨_,rfl⟩;replace H:(if t240=true then (some (y247,t244)) else (some (y247,false)))=some (r1,r2):=by first|(rw [hy247];with_reducible exact H)|(have H2_:=(Option.bind_some _ _).symm.trans H;rw [hy247];with_reducible exact H2_)|(have H2_:=(Option.bind_some _ _).symm.trans H;with_reducible exact H2_)|with_reducible exact H|(rw [hy247];exact H)|exact H
  have Ny247:=aK hy247;clear hy247;by_cases c6:t240=true
  ·subst c6
   rw [if_pos rfl] at H;simp only [Option.some.injEq,Prod.mk.injEq] at H;obtain ⟨rfl,rfl⟩:=H;go_enter Try.func40,Try.ntmps40
   go_wp2_with (first|((with_reducible refine gate_dst (N:=3) rfl ?_);refine box_event ?hg (N:=3) ?hd (cs:= #[.slice A1_0 l1_0.length c1_0,.int .i64 a1_1,.int .i64 a1_2,.int .i64 a1_3,.slice A1_4 l1_4.length c1_4]) (t:=27) ?hr ?_;(case hd=>rfl);(case hg=>rfl);(case hr=>first|(go_simp;done)|(go_simp;rfl));intro gb238 hg w7 hbox hb;have BK238:=aK (hbox);have GW238:=aK ((by rw [hg];exact (below_size zz1):w.heap.size≤gb238));have GE238:=aK ((by rw [hg];exact (below_size zz1):w.heap.size≤gb238));replace HB:=aK (below_step zz1 hb);clear hb hbox hg;obtain ⟨hcz8_0,hcz8_1,hcz8_2,hcz8_3,hcz8_4,hfz8_0,hfz8_1,hfz8_2,hfz8_3,hfz8_4⟩:=cbf5 BK238)|((with_reducible refine gate_callee (f:=82) rfl ?_);refine goesL_ (some 16) rfl rfl Try.func82 (by kernel_rfl) rfl #[.slice A0 l0.length c0,.slice A1_0 l1_0.length c1_0,.int .i64 0,.int .i64 a1_2] rfl zz2 ?_;(with_reducible refine (spec_l21Part.calls k _ _ l0 _ _ l1_0 0 a1_2 t239 true _ ?side1 ?side2 ?side3 ?side4 A3.out).mono ?_);(case side1=>exact zz4);(case side2=>exact HC0.out);(case side3=>exact zz6);(case side4=>exact HC1_0.out);rintro e w9 ⟨v241,rfl,ho0,hb⟩;refine ⟨_,rfl,?_⟩;have HO242:=aK (Kd.R_lower ho0 (below_size zz14));replace BK238:=aK (blk_below (g:=gb238) (o:= .cells #[.slice A1_0 l1_0.length c1_0,.int .i64 a1_1,.int .i64 a1_2,.int .i64 a1_3,.slice A1_4 l1_4.length c1_4] 27 (0,0)) zz42 hb);replace HB:=aK (below_step zz14 hb);(try clear hb);(try clear hb2);(try clear hk);(try clear hi);(try clear ho0);obtain ⟨hcz10_0,hcz10_1,hcz10_2,hcz10_3,hcz10_4,hfz10_0,hfz10_1,hfz10_2,hfz10_3,hfz10_4⟩:=cbf5 BK238)|((with_reducible refine gate_callee (f:=82) rfl ?_);refine goesL_ (some 27) rfl rfl Try.func82 (by kernel_rfl) rfl #[.slice A0 l0.length c0,.slice A1_0 l1_0.length c1_0,.int .i64 a1_1,.int .i64 a1_3] rfl zz2 ?_;(with_reducible refine (spec_l21Part.calls k _ _ l0 _ _ l1_0 a1_1 a1_3 t243 t244 _ ?side1 ?side2 ?side3 ?side4 A4.out).mono ?_);(case side1=>exact zz4);(case side2=>exact HC0.out);(case side3=>exact zz6);(case side4=>exact HC1_0.out);rintro e w11 ⟨v245,rfl,ho0,hb⟩;refine ⟨_,rfl,?_⟩;have HO246:=aK (Kd.R_lower (Kd.R_new' ho0 (Kd.R_lt (by (with_reducible repeat (first|apply Kd.R_alloc|apply Kd.R_drewN|apply Kd.R_drew));exact HO242.out))) (below_size zz14));replace HO242:=aK (Kd.R_elder' (by (with_reducible repeat (first|apply Kd.R_alloc|apply Kd.R_drewN|apply Kd.R_drew));exact HO242.out) (Kd.R_base ho0) hb);replace BK238:=aK (blk_below (g:=gb238) (o:= .cells #[.slice A1_0 l1_0.length c1_0,.int .i64 a1_1,.int .i64 a1_2,.int .i64 a1_3,.slice A1_4 l1_4.length c1_4] 27 (0,0)) zz42 hb);replace HB:=aK (below_step zz14 hb);(try clear hb);(try clear hb2);(try clear hk);(try clear hi);(try clear ho0);obtain ⟨Ao13,co13,eo13⟩:=Kd.R_slice HO246.out;subst eo13)|((with_reducible refine gate_builtin (b:= .append) (xs:= #[.tmp 30,.tmp 31]) rfl ?_);at_builtin;refine Kd.R_append_rows (Kd.int .i64) (w0:=w) w.heap.size rfl (.tmp 30) (.tmp 31) 24 3 (.int .i64 0) 8 rfl Try.underlying24 info3 rfl (by decide) (by omega) v241 t239 t243 _ _ _ (fun k_=>some k_≠(.slice Ao13 t243.length co13:Value).ownBlock) (fun _=>False) rfl rfl ?aO ?aR (fun _ _ h=>h) (fun _ h=>h.elim) ?aF ?aB ?aS ?aL ?_;(case aR=>repeat (first|exact (Kd.R_reads' HO246.out).2.2|(with_reducible refine Kd.C_alloc ?_ _)|(with_reducible refine Kd.C_drewN ?_ _)|(with_reducible refine Kd.C_drew ?_)));(case aB=>exact zz14);(case aF=>exact (fun k_ hk=>Kd.fresh' (Kd.R_lt (by (with_reducible repeat (first|apply Kd.R_alloc|apply Kd.R_drewN|apply Kd.R_drew));exact HO246.out)) k_ hk));(case aO=>exact (by (with_reducible repeat (first|apply Kd.R_alloc|apply Kd.R_drewN|apply Kd.R_drew));exact Kd.R_mono HO242.out (fun _ hk=>hk.2)));(case aS=>exact (below_size zz14));(case aL=>have:=LMc5.out;omega);intro v248 w12 ho hb hg hat;rw [←Ny247.out] at ho;have n0_:=aK (blk_grown (g:=gb238) (o:= .cells #[.slice A1_0 l1_0.length c1_0,.int .i64 a1_1,.int .i64 a1_2,.int .i64 a1_3,.slice A1_4 l1_4.length c1_4] 27 (0,0)) zz42 hg (Kd.R_ne HO242.out BK238.out (by decide)));have n1_:=aK (Kd.R_after (ok:=(fun _=>True)) (by (with_reducible repeat (first|apply Kd.R_alloc|apply Kd.R_drewN|apply Kd.R_drew));exact HO246.out) hg hat);have n2_:=aK (hb);have n3_:=aK (ho);clear BK238;clear HO246;clear HB;clear HO242;have BK238:=n0_;have HO246:=n1_;have HB:=n2_;have HO249:=n3_;clear n0_ n1_ n2_ n3_;clear ho hb hg hat))
   go_ret2
   exact ⟨_,by first|rfl|(simp [errW_none,errW_some]<;>rfl)|(simp [*,errW_none,errW_some]<;>rfl),by (with_reducible repeat (first|apply Kd.R_alloc|apply Kd.R_drewN|apply Kd.R_drew));exact Kd.R_mono HO249.out (fun _ hk=>trivial),by repeat (first|(with_reducible first|exact HB.out|apply below_alloc|apply pw_below_drewN|apply below_drew1|refine below_set ?_ GE238.out)|exact HB.out)⟩
  ·replace c6 := Bool.eq_false_iff.mpr c6
   subst c6;rw [if_neg (show¬(false=true) by decide)] at H;simp only [Option.some.injEq,Prod.mk.injEq] at H;obtain ⟨rfl,rfl⟩:=H;go_enter Try.func40,Try.ntmps40
   go_wp2_with (first|((with_reducible refine gate_dst (N:=3) rfl ?_);refine box_event ?hg (N:=3) ?hd (cs:= #[.slice A1_0 l1_0.length c1_0,.int .i64 a1_1,.int .i64 a1_2,.int .i64 a1_3,.slice A1_4 l1_4.length c1_4]) (t:=27) ?hr ?_;(case hd=>rfl);(case hg=>rfl);(case hr=>first|(go_simp;done)|(go_simp;rfl));intro gb238 hg w14 hbox hb;have BK238:=aK (hbox);have GW238:=aK ((by rw [hg];exact (below_size zz1):w.heap.size≤gb238));have GE238:=aK ((by rw [hg];exact (below_size zz1):w.heap.size≤gb238));replace HB:=aK (below_step zz1 hb);clear hb hbox hg;obtain ⟨hcz15_0,hcz15_1,hcz15_2,hcz15_3,hcz15_4,hfz15_0,hfz15_1,hfz15_2,hfz15_3,hfz15_4⟩:=cbf5 BK238)|((with_reducible refine gate_callee (f:=82) rfl ?_);refine goesL_ (some 16) rfl rfl Try.func82 (by kernel_rfl) rfl #[.slice A0 l0.length c0,.slice A1_0 l1_0.length c1_0,.int .i64 0,.int .i64 a1_2] rfl zz2 ?_;(with_reducible refine (spec_l21Part.calls k _ _ l0 _ _ l1_0 0 a1_2 t239 false _ ?side1 ?side2 ?side3 ?side4 A3.out).mono ?_);(case side1=>exact zz4);(case side2=>exact HC0.out);(case side3=>exact zz6);(case side4=>exact HC1_0.out);rintro e w16 ⟨v241,rfl,ho0,hb⟩;refine ⟨_,rfl,?_⟩;have HO242:=aK (Kd.R_lower ho0 (below_size zz14));replace BK238:=aK (blk_below (g:=gb238) (o:= .cells #[.slice A1_0 l1_0.length c1_0,.int .i64 a1_1,.int .i64 a1_2,.int .i64 a1_3,.slice A1_4 l1_4.length c1_4] 27 (0,0)) zz42 hb);replace HB:=aK (below_step zz14 hb);(try clear hb);(try clear hb2);(try clear hk);(try clear hi);(try clear ho0);obtain ⟨hcz17_0,hcz17_1,hcz17_2,hcz17_3,hcz17_4,hfz17_0,hfz17_1,hfz17_2,hfz17_3,hfz17_4⟩:=cbf5 BK238)|((with_reducible refine gate_callee (f:=82) rfl ?_);refine goesL_ (some 27) rfl rfl Try.func82 (by kernel_rfl) rfl #[.slice A0 l0.length c0,.slice A1_0 l1_0.length c1_0,.int .i64 a1_1,.int .i64 a1_3] rfl zz2 ?_;(with_reducible refine (spec_l21Part.calls k _ _ l0 _ _ l1_0 a1_1 a1_3 t243 t244 _ ?side1 ?side2 ?side3 ?side4 A4.out).mono ?_);(case side1=>exact zz4);(case side2=>exact HC0.out);(case side3=>exact zz6);(case side4=>exact HC1_0.out);rintro e w18 ⟨v245,rfl,ho0,hb⟩;refine ⟨_,rfl,?_⟩;have HO246:=aK (Kd.R_lower (Kd.R_new' ho0 (Kd.R_lt (by (with_reducible repeat (first|apply Kd.R_alloc|apply Kd.R_drewN|apply Kd.R_drew));exact HO242.out))) (below_size zz14));replace HO242:=aK (Kd.R_elder' (by (with_reducible repeat (first|apply Kd.R_alloc|apply Kd.R_drewN|apply Kd.R_drew));exact HO242.out) (Kd.R_base ho0) hb);replace BK238:=aK (blk_below (g:=gb238) (o:= .cells #[.slice A1_0 l1_0.length c1_0,.int .i64 a1_1,.int .i64 a1_2,.int .i64 a1_3,.slice A1_4 l1_4.length c1_4] 27 (0,0)) zz42 hb);replace HB:=aK (below_step zz14 hb);(try clear hb);(try clear hb2);(try clear hk);(try clear hi);(try clear ho0);obtain ⟨Ao20,co20,eo20⟩:=Kd.R_slice HO246.out;subst eo20)|((with_reducible refine gate_builtin (b:= .append) (xs:= #[.tmp 30,.tmp 31]) rfl ?_);at_builtin;refine Kd.R_append_rows (Kd.int .i64) (w0:=w) w.heap.size rfl (.tmp 30) (.tmp 31) 24 3 (.int .i64 0) 8 rfl Try.underlying24 info3 rfl (by decide) (by omega) v241 t239 t243 _ _ _ (fun k_=>some k_≠(.slice Ao20 t243.length co20:Value).ownBlock) (fun _=>False) rfl rfl ?aO ?aR (fun _ _ h=>h) (fun _ h=>h.elim) ?aF ?aB ?aS ?aL ?_;(case aR=>repeat (first|exact (Kd.R_reads' HO246.out).2.2|(with_reducible refine Kd.C_alloc ?_ _)|(with_reducible refine Kd.C_drewN ?_ _)|(with_reducible refine Kd.C_drew ?_)));(case aB=>exact zz14);(case aF=>exact (fun k_ hk=>Kd.fresh' (Kd.R_lt (by (with_reducible repeat (first|apply Kd.R_alloc|apply Kd.R_drewN|apply Kd.R_drew));exact HO246.out)) k_ hk));(case aO=>exact (by (with_reducible repeat (first|apply Kd.R_alloc|apply Kd.R_drewN|apply Kd.R_drew));exact Kd.R_mono HO242.out (fun _ hk=>hk.2)));(case aS=>exact (below_size zz14));(case aL=>have:=LMc5.out;omega);intro v248 w19 ho hb hg hat;rw [←Ny247.out] at ho;have n0_:=aK (blk_grown (g:=gb238) (o:= .cells #[.slice A1_0 l1_0.length c1_0,.int .i64 a1_1,.int .i64 a1_2,.int .i64 a1_3,.slice A1_4 l1_4.length c1_4] 27 (0,0)) zz42 hg (Kd.R_ne HO242.out BK238.out (by decide)));have n1_:=aK (Kd.R_after (ok:=(fun _=>True)) (by (with_reducible repeat (first|apply Kd.R_alloc|apply Kd.R_drewN|apply Kd.R_drew));exact HO246.out) hg hat);have n2_:=aK (hb);have n3_:=aK (ho);clear BK238;clear HO246;clear HB;clear HO242;have BK238:=n0_;have HO246:=n1_;have HB:=n2_;have HO249:=n3_;clear n0_ n1_ n2_ n3_;clear ho hb hg hat))
   go_ret2
   exact ⟨_,by first|rfl|(simp [errW_none,errW_some]<;>rfl)|(simp [*,errW_none,errW_some]<;>rfl),by (with_reducible repeat (first|apply Kd.R_alloc|apply Kd.R_drewN|apply Kd.R_drew));exact Kd.R_mono HO249.out (fun _ hk=>trivial),by repeat (first|(with_reducible first|exact HB.out|apply below_alloc|apply pw_below_drewN|apply below_drew1|refine below_set ?_ GE238.out)|exact HB.out)⟩
 ·rw [if_neg c5] at H
  exact absurd H (by simp)
def spec_l2Field.f (l0:List (S112)) (a1:Int):Option (Bool):=if a1=1 then (some true) else (if a1=3 then (some true) else (if a1=4 then (some true) else ((spec_l6In.f a1 8 (wrap64 ((wrap64 (8+(l0.length:Int))) - 1))).bind fun t255=>(some t255))))
set_option maxHeartbeats 8000000 in
set_option maxRecDepth 100000 in
theorem spec_l2Field.calls (A0:Option Addr) (c0:Nat) (l0:List (S112)) (a1:Int) (r:Bool) (w:World) (hr0:Kd.C k112 w A0 l0.length l0) (hc0:l0.length≤c0) (h:spec_l2Field.f l0 a1=some r):
  Calls Try.prog 112 #[.slice A0 l0.length c0,.int .i64 a1] w fun e w'=>e= .returned (.bool r)∧Drawn0 w w':=by
 have HR0:=aK hr0;have HC0:=aK hc0;clear hr0 hc0;have H:(if a1=1 then (some true) else (if a1=3 then (some true) else (if a1=4 then (some true) else ((spec_l6In.f a1 8 (wrap64 ((wrap64 (8+(l0.length:Int))) - 1))).bind fun t255=>(some t255)))))=some r:=h
 clear h;by_cases c3:a1=1
 ·rw [if_pos c3] at H
  have c3b0:(a1==1)=true:=beq_iff_eq.mpr c3
  have c3b1:(a1 !=1)=false:=bne_eq_false_iff_eq.mpr c3
  clear c3;obtain rfl:=Option.some.inj H;go_enter Try.func112,Try.ntmps112;go_wp2;go_ret;exact ⟨zz7,zz13⟩
 ·rw [if_neg c3] at H
  have c3b0:(a1==1)=false:=beq_eq_false_iff_ne.mpr c3
  have c3b1:(a1 !=1)=true:=bne_iff_ne.mpr c3
  by_cases c4:a1=3
  ·rw [if_pos c4] at H
   have c4b0:(a1==3)=true:=beq_iff_eq.mpr c4
   have c4b1:(a1 !=3)=false:=bne_eq_false_iff_eq.mpr c4
   clear c4;obtain rfl:=Option.some.inj H;go_enter Try.func112,Try.ntmps112;go_wp2;go_ret;exact ⟨zz7,zz13⟩
  ·rw [if_neg c4] at H
   have c4b0:(a1==3)=false:=beq_eq_false_iff_ne.mpr c4
   have c4b1:(a1 !=3)=true:=bne_iff_ne.mpr c4
   by_cases c5:a1=4
   ·rw [if_pos c5] at H
    have c5b0:(a1==4)=true:=beq_iff_eq.mpr c5
    have c5b1:(a1 !=4)=false:=bne_eq_false_iff_eq.mpr c5
    clear c5;obtain rfl:=Option.some.inj H;go_enter Try.func112,Try.ntmps112;go_wp2;go_ret;exact ⟨zz7,zz13⟩
   ·rw [if_neg c5] at H
    have c5b0:(a1==4)=false:=beq_eq_false_iff_ne.mpr c5
    have c5b1:(a1 !=4)=true:=bne_iff_ne.mpr c5
    replace H:=Option.bind_eq_some_iff.mp H;obtain ⟨t255,A60,H⟩:=H;(try dsimp only at H);have A6:=aK A60;clear A60;obtain rfl:=Option.some.inj H;go_enter Try.func112,Try.ntmps112
    go_wp2_with (first|(go_at_call 79;(with_reducible refine (spec_l6In.calls a1 8 (wrap64 ((wrap64 (8+(l0.length:Int))) - 1)) t255 _ A6.out).mono ?_);rintro e w' ⟨rfl,⟨nd,rfl⟩⟩))
    go_ret;exact ⟨zz7,zz13⟩
def spec_l2Class.l0:Nat→List (S112)→Int→Int→Int→List Int→Option (Bool)
  |0,_,_,_,_,_=>none
  |k+1,x0,x1,x6,x258000,x258001=>if x6<(x258001.length:Int) then (if 0≤x6 then ((spec_l2Field.f x0 (rd x258001 x6)).bind fun t259=>(if t259=true then (spec_l2Class.l0 k x0 x1 (wrap64 (x6+1)) x258000 x258001) else (some false))) else (none)) else (if x1=0 then (if x258000=(-1) then (some ((x258001.length:Int)==0)) else (some false)) else (if x1=1 then (if x258000=0 then (if (x258001.length:Int)=1 then (if 0<(x258001.length:Int) then (some ((rd x258001 0)==1)) else (none)) else (some false)) else (some false)) else ((spec_l6In.f x258000 0 (wrap64 (x1 - 1))).bind fun t261=>(if t261=true then (some (decide ((x258001.length:Int)≤2))) else (some false)))))
def spec_l2Class.f (k:Nat) (l0:List (S112)) (a1:Int):Option (Bool):=if 0≤a1 then (if a1<(l0.length:Int) then (spec_l2Class.l0 k l0 a1 0 ((rd_T112 l0 a1).f0) ((rd_T112 l0 a1).f1)) else (none)) else (none)
set_option maxHeartbeats 8000000 in
set_option maxRecDepth 100000 in
theorem spec_l2Class.calls (k : Nat) (A0 : Option Addr) (c0 : Nat) (l0 : List (S112)) (a1 : Int) (r : Bool) (w : World) (hr0 : Kd.C k112 w A0 l0.length l0) (hc0 : l0.length ≤ c0) (h : spec_l2Class.f k l0 a1 = some r) :
  Calls Try.prog 106 #[.slice A0 l0.length c0,.int .i64 a1] w fun e w'=>e= .returned (.bool r)∧Below w.heap.size w w':=by
 have hu112:=Try.underlying112;have HR0:=aK hr0;have HC0:=aK hc0;clear hr0 hc0;have HB:=aK (Below.refl w.heap.size w);have H:(if 0≤a1 then (if a1<(l0.length:Int) then (spec_l2Class.l0 k l0 a1 0 ((rd_T112 l0 a1).f0) ((rd_T112 l0 a1).f1)) else (none)) else (none))=some r:=h
 clear h;by_cases c3:0≤a1
 ·rw [if_pos c3] at H
  have c3b0:decide (0≤a1)=true:=decide_eq_true c3
  clear c3;by_cases c4:a1<(l0.length:Int)
  ·rw [if_pos c4] at H
   have c4b0:decide (a1<(l0.length:Int))=true:=decide_eq_true c4
   clear c4;have H':=aK H;clear H;have p256:0≤(a1:Int):=of_decide_eq_true zz3
   have q256:a1<(l0.length:Int):=of_decide_eq_true zz3
   obtain ⟨ad256,A256_1,c256_1,e256,hx256_0,hx256_1,hl256_1,hi256_1⟩:=at_T112 HR0.out a1 p256 q256
   cases e256
   have HR256_1:=aK hi256_1;have HC256_1:=aK hl256_1;clear hi256_1 hl256_1;replace p256:=eq_true p256;replace q256:=eq_true q256;go_enter Try.func106,Try.ntmps106
   go_wp2_with (first|((with_reducible refine gate_dst (N:=5) rfl ?_);(try (refine gate_guard (by rfl) ?_;dsimp only));refine box_event ?hg (N:=5) ?hd (cs:= #[.int .i64 0,.slice none 0 0]) (t:=112) ?hr ?_;(case hd=>rfl);(case hg=>rfl);(case hr=>first|(go_simp;done)|(go_simp;rfl));intro gb257 hg w5 hbox hb;have BK257:=aK (hbox);have GW257:=aK ((by rw [hg];exact (below_size zz1):w.heap.size≤gb257));have GE257:=aK ((by rw [hg];exact (below_size zz1):w.heap.size≤gb257));replace HB:=aK (below_step zz1 hb);clear hb hbox hg;obtain ⟨hcz6_0,hcz6_1,hfz6_0,hfz6_1⟩:=cbf2 BK257))
   go_loopg [6] k (fun kq v6 w'=> ∃(x6_1:Int),v6= .int .i64 x6_1∧Aside0 (spec_l2Class.l0 kq l0 a1 x6_1 ((rd_T112 l0 a1).f0) ((rd_T112 l0 a1).f1)=some r)∧Aside0 (kq≤k)∧Aside0 (w'.heap[gb257]? =some (.cells #[.int .i64 ((rd_T112 l0 a1).f0),(.slice A256_1 ((rd_T112 l0 a1).f1).length c256_1)] 112 (0,0)))∧Aside0 (Below w.heap.size w w'))
   case atStart=>exact ⟨(0),zz7,H',⟨Nat.le_refl _⟩,⟨by (with_reducible repeat (first|refine blk_drewN ?_ _|refine blk_drew ?_|refine blk_alloc ?_ _));refine blk_put (cs:= #[.int .i64 ((rd_T112 l0 a1).f0),.slice none 0 0]) ?_ 1 _ rfl;(with_reducible repeat (first|refine blk_drewN ?_ _|refine blk_drew ?_|refine blk_alloc ?_ _));refine blk_put (cs:= #[.int .i64 0,.slice none 0 0]) ?_ 0 _ rfl;(with_reducible repeat (first|refine blk_drewN ?_ _|refine blk_drew ?_|refine blk_alloc ?_ _));exact BK257.out⟩,⟨by repeat (first|(with_reducible first|exact HB.out|apply below_alloc|apply pw_below_drewN|apply below_drew1|refine below_set ?_ GE257.out)|exact HB.out)⟩⟩
   case round =>
    clear H';(try clear c1);(try clear c2);(try clear p2);(try clear q2);(try clear hx2);(try clear c3);(try clear c3b0);(try clear c4);(try clear c4b0);(try clear hcz6_0);(try clear hcz6_1);(try clear hfz6_0);(try clear hfz6_1);(try clear hx256_0);(try clear hx256_1);(try clear p256);(try clear q256);obtain ⟨x6_1,rfl,HA,HK1,BK257,HB⟩:=hrel
    cases gk with
    |zero=>exact absurd HA.out (by simp [spec_l2Class.l0])
    | succ k1 =>
     have H:=HA.out;clear HA;simp only [spec_l2Class.l0] at H;by_cases c7:x6_1<(((rd_T112 l0 a1).f1).length:Int)
     ·rw [if_pos c7] at H
      have c7b0:decide (x6_1<(((rd_T112 l0 a1).f1).length:Int))=true:=decide_eq_true c7
      clear c7;by_cases c8:0≤x6_1
      ·rw [if_pos c8] at H
       have c8b0:decide (0≤x6_1)=true:=decide_eq_true c8
       clear c8;replace H:=Option.bind_eq_some_iff.mp H;obtain ⟨t259,A90,H⟩:=H;(try dsimp only at H);have A9:=aK A90;clear A90;by_cases c10:t259=true
       ·subst c10
        rw [if_pos rfl] at H;have H':=aK H;clear H;obtain ⟨hcz11_0,hcz11_1,hfz11_0,hfz11_1⟩:=cbf2 BK257;have p258:0≤(x6_1:Int):=of_decide_eq_true zz3
        have q258:x6_1<(((rd_T112 l0 a1).f1).length:Int):=of_decide_eq_true zz3
        obtain ⟨ad258,e258,hx258_0⟩:=Kd.at_int HR256_1.out x6_1 p258 q258
        cases e258
        replace hx258_0:=(HB.out.cell (World.block_lt_of_cell? w _ hx258_0)).trans hx258_0;replace p258:=eq_true p258;replace q258:=eq_true q258
        go_wp2_with (first|((with_reducible refine gate_callee (f:=112) rfl ?_);refine goesL_ (some 24) rfl rfl Try.func112 (by kernel_rfl) rfl #[.slice (some ad256) l0.length c0,.int .i64 (rd ((rd_T112 l0 a1).f1) x6_1)] rfl zz2 ?_;(with_reducible refine (spec_l2Field.calls _ _ l0 (rd ((rd_T112 l0 a1).f1) x6_1) true _ ?side1 ?side2 A9.out).mono ?_);(case side1=>exact zz4);(case side2=>exact HC0.out);rintro e w' ⟨rfl,⟨nd,rfl⟩⟩;refine ⟨_,rfl,?_⟩))
        go_roundg k1
        case measure=>have:=HK1.out;omega
        case rel=>exact ⟨(wrap64 (x6_1+1)),zz7,H',⟨by have:=HK1.out;omega⟩,⟨by (with_reducible repeat (first|refine blk_drewN ?_ _|refine blk_drew ?_|refine blk_alloc ?_ _));exact BK257.out⟩,⟨by repeat (first|(with_reducible first|exact HB.out|apply below_alloc|apply pw_below_drewN|apply below_drew1|refine below_set ?_ GE257.out)|exact HB.out)⟩⟩
       ·replace c10 := Bool.eq_false_iff.mpr c10
        subst c10;rw [if_neg (show¬(false=true) by decide)] at H;obtain rfl:=Option.some.inj H;obtain ⟨hcz12_0,hcz12_1,hfz12_0,hfz12_1⟩:=cbf2 BK257;have p258:0≤(x6_1:Int):=of_decide_eq_true zz3
        have q258:x6_1<(((rd_T112 l0 a1).f1).length:Int):=of_decide_eq_true zz3
        obtain ⟨ad258,e258,hx258_0⟩:=Kd.at_int HR256_1.out x6_1 p258 q258
        cases e258
        replace hx258_0:=(HB.out.cell (World.block_lt_of_cell? w _ hx258_0)).trans hx258_0;replace p258:=eq_true p258;replace q258:=eq_true q258
        go_wp2_with (first|((with_reducible refine gate_callee (f:=112) rfl ?_);refine goesL_ (some 24) rfl rfl Try.func112 (by kernel_rfl) rfl #[.slice (some ad256) l0.length c0,.int .i64 (rd ((rd_T112 l0 a1).f1) x6_1)] rfl zz2 ?_;(with_reducible refine (spec_l2Field.calls _ _ l0 (rd ((rd_T112 l0 a1).f1) x6_1) false _ ?side1 ?side2 A9.out).mono ?_);(case side1=>exact zz4);(case side2=>exact HC0.out);rintro e w' ⟨rfl,⟨nd,rfl⟩⟩;refine ⟨_,rfl,?_⟩))
        go_ret;exact ⟨zz8,zz24⟩
      ·rw [if_neg c8] at H
       exact absurd H (by simp)
     ·rw [if_neg c7] at H
      have c7b0:decide (x6_1<(((rd_T112 l0 a1).f1).length:Int))=false:=decide_eq_false c7
      clear c7;by_cases c13:a1=0
      ·rw [if_pos c13] at H
       have c13b0:(a1==0)=true:=beq_iff_eq.mpr c13
       have c13b1:(a1 !=0)=false:=bne_eq_false_iff_eq.mpr c13
       clear c13;by_cases c14:((rd_T112 l0 a1).f0)=(-1)
       ·rw [if_pos c14] at H
        have c14b0:(((rd_T112 l0 a1).f0)==(-1))=true:=beq_iff_eq.mpr c14
        have c14b1:(((rd_T112 l0 a1).f0) !=(-1))=false:=bne_eq_false_iff_eq.mpr c14
        clear c14;obtain rfl:=Option.some.inj H;obtain ⟨hcz15_0,hcz15_1,hfz15_0,hfz15_1⟩:=cbf2 BK257;go_wp2;go_ret;exact ⟨zz8,zz24⟩
       ·rw [if_neg c14] at H
        have c14b0:(((rd_T112 l0 a1).f0)==(-1))=false:=beq_eq_false_iff_ne.mpr c14
        have c14b1:(((rd_T112 l0 a1).f0) !=(-1))=true:=bne_iff_ne.mpr c14
        obtain rfl:=Option.some.inj H;obtain ⟨hcz16_0,hcz16_1,hfz16_0,hfz16_1⟩:=cbf2 BK257;go_wp2;go_ret;exact ⟨zz8,zz24⟩
      ·rw [if_neg c13] at H
       have c13b0:(a1==0)=false:=beq_eq_false_iff_ne.mpr c13
       have c13b1:(a1 !=0)=true:=bne_iff_ne.mpr c13
       by_cases c17:a1=1
       ·rw [if_pos c17] at H
        have c17b0:(a1==1)=true:=beq_iff_eq.mpr c17
        have c17b1:(a1 !=1)=false:=bne_eq_false_iff_eq.mpr c17
        clear c17;by_cases c18:((rd_T112 l0 a1).f0)=0
        ·rw [if_pos c18] at H
         have c18b0:(((rd_T112 l0 a1).f0)==0)=true:=beq_iff_eq.mpr c18
         have c18b1:(((rd_T112 l0 a1).f0) !=0)=false:=bne_eq_false_iff_eq.mpr c18
         clear c18;by_cases c19:(((rd_T112 l0 a1).f1).length:Int)=1
         ·rw [if_pos c19] at H
          have c19b0:((((rd_T112 l0 a1).f1).length:Int)==1)=true:=beq_iff_eq.mpr c19
          have c19b1:((((rd_T112 l0 a1).f1).length:Int) !=1)=false:=bne_eq_false_iff_eq.mpr c19
          clear c19;by_cases c20:0<(((rd_T112 l0 a1).f1).length:Int)
          ·rw [if_pos c20] at H
           have c20b0:decide (0<(((rd_T112 l0 a1).f1).length:Int))=true:=decide_eq_true c20
           have c20b1:decide (0<((rd_T112 l0 a1).f1).length)=true:=decide_eq_true (by omega)
           clear c20;obtain rfl:=Option.some.inj H;obtain ⟨hcz21_0,hcz21_1,hfz21_0,hfz21_1⟩:=cbf2 BK257;have p260:0≤(0:Int):=(by omega)
           have q260:0<(((rd_T112 l0 a1).f1).length:Int):=of_decide_eq_true zz3
           obtain ⟨ad260,e260,hx260_0⟩:=Kd.at_int HR256_1.out 0 p260 q260
           cases e260
           have qi260:(0<((rd_T112 l0 a1).f1).length)=True:=eq_true (by omega)
           (try rw [show ((0:Int)).toNat=0 from rfl] at hx260_0)
           (try rw [Addr.add_zero'] at hx260_0)
           replace hx260_0:=(HB.out.cell (World.block_lt_of_cell? w _ hx260_0)).trans hx260_0;replace p260:=eq_true p260;replace q260:=eq_true q260;go_wp2;go_ret;exact ⟨zz8,zz24⟩
          ·rw [if_neg c20] at H
           exact absurd H (by simp)
         ·rw [if_neg c19] at H
          have c19b0:((((rd_T112 l0 a1).f1).length:Int)==1)=false:=beq_eq_false_iff_ne.mpr c19
          have c19b1:((((rd_T112 l0 a1).f1).length:Int) !=1)=true:=bne_iff_ne.mpr c19
          obtain rfl:=Option.some.inj H;obtain ⟨hcz22_0,hcz22_1,hfz22_0,hfz22_1⟩:=cbf2 BK257;go_wp2;go_ret;exact ⟨zz8,zz24⟩
        ·rw [if_neg c18] at H
         have c18b0:(((rd_T112 l0 a1).f0)==0)=false:=beq_eq_false_iff_ne.mpr c18
         have c18b1:(((rd_T112 l0 a1).f0) !=0)=true:=bne_iff_ne.mpr c18
         obtain rfl:=Option.some.inj H;obtain ⟨hcz23_0,hcz23_1,hfz23_0,hfz23_1⟩:=cbf2 BK257;go_wp2;go_ret;exact ⟨zz8,zz24⟩
       ·rw [if_neg c17] at H
        have c17b0:(a1==1)=false:=beq_eq_false_iff_ne.mpr c17
        have c17b1:(a1 !=1)=true:=bne_iff_ne.mpr c17
        replace H:=Option.bind_eq_some_iff.mp H;obtain ⟨t261,A240,H⟩:=H;(try dsimp only at H);have A24:=aK A240;clear A240;by_cases c25:t261=true
        ·subst c25
         rw [if_pos rfl] at H;obtain rfl:=Option.some.inj H;obtain ⟨hcz26_0,hcz26_1,hfz26_0,hfz26_1⟩:=cbf2 BK257
         go_wp2_with (first|((with_reducible refine gate_callee (f:=79) rfl ?_);refine goesL_ (some 60) rfl rfl Try.func79 (by kernel_rfl) rfl #[.int .i64 ((rd_T112 l0 a1).f0),.int .i64 0,.int .i64 (wrap64 (a1 - 1))] rfl zz2 ?_;(with_reducible refine (spec_l6In.calls ((rd_T112 l0 a1).f0) 0 (wrap64 (a1 - 1)) true _ A24.out).mono ?_);rintro e w' ⟨rfl,⟨nd,rfl⟩⟩;refine ⟨_,rfl,?_⟩))
         go_ret;exact ⟨zz8,zz24⟩
        ·replace c25 := Bool.eq_false_iff.mpr c25
         subst c25;rw [if_neg (show¬(false=true) by decide)] at H;obtain rfl:=Option.some.inj H;obtain ⟨hcz27_0,hcz27_1,hfz27_0,hfz27_1⟩:=cbf2 BK257
         go_wp2_with (first|((with_reducible refine gate_callee (f:=79) rfl ?_);refine goesL_ (some 60) rfl rfl Try.func79 (by kernel_rfl) rfl #[.int .i64 ((rd_T112 l0 a1).f0),.int .i64 0,.int .i64 (wrap64 (a1 - 1))] rfl zz2 ?_;(with_reducible refine (spec_l6In.calls ((rd_T112 l0 a1).f0) 0 (wrap64 (a1 - 1)) false _ A24.out).mono ?_);rintro e w' ⟨rfl,⟨nd,rfl⟩⟩;refine ⟨_,rfl,?_⟩))
         go_ret;exact ⟨zz8,zz24⟩
  ·rw [if_neg c4] at H
   exact absurd H (by simp)
 ·rw [if_neg c3] at H
  exact absurd H (by simp)
def spec_ClassesOk.l0:Nat→List (S112)→Int→Option (Bool)
  |0,_,_=>none
  |k+1,x0,x3=>if x3<(x0.length:Int) then ((spec_l2Class.f k x0 x3).bind fun t263=>(if t263=true then (spec_ClassesOk.l0 k x0 (wrap64 (x3+1))) else (some false))) else (some true)
def spec_ClassesOk.f (k:Nat) (l0:List (S112)):Option (Bool):=(spec_l6In.f (l0.length:Int) 2 5).bind fun t262=>(if t262=true then (spec_ClassesOk.l0 k l0 0) else (some false))
set_option maxHeartbeats 8000000 in
set_option maxRecDepth 100000 in
theorem spec_ClassesOk.calls (k:Nat) (A0:Option Addr) (c0:Nat) (l0:List (S112)) (r:Bool) (w:World) (hr0:Kd.C k112 w A0 l0.length l0) (hc0:l0.length≤c0) (h:spec_ClassesOk.f k l0=some r):
  Calls Try.prog 83 #[.slice A0 l0.length c0] w fun e w'=>e= .returned (.bool r)∧Below w.heap.size w w':=by
 have HR0:=aK hr0;have HC0:=aK hc0;clear hr0 hc0;have HB:=aK (Below.refl w.heap.size w);have H:((spec_l6In.f (l0.length:Int) 2 5).bind fun t262=>(if t262=true then (spec_ClassesOk.l0 k l0 0) else (some false)))=some r:=h
 clear h;replace H:=Option.bind_eq_some_iff.mp H;obtain ⟨t262,A20,H⟩:=H;(try dsimp only at H);have A2:=aK A20;clear A20;by_cases c3:t262=true
 ·subst c3
  rw [if_pos rfl] at H;have H':=aK H;clear H;go_enter Try.func83,Try.ntmps83
  go_wp2_with (first|((with_reducible refine gate_callee (f:=79) rfl ?_);refine goesL_ (some 6) rfl rfl Try.func79 (by kernel_rfl) rfl #[.int .i64 (l0.length:Int),.int .i64 2,.int .i64 5] rfl zz2 ?_;(with_reducible refine (spec_l6In.calls (l0.length:Int) 2 5 true _ A2.out).mono ?_);rintro e w' ⟨rfl,⟨nd,rfl⟩⟩;refine ⟨_,rfl,?_⟩))
  go_loopg [3] k (fun kq v3 w'=> ∃(x3_1:Int),v3= .int .i64 x3_1∧Aside0 (spec_ClassesOk.l0 kq l0 x3_1=some r)∧Aside0 (kq≤k)∧Aside0 (Below w.heap.size w w'))
  case atStart=>exact ⟨(0),zz7,H',⟨Nat.le_refl _⟩,⟨by repeat (first|(with_reducible first|exact HB.out|apply below_alloc|apply pw_below_drewN|apply below_drew1)|exact HB.out)⟩⟩
  case round=>
   clear H';(try clear p2);(try clear c3);obtain ⟨x3_1,rfl,HA,HK1,HB⟩:=hrel
   cases gk with
   |zero=>exact absurd HA.out (by simp [spec_ClassesOk.l0])
   | succ k1 =>
    have H:=HA.out;clear HA;simp only [spec_ClassesOk.l0] at H;by_cases c4:x3_1<(l0.length:Int)
    ·rw [if_pos c4] at H
     have c4b0:decide (x3_1<(l0.length:Int))=true:=decide_eq_true c4
     clear c4;replace H:=Option.bind_eq_some_iff.mp H;obtain ⟨t263,A50,H⟩:=H;(try dsimp only at H);have A5:=aK A50;clear A50;by_cases c6:t263=true
     ·subst c6
      rw [if_pos rfl] at H;have H':=aK H;clear H
      go_wp2_with (first|((with_reducible refine gate_callee (f:=106) rfl ?_);refine goesL_ (some 16) rfl rfl Try.func106 (by kernel_rfl) rfl #[.slice A0 l0.length c0,.int .i64 x3_1] rfl zz2 ?_;(with_reducible refine (spec_l2Class.calls k1 _ _ l0 x3_1 true _ ?side1 ?side2 A5.out).mono ?_);(case side1=>exact zz4);(case side2=>exact HC0.out);rintro e w7 ⟨rfl,hb⟩;refine ⟨_,rfl,?_⟩;replace HB:=aK (below_step zz1 hb);(try clear hb);(try clear hb2);(try clear hk);(try clear hi)))
      go_roundg k1
      case measure=>have:=HK1.out;omega
      case rel=>exact ⟨(wrap64 (x3_1+1)),zz7,H',⟨by have:=HK1.out;omega⟩,⟨by repeat (first|(with_reducible first|exact HB.out|apply below_alloc|apply pw_below_drewN|apply below_drew1)|exact HB.out)⟩⟩
     ·replace c6 := Bool.eq_false_iff.mpr c6
      subst c6;rw [if_neg (show¬(false=true) by decide)] at H;obtain rfl:=Option.some.inj H
      go_wp2_with (first|((with_reducible refine gate_callee (f:=106) rfl ?_);refine goesL_ (some 16) rfl rfl Try.func106 (by kernel_rfl) rfl #[.slice A0 l0.length c0,.int .i64 x3_1] rfl zz2 ?_;(with_reducible refine (spec_l2Class.calls k1 _ _ l0 x3_1 false _ ?side1 ?side2 A5.out).mono ?_);(case side1=>exact zz4);(case side2=>exact HC0.out);rintro e w8 ⟨rfl,hb⟩;refine ⟨_,rfl,?_⟩;replace HB:=aK (below_step zz1 hb);(try clear hb);(try clear hb2);(try clear hk);(try clear hi)))
      go_ret;exact ⟨zz8,zz1⟩
    ·rw [if_neg c4] at H
     have c4b0:decide (x3_1<(l0.length:Int))=false:=decide_eq_false c4
     clear c4;obtain rfl:=Option.some.inj H;go_wp2;go_ret;exact ⟨zz8,zz1⟩
 ·replace c3 := Bool.eq_false_iff.mpr c3
  subst c3;rw [if_neg (show¬(false=true) by decide)] at H;obtain rfl:=Option.some.inj H;go_enter Try.func83,Try.ntmps83
  go_wp2_with (first|((with_reducible refine gate_callee (f:=79) rfl ?_);refine goesL_ (some 6) rfl rfl Try.func79 (by kernel_rfl) rfl #[.int .i64 (l0.length:Int),.int .i64 2,.int .i64 5] rfl zz2 ?_;(with_reducible refine (spec_l6In.calls (l0.length:Int) 2 5 false _ A2.out).mono ?_);rintro e w' ⟨rfl,⟨nd,rfl⟩⟩;refine ⟨_,rfl,?_⟩))
  go_ret;exact ⟨zz8,zz1⟩
end Go.Proofs.Ytnlieahdakafbaa.K
