import Derived.Test.YtnlieahdakafbaaPc24
import Derived.Test.YtnlieahdakafbaaPc31
import Derived.Test.YtnlieahdakafbaaPc33
import Derived.Deep.CutRange
import Derived.Deep.CutBlock
import Derived.Test.YtnlieahdakafbaaPc26
import Derived.Test.YtnlieahdakafbaaPc29
namespace Go.Proofs.Ytnlieahdakafbaa.K
open Go.RowKit Go.Proofs.YtnlieahdakafbaaW.PrintWords Go.Proofs.YtnlieahdakafbaaW.PrintLast Go.Proofs.YtnlieahdakafbaaW.PrintMore
attribute [local go_sem] max2_int min2_int max_two min_two max_three min_three max_four min_four
set_option linter.unusedVariables false
set_option linter.unusedSimpArgs false
open Go.Proofs.Ytnlieahdakafbaa.Pure
def OffP (M:Int) (w0 w:World) (g:Nat) (e:Ending) (w':World):Prop:= ∃(A:Option Addr) (c:Nat) (cs:Cs),e= .returned (.slice A cs.length c)∧(1≤cs.length∧cs.length≤9∧cs.length≤c)∧(∀x∈cs,x.f1.length≤3)∧Kd.V k112 112 w' w.heap.size (fun k_=>w.heap.size≤k_) (.slice A cs.length c) cs∧Rdr (M+60) w0 w' g∧KeepBut w w' g none
theorem off_ret {M L:Int} {w0 w w':World} {g b0:Nat} (hb0:b0=w.heap.size) {v:Value} {cs:Cs} (hS:Kd.S k112 112 w' b0 (fun k_=>b0≤k_) v cs) (hg:g<b0) (h1:1≤cs.length∧cs.length≤9) (hf: ∀x∈cs,x.f1.length≤3) (hi:Rdr L w0 w' g) (hL:L≤M+60) (hk:KeepBut w w' g none):OffP M w0 w g (.returned v) w':=by
 subst hb0;obtain ⟨A,c,rfl,hc,_⟩:=Kd.S_reads hS;exact ⟨A,c,cs,rfl,⟨h1.1,h1.2,hc⟩,hf,Kd.S_V hS,hi.le hL,hk⟩
theorem off_retV {M L:Int} {w0 w w':World} {g b0:Nat} (hb0:b0=w.heap.size) {v:Value} {cs:Cs} (hS:Kd.V k112 112 w' b0 (fun k_=>b0≤k_) v cs) (hg:g<b0) (h1:1≤cs.length∧cs.length≤9) (hf: ∀x∈cs,x.f1.length≤3) (hi:Rdr L w0 w' g) (hL:L≤M+60) (hk:KeepBut w w' g none):OffP M w0 w g (.returned v) w':=by
 subst hb0;obtain ⟨A,c,rfl,hc,_⟩:=id hS;exact ⟨A,c,cs,rfl,⟨h1.1,h1.2,hc⟩,hf,hS,hi.le hL,hk⟩
theorem cls_put {W:World} {b0 gs cap:Nat} {cs:Cs} {ok:Nat→Prop} (hS:Kd.S k112 112 W b0 ok (.slice (some ⟨gs,0,none⟩) cs.length cap) cs) {j:Nat} (hj:j<cs.length): ∃(x:S112) (u:Value) (oki:Nat→Prop),cs[j]? =some x∧W.cell? ⟨gs,j*2,none⟩=some (.int .i64 x.f0)∧W.cell? ⟨gs,j*2+1,none⟩=some u∧W.frozen? ⟨gs,j*2,none⟩=false∧W.frozen? ⟨gs,j*2+1,none⟩=false∧Kd.R (Kd.int .i64) 3 W b0 oki u x.f1∧(∀k,oki k→ok k∧k≠gs)∧
  Kd.H k112 112 W b0 ok (.slice (some ⟨gs,0,none⟩) cs.length cap) cs (j:Int) oki [.int .i64 x.f0,u]∧(∀y:Int,Kd.S k112 112 (W.setCell ⟨gs,j*2,none⟩ (.int .i64 y)) b0 ok (.slice (some ⟨gs,0,none⟩) cs.length cap) (cs.set j ⟨y,x.f1⟩))∧Kd.S k112 112 (W.setCell ⟨gs,j*2+1,none⟩ (.slice none 0 0)) b0 ok (.slice (some ⟨gs,0,none⟩) cs.length cap) (cs.set j ⟨x.f0,[]⟩):=by
 obtain ⟨oki,cc,hcl,hM,hcc,hoki,hH⟩:=Kd.S_lend hS z112 (j:Int) (by omega) (by omega);obtain ⟨x,hx⟩: ∃x,x=cs.getD ((j:Int)).toNat z112:=⟨_,rfl⟩;rw [←hx] at hM;obtain ⟨u,hc1,hr1⟩:=k112_openM hM;subst hc1;obtain ⟨hc0,hfr⟩:=Kd.H_at hH (by omega) (by omega);refine ⟨x,u,oki,?_,hc0 0 _ rfl,hc0 1 _ rfl,hfr 0,hfr 1,hr1,hoki,hH,fun y=>?_,?_⟩
 ·rw [hx,Int.toNat_natCast,List.getD_eq_getElem?_getD,List.getElem?_eq_getElem hj];rfl
 ·exact (Kd.S_seg0 (seg:=[.int .i64 y]) (j:=0) (x':=⟨y,x.f1⟩) hH (by omega) (by omega) (show 0+1≤2 by omega) (k112_mkM W b0 oki ⟨y,x.f1⟩ hr1) (fun _ hk=>hk)).1
 ·exact (Kd.S_seg0 (seg:=[.slice none 0 0]) (j:=1) (x':=⟨x.f0,[]⟩) hH (by omega) (by omega) (show 1+1≤2 by omega) (k112_mkM W b0 oki ⟨x.f0,[]⟩ (Kd.R_nil _ _ _ _ _)) (fun _ hk=>hk)).1
theorem few_set {cs:Cs} (h: ∀x∈cs,x.f1.length≤3) {j:Nat} {y:S112} (hy:y.f1.length≤3): ∀x∈cs.set j y,x.f1.length≤3:=fun x hx=>by
 rcases List.mem_or_eq_of_mem_set hx with z|z
 ·exact h x z
 ·rw [z];exact hy
set_option maxHeartbeats 16000000 in
set_option maxRecDepth 100000 in
theorem off_any (M:Int) (g:Nat) (w0 w:World) (h:Rdr M w0 w g) (hM:M≤600000):Calls Try.prog 63 #[.pointer (some ⟨g,0,none⟩)] w (OffP M w0 w g):=by
 obtain ⟨b0,hb0⟩: ∃b,b=w.heap.size:=⟨_,rfl⟩;have HG:=aK (show g<b0 by rw [hb0];exact h.lt);have HG0:=aK (show w0.heap.size≤b0 by have:=h.ge;have:=HG.out;omega);have HBW:=aK hb0;have HI:=aK h;have HM:=aK hM;clear h hb0 hM;go_enter Try.func63,Try.ntmps63
 go_wp2_with fail
 go_at_call 61;refine (classes_any M g w0 _ HI.out zz48).mono ?_;rintro e w1 ⟨v,cs,rfl,⟨hok,h2⟩,hS,hi,hk⟩;have hl:=csOk_len hok;have HF:=aK (show∀x∈cs,x.f1.length≤3 from fun x hx=>by have:=h2 x hx;omega);have HF2:=aK h2;have HL:=aK hl;obtain ⟨gs,cap,rfl,hgs,_,_⟩:=Kd.S_form hS (by omega);have HS1:=aK (show Kd.S k112 112 w1 b0 (fun k_=>b0≤k_) (.slice (some ⟨gs,0,none⟩) cs.length cap) cs by rw [HBW.out];exact Kd.S_mono (Kd.S_bound hS) (fun k_ hk_=>hk_.2.1));have HI1:=aK hi;have HK1:=aK hk;have HGS:=aK (show b0≤gs by rw [HBW.out];exact hgs);clear hok h2 hl hS hi hk hgs HI
 go_wp2_with fail
 go_at_call 33;refine (pick_any _ g 20 w0 _ HI1.out zz48 zz45 zz45).mono ?_;rintro e w2 ⟨q,rfl,hq,hi,hk⟩;have HI2:=aK hi;have HK2:=aK (KeepBut.trans HK1.out hk (.inl rfl));have HS2:=aK (Kd.S_keep HS1.out hk (fun k_ hk_=>by have:=HG.out;omega));clear hi hk HI1 HK1 HS1;by_cases c:0<q
 ·have d : decide (0 < q) = true := decide_eq_true c
  clear c hq;go_wp2;go_ret;exact off_ret HBW.out HS2.out HG.out (by have:=HL.out;(try simp);omega) HF.out HI2.out (by omega) HK2.out
 ·have d : decide (0 < q) = false := decide_eq_false c
  clear c hq
  go_wp2_with fail
  go_at_call 33;refine (pick_any _ g cs.length w0 _ HI2.out zz48 zz45 zz45).mono ?_;rintro e w3 ⟨k,rfl,hk0,hi,hk⟩;have HI3:=aK hi;have HK3:=aK (KeepBut.trans HK2.out hk (.inl rfl));have HS3:=aK (Kd.S_keep HS2.out hk (fun k_ hk_=>by have:=HG.out;omega));clear hi hk HI2 HK2 HS2;obtain ⟨j,rfl⟩:=Int.eq_ofNat_of_zero_le hk0.1;have HJ:=aK (show j<cs.length by have:=hk0.2;omega);clear hk0
  go_wp2_with fail
  go_at_call 33;refine (pick_any _ g 6 w0 _ HI3.out zz48 zz45 zz45).mono ?_;rintro e w4 ⟨s,rfl,hs,hi,hk⟩;have HI4:=aK hi;have HK4:=aK (KeepBut.trans HK3.out hk (.inl rfl));have HS4:=aK (Kd.S_keep HS3.out hk (fun k_ hk_=>by have:=HG.out;omega));clear hi hk HI3 HK3 HS3;have hs6:s=0∨s=1∨s=2∨s=3∨s=4∨s=5:=by omega
  clear hs;have p1:=eq_true (show (0:Int)≤(j:Int) by omega);have p2:=eq_true (show (j:Int)<(cs.length:Int) by have:=HJ.out;omega);rcases hs6 with rfl|rfl|rfl|rfl|rfl|rfl
  ·skip
   go_wp2_with fail
   go_at_call 33;refine (pick_any _ g 7 w0 _ HI4.out zz48 zz45 zz45).mono ?_;rintro e w5 ⟨y,rfl,hy,hi,hk⟩;have HI5:=aK hi;have HK5:=aK (KeepBut.trans HK4.out hk (.inl rfl));have HS5:=aK (Kd.S_keep HS4.out hk (fun k_ hk_=>by have:=HG.out;omega));clear hi hk HI4 HK4 HS4;obtain ⟨x,u,oki,hxj,c0,c1,f0,f1,hr,hoki,hH,hp0,hp1⟩:=cls_put HS5.out HJ.out;have q1:IntKind.i64.wrap (y - 1)=y - 1:=IntWalk.i64_in _ (by omega)
   have HP0:=aK hp0;have HX:=aK (show x.f1.length≤3 from HF.out x (List.mem_of_getElem? hxj));clear hy hxj hr hoki hH hp0 hp1;go_wp2;go_ret;exact off_ret HBW.out (HP0.out _) HG.out (by have:=HL.out;(try simp);omega) (few_set HF.out HX.out) (Rdr.far HI5.out (p:=⟨gs,j*2,none⟩) (by have:=HG.out;have:=HGS.out;show g≠gs;omega) (by have:=HG0.out;have:=HGS.out;show _≤gs;omega) _) (by omega) (keep_far HK5.out (p:=⟨gs,j*2,none⟩) (by rw [←HBW.out];exact HGS.out) _)
  ·skip
   obtain ⟨x,u,oki,hxj,c0,c1,f0,f1,hr,hoki,hH,hp0,hp1⟩:=cls_put HS4.out HJ.out;obtain ⟨A2,c2,rfl⟩:=Kd.R_slice hr;have HH:=aK hH;have HR:=aK hr;have HOk:=aK hoki;have HX:=aK (show x.f1.length≤2 from HF2.out x (List.mem_of_getElem? hxj));have HGL:=aK (show gs<w4.heap.size from Kd.S_lt HS4.out gs (by simp [Value.ownBlock]));clear hxj hr hoki hH hp0 hp1 c0 f0 f1 HS4;go_wp2;replace HH:=aK (Kd.H_drew HH.out);replace HR:=aK (Kd.R_drew HR.out);replace HI4:=aK HI4.out.drew;replace HK4:=aK (keep_drew HK4.out);replace HGL:=aK (show gs<w4.drew.heap.size from HGL.out);have HW4:=aK (KeepBut.refl w4.drew g none);refine sT 17 (S:=fun w'=>w'.cell? ⟨gs,j*2+1,none⟩=some (.slice A2 x.f1.length c2)) (ds:=[16]) ((by exact c1)) (fun hHeld=>?_);generalize w4.drew=w4a at HH HR HI4 HK4 HGL HW4 hHeld ⊢;refine pS 0 32 (lA 17 1) ?_;refine pS 1 33 (lA 17 3) ?_;refine pS 2 34 (lA 17 7) ?_;refine pS 3 35 (lA 17 15) ?_;refine pS 4 36 (lA 17 31) ?_;refine pS 5 37 (lA 17 63) ?_;refine pS 8 40 (lA 17 319) ?_;refine tS 6 38 (lA 17 383) rfl rfl (by kernel_rfl) hHeld (by intro w' s0;go_simp;with_reducible rfl) ?_;refine join_ (σ:=Nat×Int) 7 (lA 17 1023) (fun s=>[(39,.slice (some ⟨s.1,0,none⟩) 4 4),(41,.int .i64 s.2)]) (fun s w'=>(0≤s.2∧s.2<4)∧w'.heap[s.1]? =some (.cells #[.int .i64 0,.int .i64 2,.int .i64 13,.int .i64 5] 3 (0,0))∧Rdr (M+40+1+1+1+1) w0 w' g∧KeepBut w w' g none∧KeepBut w4a w' g none∧Kd.H k112 112 w' b0 (fun k_=>b0≤k_) (.slice (some ⟨gs,0,none⟩) cs.length cap) cs (j:Int) oki [.int .i64 x.f0,.slice A2 x.f1.length c2]∧(w'.cell? ⟨gs,j*2+1,none⟩=some (.slice A2 x.f1.length c2))) ?_ ?_;rotate_left
   ·intro hCont
    refine two_ (i:=7) (j:=9) (Ni:=some 39) (Nj:=some 41) (lA 17 511) (lA 17 895) rfl rfl rfl rfl (by kernel_rfl) (by decide) (by decide) (fun K hK=>?_) (fun K hK=>?_)
    ·skip
     refine value_ (w1:=?_) (v:=?_) (by rfl) rfl ?_ ?_;rotate_left 2
     ·go_simp
      constructor
      ·rfl
      ·rfl
     refine hK.out _ _ ((pw_cell_below (below_alloc (Below.refl _ _) _) hHeld)) (fun hHeld=>?_);clear hK K;refine nS 39 ?_;refine oS 9 41 (lA 17 1023) rfl rfl (fun K hK=>?_);refine gO Try.func33 #[.pointer (some ⟨g,0,none⟩),.int .i64 4] ?_;(with_reducible refine (pick_any _ g 4 w0 _ (HI4.out.alloc (.cells #[.int .i64 0,.int .i64 2,.int .i64 13,.int .i64 5] 3 (0,0))) zz48 (by omega) (by omega)).mono ?_);rintro e w5 ⟨y,rfl,hy,hi,hk⟩;refine ⟨_,rfl,?_⟩;have HL5:=aK (KeepBut.blk hk (blk_new w4a (.cells #[.int .i64 0,.int .i64 2,.int .i64 13,.int .i64 5] 3 (0,0))) (by have:=HG.out;have:=HGL.out;have:=HGS.out;omega) (by simp));have HH5:=aK (Kd.H_keep (Kd.H_alloc HH.out (.cells #[.int .i64 0,.int .i64 2,.int .i64 13,.int .i64 5] 3 (0,0))) hk (fun k_ hk_=>by have:=HG.out;omega));have HK5:=aK (KeepBut.trans (keep_alloc HK4.out (.cells #[.int .i64 0,.int .i64 2,.int .i64 13,.int .i64 5] 3 (0,0))) hk (.inl rfl));have HW5:=aK (KeepBut.trans (keep_alloc HW4.out (.cells #[.int .i64 0,.int .i64 2,.int .i64 13,.int .i64 5] 3 (0,0))) hk (.inl rfl));have HI5:=aK hi;have hy5:=aK hy;clear hi hk hy;refine hK.out _ _ (((Kd.H_at HH5.out (by omega) (by have:=HJ.out;omega)).1 1 _ rfl)) (fun hHeld=>?_);clear hK K;refine nS 41 ?_;exact norm_ zz31 (hCont (w4a.heap.size,y) _ ⟨hy5.out,HL5.out,HI5.out,HK5.out,HW5.out,HH5.out,hHeld⟩)
    ·skip
     refine gO Try.func33 #[.pointer (some ⟨g,0,none⟩),.int .i64 4] ?_;(with_reducible refine (pick_any _ g 4 w0 _ HI4.out zz48 (by omega) (by omega)).mono ?_);rintro e w5 ⟨y,rfl,hy,hi,hk⟩;refine ⟨_,rfl,?_⟩;have HH5:=aK (Kd.H_keep HH.out hk (fun k_ hk_=>by have:=HG.out;omega));have HK5:=aK (KeepBut.trans HK4.out hk (.inl rfl));have HW5:=aK (KeepBut.trans HW4.out hk (.inl rfl));have HI5:=aK hi;have hy5:=aK hy;clear hi hk hy;refine hK.out _ _ (((Kd.H_at HH5.out (by omega) (by have:=HJ.out;omega)).1 1 _ rfl)) (fun hHeld=>?_);clear hK K;refine nS 41 ?_;refine one_ (i:=7) (N:=some 39) (lA 17 1023) rfl rfl (by kernel_rfl) (by decide) (fun K hK=>?_);refine value_ (w1:=?_) (v:=?_) (by rfl) rfl ?_ ?_;rotate_left 2
     ·go_simp
      constructor
      ·rfl
      ·rfl
     refine hK.out _ _ ((pw_cell_below (below_alloc (Below.refl _ _) _) hHeld)) (fun hHeld=>?_);clear hK K;refine nS 39 ?_;exact norm_ zz31 (hCont (w5.heap.size,y) _ ⟨hy5.out,blk_new w5 _,HI5.out.alloc _,keep_alloc HK5.out _,keep_alloc HW5.out _,Kd.H_alloc HH5.out _,hHeld⟩)
   rintro ⟨gl,y⟩ w5 ⟨hy,hl,hi,hk,hkw,hH,hHeld⟩;have HW5:=aK hkw;have HI5:=aK hi;have HK5:=aK hk;have HH5:=aK hH;have q5:=eq_true hy.1;have q6:=eq_true hy.2
   obtain ⟨z,hz⟩: ∃z,w5.cell? ⟨gl,y.toNat,none⟩=some (.int .i64 z):=by
    have h4:y.toNat=0∨y.toNat=1∨y.toNat=2∨y.toNat=3:=by omega
    rcases h4 with h4|h4|h4|h4<;>rw [h4]
    ·exact ⟨_,(blk_cell hl 0).trans rfl⟩
    ·exact ⟨_,(blk_cell hl 1).trans rfl⟩
    ·exact ⟨_,(blk_cell hl 2).trans rfl⟩
    ·exact ⟨_,(blk_cell hl 3).trans rfl⟩
   clear hi hk hkw hH hl hy HH HK4 HI4;refine norm_ (a':=?_) ?_ ?_;rotate_left
   ·simp only [putAll, Act.put, List.setIfInBounds_toArray, List.set_cons_zero, List.set_cons_succ]
    rfl
   refine pS 10 42 (lA 17 2047) ?_;refine one_ (i:=11) (N:=some 43) (lA 17 4095) rfl rfl (by kernel_rfl) (by decide) (fun K hK=>?_);refine value_ (w1:=?_) (v:=?_) (by rfl) rfl ?_ ?_;rotate_left 2
   ·go_simp
    constructor
    ·rfl
    ·rfl
   refine hK.out _ _ (hHeld) (fun hHeld=>?_);clear hK K;refine nS 43 ?_;refine one_ (i:=12) (N:=some 44) (lA 17 8191) rfl rfl (by kernel_rfl) (by decide) (fun K hK=>?_);refine value_ (w1:=?_) (v:=?_) (by rfl) rfl ?_ ?_;rotate_left 2
   ·go_simp
    constructor
    ·rfl
    ·rfl
   refine hK.out _ _ ((pw_cell_below (below_alloc (Below.refl _ _) _) hHeld)) (fun hHeld=>?_);clear hK K;refine nS 44 ?_;refine one_ (i:=13) (N:=some 45) (lA 17 16383) rfl rfl (by kernel_rfl) (by decide) (fun K hK=>?_);have HZ5:=aK (show b0≤w5.heap.size by rw [HBW.out];exact keep_size HK5.out);refine Kd.R_append_step (Kd.int .i64) b0 (by rfl) (.tmp 38) (.tmp 44) 24 3 (.int .i64 0) 8 rfl Try.underlying24 info3 rfl (by decide) (by omega) (.slice A2 x.f1.length c2) x.f1 z [.int .i64 z] (fun k_=>oki k_∨b0≤k_∧w5.heap.size≤k_) (fun _=>False) rfl rfl ?aP (fun _ hk=>hk.elim) ?aF ?aO (Below.refl _ _) ?aS ?aL ?_
   (case aP=>exact rfl)
   (case aF=>exact fun k_ hk_=> .inr ⟨by have:=HZ5.out;omega,hk_⟩)
   (case aO=>exact Kd.R_mono (Kd.R_keep HR.out HW5.out (fun k_ hk_=>by have:=(HOk.out k_ hk_).1;have:=HG.out;omega)) (fun _ h_=> .inl h_))
   (case aS=>exact HZ5.out)
   (case aL=>have:=HX.out;omega)
   intro v8 w8 ho hbn hgr hat;obtain ⟨AN,cN,eN⟩:=Kd.R_slice ho;subst eN;have hbs: ∀k,(Value.slice A2 x.f1.length c2).ownBlock=some k→b0≤k:=fun k hk=>(HOk.out k (HR.out.1 k hk)).1
   have HH8:=aK (Kd.H_grown (Kd.H_widen HH5.out) hgr (fun k_ e_=> .inl (HR.out.1 k_ e_)));have HI8:=aK (HI5.out.grown hgr (fun e_=>by have:=hbs g e_.symm;have:=HG.out;omega) (fun k_ e_=>by have:=hbs k_ e_;have:=HG0.out;omega));have HK8:=aK (KeepBut.trans HK5.out (KeepBut.of_grown hgr g) (by rw [←HBW.out];exact Kd.R_base2 HR.out));have HS8:=aK (show Kd.S k112 112 (w8.setCell ⟨gs,j*2+1,none⟩ (.slice AN (x.f1.length+1) cN)) b0 (fun k_=>b0≤k_) (.slice (some ⟨gs,0,none⟩) cs.length cap) (cs.set j ⟨x.f0,x.f1++[z]⟩) by rw [show x.f1.length+1=(x.f1++[z]).length by simp];exact (Kd.S_seg0 (seg:=[.slice AN (x.f1++[z]).length cN]) (j:=1) (x':=⟨x.f0,x.f1++[z]⟩) HH8.out (by omega) (by have:=HJ.out;omega) (show 1+1≤2 by omega) (k112_mkM w8 b0 _ ⟨x.f0,x.f1++[z]⟩ ho) (fun _ h_=>h_)).1);have o8:w8.cell? ⟨gs,j*2+1,none⟩=_:=((Kd.H_at HH8.out (by omega) (by have:=HJ.out;omega)).1 1 _ rfl)
   have y8:w8.frozen? ⟨gs,j*2+1,none⟩=false:=(Kd.H_at HH8.out (by omega) (by have:=HJ.out;omega)).2 1
   clear ho hbn hgr hat hbs HH5 HI5 HK5;refine hK.out _ _ (o8) (fun hHeld=>?_);clear hK K;refine nS 45 ?_;refine pS 14 46 (lA 17 32767) ?_;refine pS 15 47 (lA 17 65535) ?_;refine last_ (i:=16) (N:=none) (lA 17 131071) rfl rfl (by kernel_rfl) (by decide) (fun K hK=>?_);refine skip_ (w1:=?_) (by rfl) rfl ?_ ?_;rotate_left
   ·go_simp
    rfl
   refine hK.out _ _ ?_;clear hK K;refine done_ (by kernel_rfl) ?_;go_wp2;go_ret;exact off_ret HBW.out HS8.out HG.out (by have:=HL.out;(try simp);omega) (few_set HF.out (by have:=HX.out;simp;omega)) (Rdr.far HI8.out (p:=⟨gs,j*2+1,none⟩) (by have:=HG.out;have:=HGS.out;show g≠gs;omega) (by have:=HG0.out;have:=HGS.out;show _≤gs;omega) _) (by omega) (keep_far HK8.out (p:=⟨gs,j*2+1,none⟩) (by rw [←HBW.out];exact HGS.out) _)
  ·skip
   have p3:=eq_true (show (1:Int)≤(cap:Int) by have:=(Kd.S_reads' HS4.out).2.1;have:=HL.out;omega);have p4:(1:Nat)≤cap:=by have:=(Kd.S_reads' HS4.out).2.1;have:=HL.out;omega
   go_wp2;go_ret;exact off_ret HBW.out (Kd.S_take (m:=1) HS4.out zz45) HG.out (by have:=HL.out;simp;omega) (fun x hx=>HF.out x (List.mem_of_mem_take hx)) HI4.out (by omega) HK4.out
  ·skip
   obtain ⟨x,u,oki,hxj,c0,c1,f0,f1,hr,hoki,hH,hp0,hp1⟩:=cls_put HS4.out (show 1<cs.length by have:=HL.out;omega);obtain ⟨A2,c2,rfl⟩:=Kd.R_slice hr;have HR:=aK hr;have HOk:=aK hoki;have HX:=aK (show x.f1.length≤3 from HF.out x (List.mem_of_getElem? hxj));have HGL:=aK (show gs<w4.heap.size from Kd.S_lt HS4.out gs (by simp [Value.ownBlock]));have p5:=eq_true (show (1:Int)<(cs.length:Int) by have:=HL.out;omega);have c0':w4.cell? ⟨gs,2,none⟩=some (.int .i64 x.f0):=c0
   have c1':w4.cell? ⟨gs,3,none⟩=some (.slice A2 x.f1.length c2):=c1
   clear hxj hr hoki hH hp0 hp1 c0 c1 f0 f1;go_wp2;replace HS4:=aK (Kd.S_drew HS4.out);replace HR:=aK (Kd.R_drew HR.out);replace HI4:=aK HI4.out.drew;replace HK4:=aK (keep_drew HK4.out);replace HGL:=aK (show gs<w4.drew.heap.size from HGL.out);refine sT 16 (S:=fun w'=>w'.cell? ⟨gs,2,none⟩=some (.int .i64 x.f0)∧w'.cell? ⟨gs,3,none⟩=some (.slice A2 x.f1.length c2)) (ds:=[14]) ⟨c0',c1'⟩ (fun hHeld=>?_);generalize w4.drew=w4a at HS4 HR HI4 HK4 HGL hHeld ⊢;refine pS 0 54 (lA 16 1) ?_;refine pS 1 55 (lA 16 3) ?_;refine pS 2 56 (lA 16 7) ?_;refine pS 4 58 (lA 16 23) ?_;refine pS 5 59 (lA 16 55) ?_;refine pS 7 61 (lA 16 183) ?_;refine pS 8 62 (lA 16 439) ?_;refine pS 10 64 (lA 16 1463) ?_;refine pS 11 65 (lA 16 3511) ?_;refine tS 3 57 (lA 16 3519) rfl rfl (by kernel_rfl) hHeld (by rintro w' ⟨s0,s1⟩;go_simp;with_reducible rfl) ?_;refine tS 6 60 (lA 16 3583) rfl rfl (by kernel_rfl) hHeld (by rintro w' ⟨s0,s1⟩;go_simp;with_reducible rfl) ?_;refine tS 9 63 (lA 16 4095) rfl rfl (by kernel_rfl) hHeld (by rintro w' ⟨s0,s1⟩;go_simp;with_reducible rfl) ?_;refine tS 12 66 (lA 16 8191) rfl rfl (by kernel_rfl) hHeld (by rintro w' ⟨s0,s1⟩;go_simp;with_reducible rfl) ?_;refine one_ (i:=13) (N:=some 67) (lA 16 16383) rfl rfl (by kernel_rfl) (by decide) (fun K hK=>?_);have HZ:=aK (show b0≤w4a.heap.size by rw [HBW.out];exact keep_size HK4.out);refine Kd.N_lit_step k112 _ 112 ?hg (N':=67) ?hd (xs:=([x,x,x,x]:List S112)) (inner:=[.int .i64 x.f0,.slice A2 x.f1.length c2,.int .i64 x.f0,.slice A2 x.f1.length c2,.int .i64 x.f0,.slice A2 x.f1.length c2,.int .i64 x.f0,.slice A2 x.f1.length c2]) (ok:=(fun k_=>b0≤k_∧k_≠gs)) (okp:=(fun k_=>b0≤k_∧k_≠gs)) ?hr ?hp (fun _ hk=>hk) ⟨HZ.out,by have:=HGL.out;omega⟩ (Below.refl _ _) (Nat.le_refl _) (by simp) ?_
   (case hd=>rfl)
   (case hg=>rfl)
   (case hr=>first|(go_simp;done)|(go_simp;rfl))
   (case hp=>exact Reps.c2 (show Kd.FK k112 _ _ x [.int .i64 x.f0,.slice A2 x.f1.length c2] from k112_mkF _ _ x (Kd.R_reads' HR.out).2.1 (Kd.R_F (Kd.R_mono HR.out HOk.out))) (Reps.c2 (show Kd.FK k112 _ _ x [.int .i64 x.f0,.slice A2 x.f1.length c2] from k112_mkF _ _ x (Kd.R_reads' HR.out).2.1 (Kd.R_F (Kd.R_mono HR.out HOk.out))) (Reps.c2 (show Kd.FK k112 _ _ x [.int .i64 x.f0,.slice A2 x.f1.length c2] from k112_mkF _ _ x (Kd.R_reads' HR.out).2.1 (Kd.R_F (Kd.R_mono HR.out HOk.out))) (Reps.c2 (show Kd.FK k112 _ _ x [.int .i64 x.f0,.slice A2 x.f1.length c2] from k112_mkF _ _ x (Kd.R_reads' HR.out).2.1 (Kd.R_F (Kd.R_mono HR.out HOk.out))) (Reps.none _ _)))))
   intro v5 w5 ho hb hg_ hnew_;have HN5:=aK (Kd.N_lower ho HZ.out);have HS5:=aK (Kd.S_below HS4.out hb);have HI5:=aK (HI4.out.below hb);have HK5:=aK (KeepBut.trans HK4.out (KeepBut.of_below hb g none) (.inl rfl));have HZ5:=aK (Nat.le_trans HZ.out (below_size hb));have s0_:=pw_cell_below hb hHeld.1;have s1_:=pw_cell_below hb hHeld.2;clear ho hb hg_ hnew_ HS4 HI4 HK4;obtain ⟨A5,c5,e5⟩:=Kd.N_slice HN5.out;subst e5;refine hK.out _ _ ⟨s0_,s1_⟩ (fun hHeld=>?_);clear hK K;refine nS 67 ?_;refine last_ (i:=14) (N:=some 68) (lA 16 32767) rfl rfl (by kernel_rfl) (by decide) (fun K hK=>?_);refine Kd.N_append_rows_step k112 b0 (by rfl) (.tmp 54) (.tmp 67) 23 112 (.agg #[(.int .i64 0),(.slice none 0 0)]) 32 rfl Try.underlying23 info112 rfl (by decide) (by omega) (.slice (some ⟨gs,0,none⟩) cs.length cap) cs [x,x,x,x] _ _ _ (fun k_=>b0≤k_) (fun k_=>(fun k_=>b0≤k_) k_∧some k_≠(Value.slice (some ⟨gs,0,none⟩) cs.length cap).ownBlock) rfl rfl ?aO ?aR (fun _ hk=>hk) ?aF (Below.refl _ _) ?aS ?aL ?_
   (case aR=>exact Kd.N_F (Kd.N_mono HN5.out (fun k_ hk_=>⟨hk_.1,by simp [Value.ownBlock];exact hk_.2⟩)))
   (case aO=>exact Kd.S_N HS5.out)
   (case aF=>exact fun k_ hk_=>by have:=HZ5.out;omega)
   (case aS=>exact HZ5.out)
   (case aL=>have:=HL.out;simp;omega)
   intro v7 w7 ho hb hg_ hat;have HV7:=aK (show Kd.V k112 112 w7 b0 (fun k_=>b0≤k_) v7 (cs++[x,x,x,x]) from Kd.N_V ho);have HI7:=aK (HI5.out.grown hg_ (fun e_=>by have:=Kd.S_base HS5.out g e_.symm;have:=HG.out;omega) (fun k_ e_=>by have:=Kd.S_base HS5.out k_ e_;have:=HG0.out;omega));have HK7:=aK (KeepBut.trans HK5.out (KeepBut.of_grown hg_ g) (by rw [←HBW.out];exact Kd.S_base2 HS5.out));clear ho hb hg_ hat;refine hK.out _ _ ?_;clear hK K;refine nS 68 ?_;refine pS 15 2 (lA 16 65535) ?_;refine done_ (by kernel_rfl) ?_;go_wp2;go_ret;exact off_retV HBW.out HV7.out HG.out (by have:=HL.out;simp;omega) (fun z hz=>by rcases List.mem_append.mp hz with q|q;exact HF.out z q;simp at q;rw [q];exact HX.out) HI7.out (by omega) HK7.out
  ·skip
   go_wp2_with ((with_reducible refine gate_dst (N:=73) rfl ?_);refine Kd.R_lit (Kd.int .i64) _ 3 ?hg (N:=73) ?hd (xs:=([1,1,1]:List Int)) (inner:=[.int .i64 1,.int .i64 1,.int .i64 1]) (ok:=fun _=>True) (okp:=fun _=>True) ?hr ?hp (fun _ hk=>hk) trivial (Below.refl _ _) (Nat.le_refl _) (by simp) ?_;(case hd=>rfl);(case hg=>rfl);(case hr=>first|(go_simp;done)|(go_simp;rfl));(case hp=>exact (Reps.one (show Kd.M (Kd.int .i64) _ _ _ 1 [.int .i64 1] from rfl) (Reps.one (show Kd.M (Kd.int .i64) _ _ _ 1 [.int .i64 1] from rfl) (Reps.one (show Kd.M (Kd.int .i64) _ _ _ 1 [.int .i64 1] from rfl) (Reps.none _ _)))));intro v1 w5 ho hb hg_ hnew_;have HZ:=aK (show b0≤w4.heap.size by rw [HBW.out];exact keep_size HK4.out);have HN:=aK (show∀k,v1.ownBlock=some k→w4.heap.size≤k from fun k hk=>Kd.R_base ho k hk);have HR:=aK (Kd.R_tight rfl (Kd.R_lower ho HZ.out));have HS5:=aK (show Kd.S k112 112 w5 b0 (fun k_=>b0≤k_∧¬some k_=v1.ownBlock) (.slice (some ⟨gs,0,none⟩) cs.length cap) cs from Kd.S_below (Kd.S_mono (Kd.S_bound HS4.out) (fun k_ hk_=>⟨hk_.1,fun e_=>by have:=HN.out k_ e_.symm;omega⟩)) hb);have HI5:=aK (HI4.out.below hb);have HK5:=aK (KeepBut.trans HK4.out (KeepBut.of_below hb g none) (.inl rfl));have HGL:=aK (show gs<w4.heap.size from Kd.S_lt HS4.out gs (by simp [Value.ownBlock]));clear ho hb hg_ hnew_ HI4 HK4 HS4;obtain ⟨Ao,co,eo⟩:=Kd.R_slice HR.out;subst eo;obtain ⟨x,u,oki,hxj,c0,c1,f0,f1,hr,hoki,hH,hp0,hp1⟩:=cls_put HS5.out HJ.out;have HP1:=aK (Kd.S_seg (okg:=fun k_=>some k_=(Value.slice Ao ([1,1,1]:List Int).length co).ownBlock) (seg:=[.slice Ao ([1,1,1]:List Int).length co]) (j:=1) (x':=⟨x.f0,[1,1,1]⟩) hH (by have:=HJ.out;omega) (by have:=HJ.out;omega) (show 1+1≤2 by omega) (k112_mkM w5 b0 _ ⟨x.f0,[1,1,1]⟩ HR.out) (fun k_ hk_=> .inr hk_) (fun k_ hk_=>⟨by have:=HN.out k_ hk_.symm;have:=HZ.out;omega,by have:=HN.out k_ hk_.symm;have:=HGL.out;omega⟩)).1;clear hxj hr hoki hH hp0 hp1)
   go_ret;exact off_ret HBW.out HP1.out HG.out (by have:=HL.out;(try simp);omega) (few_set HF.out (by simp)) (Rdr.far HI5.out (p:=⟨gs,j*2+1,none⟩) (by have:=HG.out;have:=HGS.out;show g≠gs;omega) (by have:=HG0.out;have:=HGS.out;show _≤gs;omega) _) (by omega) (keep_far HK5.out (p:=⟨gs,j*2+1,none⟩) (by rw [←HBW.out];exact HGS.out) _)
  ·skip
   obtain ⟨x,u,oki,hxj,c0,c1,f0,f1,hr,hoki,hH,hp0,hp1⟩:=cls_put HS4.out HJ.out;have HP1:=aK hp1;clear hxj hr hoki hH hp0 hp1;go_wp2;go_ret;exact off_ret HBW.out HP1.out HG.out (by have:=HL.out;(try simp);omega) (few_set HF.out (by simp)) (Rdr.far HI4.out (p:=⟨gs,j*2+1,none⟩) (by have:=HG.out;have:=HGS.out;show g≠gs;omega) (by have:=HG0.out;have:=HGS.out;show _≤gs;omega) _) (by omega) (keep_far HK4.out (p:=⟨gs,j*2+1,none⟩) (by rw [←HBW.out];exact HGS.out) _)
structure Dm (W:World) (b0:Nat) (ok:Nat→Prop) (v5 v0 v4 v7:Value) (cs:Cs) (ws:List Int) (cards:List Bool) (rt:List Int):Prop where
 h5:Kd.V k112 112 W b0 ok v5 cs
 h0:Kd.V (Kd.int .i64) 3 W b0 ok v0 ws
 h4:Kd.V Kd.bool 4 W b0 ok v4 cards
 h7:Kd.V (Kd.int .i64) 3 W b0 ok v7 rt
 l5:1≤cs.length∧cs.length≤9∧∀x∈cs,x.f1.length≤3
 l0:1≤ws.length∧ws.length≤1000
 l4:cards.length≤1000
 l7:rt.length≤100
def MemP (M:Int) (w0 w:World) (g:Nat) (e:Ending) (w':World):Prop:= ∃(v5 v0 v4 v7:Value) (cs:Cs) (ws:List Int) (y t o:Int) (cards:List Bool) (rt:List Int),e= .returned (.tuple #[v5,.agg #[v0,.int .i64 y,.int .i64 t,.int .i64 o,v4],v7])∧Dm w' w.heap.size (fun k=>w.heap.size≤k) v5 v0 v4 v7 cs ws cards rt∧Rdr (M+6000) w0 w' g∧Ch (fun k=>k=g) w w'
section
variable {b0 g gz gm:Nat} {W w w0 w1:World} {v5 v0 v4 v7:Value} {cs:Cs} {ws:List Int} {cards:List Bool} {rt:List Int} {ok ok' S:Nat→Prop} {M L:Int}
theorem Dm.ch (h:Dm W b0 ok v5 v0 v4 v7 cs ws cards rt) (hc:Ch S W w1) (hS: ∀k,ok k→¬S k):Dm w1 b0 ok v5 v0 v4 v7 cs ws cards rt:=
  ⟨Kd.V_kept h.h5 hc.kept hS,Kd.V_kept h.h0 hc.kept hS,Kd.V_kept h.h4 hc.kept hS,Kd.V_kept h.h7 hc.kept hS,h.l5,h.l0,h.l4,h.l7⟩
theorem Dm.mono (h:Dm W b0 ok v5 v0 v4 v7 cs ws cards rt) (hS: ∀k,ok k→ok' k):Dm W b0 ok' v5 v0 v4 v7 cs ws cards rt:=
  ⟨Kd.V_mono h.h5 hS,Kd.V_mono h.h0 hS,Kd.V_mono h.h4 hS,Kd.V_mono h.h7 hS,h.l5,h.l0,h.l4,h.l7⟩
theorem Dm.ret (h:Dm W w.heap.size (fun k=>w.heap.size≤k∧k≠gz) v5 v0 v4 v7 cs ws cards rt) (hi:Rdr L w0 W g) (hL:L≤M+6000) (hc:Ch (fun k=>k=g) w W) (hg:g<w.heap.size∧w0.heap.size≤w.heap.size) (hz:w.heap.size≤gz) {a b c d e:Value} {y t o:Int}:
    MemP M w0 w g (.returned (.tuple #[v5,.agg #[v0,.int .i64 y,.int .i64 t,.int .i64 o,v4],v7])) (memBox W gz a b c d e):=
  ⟨v5,v0,v4,v7,cs,ws,y,t,o,cards,rt,rfl,(h.ch (Ch.box5 (Ch.refl (fun k=>k=gz) _) (.inl rfl) _ _ _ _ _) (fun k hk=>hk.2)).mono (fun k hk=>hk.1),(hi.ch (Ch.box5 (Ch.refl (fun k=>k=gz) _) (.inl rfl) _ _ _ _ _) (by omega) (fun k hk=>by omega)).le hL,hc.box5 (.inr hz) _ _ _ _ _⟩
end
structure Ms (b0 s1 gz gm gw cW gc cC:Nat) (W:World) (v5 v7:Value) (cs:Cs) (ws:List Int) (y t o:Int) (cards:List Bool) (rt:List Int):Prop where
 om:OM s1 gw cW gc cC W ws cards
 h5:Kd.V k112 112 W b0 (fun k=>gz<k∧k<s1) v5 cs
 h7:Kd.R (Kd.int .i64) 3 W s1 (fun k=>k≠gw) v7 rt
 bm:W.heap[gm]? =some (.cells #[.slice (some ⟨gw,0,none⟩) ws.length cW,.int .i64 y,.int .i64 t,.int .i64 o,.slice (some ⟨gc,0,none⟩) cards.length cC] 27 (0,0))
 bz:W.heap[gz]? =some (.cells #[.slice none 0 0,.int .i64 0,.int .i64 0,.int .i64 0,.slice none 0 0] 27 (0,0))
 ge:b0≤gz∧gz<s1∧s1≤gm
 l5:1≤cs.length∧cs.length≤9∧∀x∈cs,x.f1.length≤3
 l0:14≤ws.length∧ws.length≤160
 l4:4≤cards.length∧cards.length≤40
 l7:rt.length≤60
section
variable {b0 s1 g gz gm gw cW gc cC:Nat} {W w1:World} {v5 v7 v:Value} {cs:Cs} {ws:List Int} {y t o:Int} {cards:List Bool} {rt:List Int} {S:Nat→Prop}
theorem Ms.ch (h:Ms b0 s1 gz gm gw cW gc cC W v5 v7 cs ws y t o cards rt) (hc:Ch S W w1) (hS: ∀k,S k→k<b0∨W.heap.size≤k):Ms b0 s1 gz gm gw cW gc cC w1 v5 v7 cs ws y t o cards rt:=by
  have a:=h.om.bw;have b:=h.om.bc;have c:=h.ge;have d:=blk_lt h.bm;exact ⟨h.om.ch hc (fun q=>by have:=hS _ q;omega) (fun q=>by have:=hS _ q;omega),Kd.V_mono (Kd.V_kept (Kd.V_bound h.h5) hc.kept (fun k hk q=>by have:=hS _ q;omega)) (fun _ hk=>hk.1),Kd.R_mono (hc.R (Kd.R_bound h.h7) (fun k hk q=>by have:=hS _ q;omega)) (fun _ hk=>hk.1),hc.blk h.bm (fun q=>by have:=hS _ q;omega),hc.blk h.bz (fun q=>by have:=hS _ q;have:=blk_lt h.bz;omega),h.ge,h.l5,h.l0,h.l4,h.l7⟩
theorem Ms.below (h:Ms b0 s1 gz gm gw cW gc cC W v5 v7 cs ws y t o cards rt) (hb:Below W.heap.size W w1):Ms b0 s1 gz gm gw cW gc cC w1 v5 v7 cs ws y t o cards rt:=h.ch ((Ch.refl (fun _=>False) _).below hb) (fun _ h=>h.elim)
theorem Ms.word (h:Ms b0 s1 gz gm gw cW gc cC W v5 v7 cs ws y t o cards rt) (hc:Ch (fun k=>k=gw) W w1) {ws':List Int} (hO:OM s1 gw cW gc cC w1 ws' cards) (hl:ws'.length=ws.length):Ms b0 s1 gz gm gw cW gc cC w1 v5 v7 cs ws' y t o cards rt:=by
  have a:=h.om.bw;have c:=h.ge;have n:=h.om.nbox h.bm;have n2:=h.om.nbox h.bz;exact ⟨hO,Kd.V_kept h.h5 hc.kept (fun k hk q=>by omega),hc.R h.h7 (fun k hk q=>hk q),by rw [hl];exact hc.blk h.bm (fun q=>n.1 q.symm),hc.blk h.bz (fun q=>n2.1 q.symm),h.ge,h.l5,by rw [hl];exact h.l0,h.l4,h.l7⟩
theorem Ms.r7 (h:Ms b0 s1 gz gm gw cW gc cC W v5 v7 cs ws y t o cards rt):Kd.R (Kd.int .i64) 3 W s1 (fun k=>k≠gw∧k≠gc) v7 rt:=h.om.apart h.h7
theorem Ms.dm (h:Ms b0 s1 gz gm gw cW gc cC W v5 v7 cs ws y t o cards rt):Dm W b0 (fun k=>(b0≤k∧k≠gz)∧k≠gm) v5 (.slice (some ⟨gw,0,none⟩) ws.length cW) (.slice (some ⟨gc,0,none⟩) cards.length cC) v7 cs ws cards rt:=by
 have a:=h.om.bw;have b:=h.om.bc;have c:=h.ge;have n:=h.om.nbox h.bm;refine ⟨Kd.V_mono h.h5 (fun k hk=>⟨⟨by omega,by omega⟩,by omega⟩),Kd.R_V (Kd.R_mono h.om.hw (fun k hk=>⟨⟨by omega,by omega⟩,by omega⟩)),Kd.R_V (Kd.R_mono h.om.hc (fun k hk=>⟨⟨by omega,by omega⟩,by omega⟩)),?_,h.l5,⟨by have:=h.l0;omega,by have:=h.l0;omega⟩,by have:=h.l4;omega,by have:=h.l7;omega⟩;exact Kd.R_V (Kd.R_mono (Kd.R_types (Kd.R_bound h.h7) h.bm (by decide)) (fun k hk=>⟨⟨by omega,by omega⟩,hk.2⟩))
theorem Ms.cut (h:Ms b0 s1 gz gm gw cW gc cC W v5 v7 cs ws y t o cards rt):Dm W b0 (fun k=>(b0≤k∧k≠gz)∧k≠gm) v5 (.slice (some ⟨gw,0,none⟩) ws.length cW) (.slice (some ⟨gc,1,none⟩) (cards.length - 1) (cC - 1)) v7 cs ws (cards.drop 1) rt:=by
 have hd:=h.dm;have h4:=h.l4;have hc:=(Kd.V_reads' hd.h4).2.1;have hf:=Kd.F_cut (c:=cC) (Kd.V_F hd.h4) (m:=1) (by omega) hc;rw [if_neg (by omega)] at hf;refine ⟨hd.h5,hd.h0,?_,hd.h7,hd.l5,hd.l0,by rw [List.length_drop];omega,hd.l7⟩;rw [show cards.length - 1=(cards.drop 1).length from List.length_drop.symm];exact Kd.V_mk (by rw [List.length_drop];omega) hf
theorem Ms.grow (h:Ms b0 s1 gz gm gw cW gc cC W v5 v7 cs ws y t o cards rt) (hc:Ch (fun k=>k=gw) W w1) {ws':List Int} {ok:Nat→Prop} (hv:Kd.R (Kd.int .i64) 3 w1 s1 ok v ws') (hok: ∀k,ok k→k=gw∨W.heap.size≤k) (hl:1≤ws'.length∧ws'.length≤1000):
  Dm w1 b0 (fun k=>(b0≤k∧k≠gz)∧k≠gm) v5 v (.slice (some ⟨gc,0,none⟩) cards.length cC) v7 cs ws' cards rt∧w1.heap[gm]? =some (.cells #[.slice (some ⟨gw,0,none⟩) ws.length cW,.int .i64 y,.int .i64 t,.int .i64 o,.slice (some ⟨gc,0,none⟩) cards.length cC] 27 (0,0))∧w1.heap[gz]? =some (.cells #[.slice none 0 0,.int .i64 0,.int .i64 0,.int .i64 0,.slice none 0 0] 27 (0,0)):=by
 have a:=h.om.bw;have b:=h.om.bc;have c:=h.ge;have n:=h.om.nbox h.bm;have n2:=h.om.nbox h.bz;have z1:=blk_lt h.bm;have z2:=blk_lt h.bz;refine ⟨⟨Kd.V_mono (Kd.V_kept h.h5 hc.kept (fun k hk q=>by omega)) (fun k hk=>⟨⟨by omega,by omega⟩,by omega⟩),Kd.R_V (Kd.R_mono hv (fun k hk=>by have:=hok k hk;omega)),Kd.R_V (Kd.R_mono (hc.R h.om.hc (fun k hk q=>by have:=h.om.ne;omega)) (fun k hk=>⟨⟨by omega,by omega⟩,by omega⟩)),?_,h.l5,hl,by have:=h.l4;omega,by have:=h.l7;omega⟩,hc.blk h.bm (fun q=>n.1 q.symm),hc.blk h.bz (fun q=>n2.1 q.symm)⟩;exact Kd.R_V (Kd.R_mono (hc.R (Kd.R_types (Kd.R_types (Kd.R_bound h.h7) h.bm (by decide)) h.bz (by decide)) (fun k hk q=>hk.1.1.1 q)) (fun k hk=>⟨⟨by have:=hk.1.1.2.1;omega,hk.2⟩,hk.1.2⟩))
theorem Ms.roots (h:Ms b0 s1 gz gm gw cW gc cC W v5 v7 cs ws y t o cards rt) (hg:W.grownBy w1 v7.ownBlock) {rt':List Int} (hv:Kd.R (Kd.int .i64) 3 w1 s1 (fun k=>k≠gw∧k≠gc) v rt') (hl:rt'.length≤100):
  Dm w1 b0 (fun k=>b0≤k∧k≠gz) v5 (.slice (some ⟨gw,0,none⟩) ws.length cW) (.slice (some ⟨gc,0,none⟩) cards.length cC) v cs ws cards rt'∧w1.heap[gm]? =some (.cells #[.slice (some ⟨gw,0,none⟩) ws.length cW,.int .i64 y,.int .i64 t,.int .i64 o,.slice (some ⟨gc,0,none⟩) cards.length cC] 27 (0,0))∧w1.heap[gz]? =some (.cells #[.slice none 0 0,.int .i64 0,.int .i64 0,.int .i64 0,.slice none 0 0] 27 (0,0)):=by
 have a:=h.om.bw;have b:=h.om.bc;have c:=h.ge;have n:=h.om.nbox h.bm;have n2:=h.om.nbox h.bz;have hc:Ch (fun k=>v7.ownBlock=some k) W w1:=(Ch.refl _ W).grown hg (fun k e=> .inl e)
 have hb:=Kd.R_base h.h7;have hz:=hc.blk h.bz (fun e=>Kd.R_ne h.h7 h.bz (by decide) e.symm);refine ⟨⟨Kd.V_mono (Kd.V_kept h.h5 hc.kept (fun k hk q=>by have:=hb k q;omega)) (fun k hk=>⟨by omega,by omega⟩),Kd.R_V (Kd.R_mono (hc.R h.om.hw (fun k hk q=>(h.r7.1 k q).1 hk)) (fun k hk=>⟨by omega,by omega⟩)),Kd.R_V (Kd.R_mono (hc.R h.om.hc (fun k hk q=>(h.r7.1 k q).2 hk)) (fun k hk=>⟨by omega,by omega⟩)),?_,h.l5,⟨by have:=h.l0;omega,by have:=h.l0;omega⟩,by have:=h.l4;omega,hl⟩,hc.blk h.bm (fun e=>Kd.R_ne h.h7 h.bm (by decide) e.symm),hz⟩;exact Kd.R_V (Kd.R_mono (Kd.R_types (Kd.R_bound hv) hz (by decide)) (fun k hk=>⟨by have:=hk.1.2.1;omega,hk.2⟩))
end
set_option maxHeartbeats 64000000 in
set_option maxRecDepth 100000 in
theorem mem_any (M:Int) (g:Nat) (w0 w:World) (hi:Rdr M w0 w g) (hM:M≤100000):
  Calls Try.prog 31 #[.pointer (some ⟨g,0,none⟩)] w (MemP M w0 w g):=by
 obtain ⟨b0,hb0⟩: ∃b,b=w.heap.size:=⟨_,rfl⟩;have HG:=aK (show g<b0∧w0.heap.size≤b0 by have h1:=hi.lt;have h2:=hi.ge;rw [hb0];omega);have HBW:=aK hb0;have HI:=aK hi;have HM:=aK hM;have HCh:=aK (Ch.refl (fun k=>k=g) w);clear hi hM hb0;go_enter Try.func31,Try.ntmps31
 go_wp2_with ((with_reducible refine gate_dst (N:=3) rfl ?_);refine Classical.byContradiction (fun hng=>?_))
 refine hng ?_;clear hng;refine box_event ?hg (N:=3) ?hd (cs:= #[.slice none 0 0,.int .i64 0,.int .i64 0,.int .i64 0,.slice none 0 0]) (t:=27) ?hr ?_
 (case hd=>rfl)
 (case hg=>rfl)
 (case hr=>first|(go_simp;done)|(go_simp;rfl))
 intro gz hg w1 hbox hb;have BZ1:=aK hbox;have HI1:=aK (HI.out.below hb);have HCh1:=aK (HCh.out.below hb);have HGz:=aK (show b0≤gz by rw [hg,HBW.out];exact Nat.le_refl _);clear hb hbox hg HI HCh
 go_wp2_with (go_at_call 61;refine Classical.byContradiction (fun hng=>?_))
 refine hng ?_;clear hng;refine (classes_any M g w0 _ HI1.out zz48).mono ?_;rintro e w2 ⟨v5,cs,rfl,⟨hok,hfew⟩,hS,hi,hk⟩;have hst:=HI1.out.step hi hk;have HI2:=aK hi;have HCh2:=aK (HCh1.out.then_ hst);have BZ2:=aK (hst.blk BZ1.out (by have:=HG.out;have:=HGz.out;omega));obtain ⟨s1,hs1⟩: ∃z,z=w2.heap.size:=⟨_,rfl⟩;have HS1:=aK (show gz<s1 by rw [hs1];exact blk_lt BZ2.out);have HV2:=aK (show Kd.V k112 112 w2 b0 (fun k=>gz<k∧k<s1) v5 cs from Kd.S_V (Kd.S_mono (Kd.S_bound hS) (fun k hk=>⟨by have:=blk_lt BZ1.out;omega,by rw [hs1];exact hk.2.2.1⟩)));have HOk:=aK hok;have HFw:=aK hfew;have Hs1:=aK hs1;obtain ⟨A,cA,eA⟩:=Kd.V_slice HV2.out;subst eA;clear hok hfew hS hi hk hst hs1 HI1 HCh1 BZ1
 go_wp2_with (go_at_call 62;refine Classical.byContradiction (fun hng=>?_))
 refine hng ?_;clear hng;refine (fill_any _ g A cA cs w0 _ HI2.out zz48 HOk.out (Kd.C_foot_ownV HV2.out (fun k hk=>by have:=HG.out;have:=HGz.out;omega)) (Kd.V_reads' HV2.out).2.1).mono ?_;rintro e w3 ⟨gw,cW,gc,cC,ws,y,t,o,cards,v7,rt,rfl,hB,hrl,hO,hR,hi,hc⟩;rw [←Hs1.out] at hO hR;have HO3:=aK hO;have HR3:=aK hR;have HI3:=aK hi;have HCh3:=aK (HCh2.out.then_ hc);have BZ3:=aK (hc.blk BZ2.out (by have:=HG.out;have:=HGz.out;omega));have HV3:=aK (Kd.V_kept HV2.out hc.kept (fun k hk q=>by have:=HG.out;have:=HGz.out;omega));have HLs:=aK (show (14≤ws.length∧ws.length≤160)∧(4≤cards.length∧cards.length≤40)∧rt.length≤60 by have:=hB.n0;have:=hB.n1;have:=hB.y0;have:=hB.y1;have:=hB.cd;omega);clear hB hrl hO hR hi hc HI2 HCh2 BZ2 HV2;obtain ⟨A7,c7,e7⟩:=Kd.R_slice HR3.out;subst e7
 go_wp2_with ((with_reducible refine gate_dst (N:=6) rfl ?_);refine Classical.byContradiction (fun hng=>?_))
 refine hng ?_;clear hng;refine box_event ?hg (N:=6) ?hd (cs:= #[.slice none 0 0,.int .i64 0,.int .i64 0,.int .i64 0,.slice none 0 0]) (t:=27) ?hr ?_
 (case hd=>rfl)
 (case hg=>rfl)
 (case hr=>first|(go_simp;done)|(go_simp;rfl))
 intro gm hg w4 hbox hb;have HO4:=aK (HO3.out.ch ((Ch.refl (fun _=>False) _).below hb) (fun h=>h) (fun h=>h));have HR4:=aK (Kd.R_mono (Kd.R_bound (Kd.R_below HR3.out hb)) (fun k hk=>(show k≠gw from hk.1)));have HV4:=aK (Kd.V_below HV3.out hb);have BZ4:=aK (blk_below BZ3.out hb);have HI4:=aK (HI3.out.below hb);have HCh4:=aK (HCh3.out.below hb);have HGm:=aK (show s1≤gm by rw [hg];have:=HO3.out.bw;omega);have BM4:=aK hbox;clear hb hbox hg HO3 HR3 HV3 BZ3 HI3 HCh3;have c0:=(blk_cell BM4.out 0).trans rfl;have c1:=(blk_cell BM4.out 1).trans rfl;have c2:=(blk_cell BM4.out 2).trans rfl;have c3:=(blk_cell BM4.out 3).trans rfl;have c4:=(blk_cell BM4.out 4).trans rfl;have f0:=blk_frozen BM4.out 0;have f1:=blk_frozen BM4.out 1;have f2:=blk_frozen BM4.out 2;have f3:=blk_frozen BM4.out 3;have f4:=blk_frozen BM4.out 4
 go_wp2_with ((with_reducible refine gate_store (t:=27) (p:=6) rfl ?_);refine Classical.byContradiction (fun hng=>?_))
 refine hng ?_;clear hng;refine store_event (t:=27) (p:=6) (v:=?vm1) (w1:=(memBox w4 gm (.slice (some ⟨gw,0,none⟩) ws.length cW) (.int .i64 y) (.int .i64 t) (.int .i64 o) (.slice (some ⟨gc,0,none⟩) cards.length cC))) ?hg ?ho ?hn ?hr ?_
 (case ho=>rfl)
 (case hg=>rfl)
 (case hn=>rfl)
 (case hr=>first|(go_simp;done)|(go_simp;rfl))
 intro w5 hw;have n4:=HO4.out.nbox BM4.out;have hc4:Ch (fun k=>k=gm) w4 w5:=by rw [hw];exact (Ch.refl (fun k=>k=gm) _).box5 (.inl rfl) _ _ _ _ _
 have HMs5:=aK (show Ms b0 s1 gz gm gw cW gc cC w5 (.slice A cs.length cA) (.slice A7 rt.length c7) cs ws y t o cards rt from ⟨HO4.out.ch hc4 n4.1 n4.2,Kd.V_kept HV4.out hc4.kept (fun k hk q=>by have:=HGm.out;omega),by rw [hw];exact R_box5t HR4.out BM4.out (by decide),by rw [hw];exact blk_box5 BM4.out,hc4.blk BZ4.out (by have:=HGm.out;have:=HS1.out;omega),⟨HGz.out,HS1.out,HGm.out⟩,⟨by have:=csOk_len HOk.out;omega,by have:=csOk_len HOk.out;omega,fun x hx=>by have:=HFw.out x hx;omega⟩,HLs.out.1,HLs.out.2.1,HLs.out.2.2⟩);have HI5:=aK (HI4.out.ch hc4 (by have:=HG.out;have:=HGz.out;have:=HGm.out;have:=HS1.out;omega) (fun k hk=>by have:=HG.out;have:=HGz.out;have:=HGm.out;have:=HS1.out;omega));have HCh5:=aK (HCh4.out.trans hc4 (fun k hk=> .inr (by have:=HBW.out;have:=HGz.out;have:=HGm.out;have:=HS1.out;omega)));clear hw hc4 n4 HO4 HR4 HV4 BM4 BZ4 HI4 HCh4;clear c0 c1 c2 c3 c4;clear f0 f1 f2 f3 f4
 go_wp2_with (go_at_call 33;refine Classical.byContradiction (fun hng=>?_))
 refine hng ?_;clear hng;refine (pick_any _ g 16 w0 _ HI5.out zz48 (by have:=HMs5.out.l0;omega) (by have:=HMs5.out.l0;omega)).mono ?_;rintro e w6 ⟨q,rfl,hq,hi,hk⟩;have hst:=HI5.out.step hi hk;have HI6:=aK hi;have HCh6:=aK (HCh5.out.then_ hst);have HMs6:=aK (HMs5.out.ch hst (fun k hk=>by have:=HG.out;omega));clear hst hi hk HI5 HCh5 HMs5;by_cases cq:0<q
 ·have d0 : decide (0 < q) = true := decide_eq_true cq
  clear cq hq;have HD:=aK (HMs6.out.dm.mono (fun k hk=>hk.1));have BMt:=aK HMs6.out.bm;have BZt:=aK HMs6.out.bz;have HIt:=HI6;have HCht:=HCh6;clear HMs6 HI6 HCh6;go_wp2;replace HD:=aK (HD.out.ch (Ch.drew (Ch.refl (fun _=>False) _)) (fun _ _ h=>h));replace BMt:=aK (blk_drew BMt.out);replace BZt:=aK (blk_drew BZt.out);replace HIt:=aK HIt.out.drew;replace HCht:=aK HCht.out.drew;have z0:=(blk_cell BZt.out 0).trans rfl;have z1:=(blk_cell BZt.out 1).trans rfl;have z2:=(blk_cell BZt.out 2).trans rfl;have z3:=(blk_cell BZt.out 3).trans rfl;have z4:=(blk_cell BZt.out 4).trans rfl;have y_0:=blk_frozen BZt.out 0;have y_1:=blk_frozen BZt.out 1;have y_2:=blk_frozen BZt.out 2;have y_3:=blk_frozen BZt.out 3;have y_4:=blk_frozen BZt.out 4;refine sT 6 (S:=fun w'=>w'.cell? ⟨gm,0,none⟩=some (.slice (some ⟨gw,0,none⟩) ws.length cW)∧w'.cell? ⟨gm,1,none⟩=some (.int .i64 y)∧w'.cell? ⟨gm,2,none⟩=some (.int .i64 t)∧w'.cell? ⟨gm,3,none⟩=some (.int .i64 o)∧w'.cell? ⟨gm,4,none⟩=some (.slice (some ⟨gc,0,none⟩) cards.length cC)) (ds:=[4]) ⟨((blk_cell BMt.out 0).trans rfl),((blk_cell BMt.out 1).trans rfl),((blk_cell BMt.out 2).trans rfl),((blk_cell BMt.out 3).trans rfl),((blk_cell BMt.out 4).trans rfl)⟩ (fun hHeld=>?_);generalize w6.drew=wt at HD BMt BZt HIt HCht z0 z1 z2 z3 z4 y_0 y_1 y_2 y_3 y_4 hHeld ⊢;refine pS 0 20 #[true,false,false,false,false,false] ?_;refine pS 2 22 #[true,false,true,false,false,false] ?_;refine pS 3 2 #[true,false,true,true,false,false] ?_;refine tS 1 21 #[true,true,true,true,false,false] rfl rfl (by kernel_rfl) hHeld zz15 ?_;refine last_ (i:=4) (N:=none) #[true,true,true,true,true,false] rfl rfl (by kernel_rfl) (by decide) (fun K hK=>?_);refine skip_ (w1:=?_) (by rfl) rfl ?_ ?_;rotate_left
  ·go_simp
   rfl
  refine hK.out _ _ ?_;clear hK K;refine pS 5 4 #[true,true,true,true,true,true] ?_;refine done_ (by kernel_rfl) ?_;clear z0 y_0 z1 y_1 z2 y_2 z3 y_3 z4 y_4;go_wp2;refine bodyPost_ret (results_list (rs:=[.tmp 2,.cell 3 27,.tmp 4]) rfl (by simp) (.tmp (.cell gz 27 #[.slice (some ⟨gw,0,none⟩) ws.length cW,.int .i64 y,.int .i64 t,.int .i64 o,.slice (some ⟨gc,0,none⟩) cards.length cC] (0,0) _ rfl (blk_box5 BZt.out) Try.underlying27 rfl (by kernel_rfl) (.tmp .nil)))) rfl ?_;exact (show Dm _ w.heap.size (fun k=>w.heap.size≤k∧k≠gz) _ _ _ _ _ _ _ _ by rw [←HBW.out];exact HD.out).ret HIt.out (by omega) HCht.out (by have:=HG.out;have:=HBW.out;omega) (by have:=HGz.out;have:=HBW.out;omega)
 ·have d0 : decide (0 < q) = false := decide_eq_false cq
  clear cq hq;have k0:=(blk_cell HMs6.out.bm 0).trans rfl
  go_wp2_with fail
  go_at_call 33;refine (pick_any _ g ws.length w0 _ HI6.out zz48 (by have:=HMs6.out.l0;omega) (by have:=HMs6.out.l0;omega)).mono ?_;rintro e w7 ⟨at_,rfl,hat,hi,hk⟩;have hst:=HI6.out.step hi hk;have HI7:=aK hi;have HCh7:=aK (HCh6.out.then_ hst);have HMs7:=aK (HMs6.out.ch hst (fun k hk=>by have:=HG.out;omega));have HAt:=aK hat;clear hat k0;clear hst hi hk HI6 HCh6 HMs6
  go_wp2_with fail
  go_at_call 33;refine (pick_any _ g 10 w0 _ HI7.out zz48 (by have:=HMs7.out.l0;omega) (by have:=HMs7.out.l0;omega)).mono ?_;rintro e w8 ⟨s,rfl,hs,hi,hk⟩;have hst:=HI7.out.step hi hk;have HI8:=aK hi;have HCh8:=aK (HCh7.out.then_ hst);have HMs8:=aK (HMs7.out.ch hst (fun k hk=>by have:=HG.out;omega));clear hst hi hk HI7 HCh7 HMs7
  go_upto_block 0 with fail
  go_cut [5,7] from 30 to 102 (fun v5 v7 wx=> ∃(A5:Option Addr) (n5 c5:Nat) (A0:Option Addr) (n0 c0:Nat) (A4:Option Addr) (n4 c4:Nat) (A9:Option Addr) (n9 c9:Nat) (cs:Cs) (ws:List Int) (y t o:Int) (cards:List Bool) (rt:List Int),v5= .slice A5 n5 c5∧v7= .slice A9 n9 c9∧Aside0 (Dm wx b0 (fun k=>b0≤k∧k≠gz) (.slice A5 n5 c5) (.slice A0 n0 c0) (.slice A4 n4 c4) (.slice A9 n9 c9) cs ws cards rt)∧Aside0 (wx.heap[gm]? =some (.cells #[.slice A0 n0 c0,.int .i64 y,.int .i64 t,.int .i64 o,.slice A4 n4 c4] 27 (0,0)))∧Aside0 (wx.heap[gz]? =some (.cells #[.slice none 0 0,.int .i64 0,.int .i64 0,.int .i64 0,.slice none 0 0] 27 (0,0)))∧Aside0 (Rdr (M+6000) w0 wx g)∧Aside0 (Ch (fun k=>k=g) w wx))
  case first =>
   have hs10:s=0∨s=1∨s=2∨s=3∨s=4∨s=5∨s=6∨s=7∨s=8∨s=9:=by omega
   clear hs;rcases hs10 with rfl|rfl|rfl|rfl|rfl|rfl|rfl|rfl|rfl|rfl
   ·have k0 := (blk_cell HMs8.out.bm 0).trans rfl
    go_wp2;replace HMs8:=aK (HMs8.out.ch (Ch.drew (Ch.refl (fun _=>False) _)) (fun _ h=>h.elim));replace HI8:=aK HI8.out.drew;replace HCh8:=aK HCh8.out.drew;have p1:=eq_true HAt.out.1;have p2:=eq_true HAt.out.2;clear k0;refine sT 8 (S:=fun w'=>w'.cell? ⟨gm,0,none⟩=some (.slice (some ⟨gw,0,none⟩) ws.length cW)) (ds:=[7]) (((blk_cell HMs8.out.bm 0).trans rfl)) (fun hHeld=>?_);generalize w8.drew=w8a at HMs8 HI8 HCh8 hHeld ⊢;refine pS 0 36 #[true,false,false,false,false,false,false,false] ?_;refine pS 2 38 #[true,false,true,false,false,false,false,false] ?_;refine pS 3 39 #[true,false,true,true,false,false,false,false] ?_;refine tS 1 37 #[true,true,true,true,false,false,false,false] rfl rfl (by kernel_rfl) hHeld (by intro w' s0;go_simp;with_reducible rfl) ?_;refine oS 4 40 #[true,true,true,true,true,false,false,false] rfl rfl (fun K hK=>?_);refine gO Try.func33 #[.pointer (some ⟨g,0,none⟩),.int .i64 9] ?_;(with_reducible refine (pick_any _ g 9 w0 _ HI8.out zz48 (by omega) (by omega)).mono ?_);rintro e w8b ⟨y9,rfl,hy9,hi,hk⟩;refine ⟨_,rfl,?_⟩;have hst:=HI8.out.step hi hk;have HI9:=aK hi;have HCh9:=aK (HCh8.out.then_ hst);have HMs9:=aK (HMs8.out.ch hst (fun k hk=>by have:=HG.out;omega));clear hst hi hk hy9 HI8 HCh8 HMs8;obtain ⟨x0,fx0⟩:=HMs9.out.om.wcell at_ HAt.out.1 HAt.out.2;refine hK.out _ _ (((blk_cell HMs9.out.bm 0).trans rfl)) (fun hHeld=>?_);clear hK K;refine nS 40 ?_;refine pS 5 41 #[true,true,true,true,true,true,false,false] ?_;refine pS 6 42 #[true,true,true,true,true,true,true,false] ?_;refine last_ (i:=7) (N:=none) #[true,true,true,true,true,true,true,true] rfl rfl (by kernel_rfl) (by decide) (fun K hK=>?_);refine skip_ (w1:=?_) (by rfl) rfl ?_ ?_;rotate_left
    ·go_simp
     rfl
    refine hK.out _ _ ?_;clear hK K;refine done_ (by kernel_rfl) ?_;obtain ⟨w9,hw⟩: ∃z,z=w8b.setCell ⟨gw,at_.toNat,none⟩ (.int .i64 (wrap64 (y9 - 3))):=⟨_,rfl⟩;rw [←hw];have hO9:OM s1 gw cW gc cC w9 (ws.set at_.toNat (wrap64 (y9 - 3))) cards:=by rw [hw];exact HMs9.out.om.setw at_ (wrap64 (y9 - 3))
    have hc9:Ch (fun z=>z=gw) w8b w9:=by rw [hw];exact (Ch.refl (fun z=>z=gw) _).set (.inl rfl) _
    have HMa:=aK (HMs9.out.word hc9 hO9 (List.length_set));have HD:=aK (HMa.out.dm.mono (fun k hk=>hk.1));have BMt:=aK HMa.out.bm;have BZt:=aK HMa.out.bz;have HIt:=aK (HI9.out.ch hc9 (by have:=HMs9.out.om.bw;have:=HMs9.out.ge;have:=HG.out;omega) (fun z hz=>by have:=HMs9.out.om.bw;have:=HMs9.out.ge;have:=HG.out;omega));have HCht:=aK (HCh9.out.trans hc9 (fun z hz=> .inr (by have:=HMs9.out.om.bw;have:=HMs9.out.ge;have:=HBW.out;omega)));clear hO9 hc9 hw x0 fx0 HMs9 HI9 HCh9;simp only [List.length_set] at HD BMt;go_wp2;go_meet;exact ⟨_,_,_,_,_,_,_,_,_,_,_,_,_,_,_,_,_,_,_,rfl,rfl,HD,BMt,BZt,⟨HIt.out.le (by omega)⟩,HCht⟩
   ·go_wp2_with fail
    go_at_call 33;refine (pick_any _ g 12 w0 _ HI8.out zz48 (by have:=HMs8.out.l0;omega) (by have:=HMs8.out.l0;omega)).mono ?_;rintro e w9 ⟨p9,rfl,hp9,hi,hk⟩;have hst:=HI8.out.step hi hk;have HI9:=aK hi;have HCh9:=aK (HCh8.out.then_ hst);have HMs9:=aK (HMs8.out.ch hst (fun k hk=>by have:=HG.out;omega));have k2:=(blk_cell HMs9.out.bm 2).trans rfl;have fk2:=blk_frozen HMs9.out.bm 2;clear hp9;clear hst hi hk HI8 HCh8 HMs8
    go_wp2_with ((with_reducible refine gate_store (t:=3) (p:=47) rfl ?_);refine Classical.byContradiction (fun hng=>?_))
    refine hng ?_;clear hng;refine store_event (t:=3) (p:=47) (v:=?vs1) (w1:=(w9.setCell ⟨gm,2,none⟩ (.int .i64 p9))) ?hg ?ho ?hn ?hr ?_
    (case ho=>rfl)
    (case hg=>rfl)
    (case hn=>rfl)
    (case hr=>first|(go_simp;done)|(go_simp;rfl))
    intro wa hw;clear k2 fk2;have hc9:Ch (fun z=>z=gm) w9 wa:=by rw [hw];exact (Ch.refl (fun z=>z=gm) _).set (.inl rfl) _
    have HD:=aK ((HMs9.out.dm.ch hc9 (fun z hz=>hz.2)).mono (fun z hz=>hz.1));have BMt:=aK (show wa.heap[gm]? =some (.cells #[.slice (some ⟨gw,0,none⟩) ws.length cW,.int .i64 y,.int .i64 p9,.int .i64 o,.slice (some ⟨gc,0,none⟩) cards.length cC] 27 (0,0)) by rw [hw];exact blk_put HMs9.out.bm 2 _ rfl);have BZt:=aK (hc9.blk HMs9.out.bz (by have:=HMs9.out.ge;omega));have HIt:=aK (HI9.out.ch hc9 (by have:=HMs9.out.ge;have:=HG.out;omega) (fun z hz=>by have:=HMs9.out.ge;have:=HG.out;omega));have HCht:=aK (HCh9.out.trans hc9 (fun z hz=> .inr (by have:=HMs9.out.ge;have:=HBW.out;omega)));clear hc9 hw HMs9 HI9 HCh9;go_wp2;go_meet;exact ⟨_,_,_,_,_,_,_,_,_,_,_,_,_,_,_,_,_,_,_,rfl,rfl,HD,BMt,BZt,⟨HIt.out.le (by omega)⟩,HCht⟩
   ·have k3 := (blk_cell HMs8.out.bm 3).trans rfl
    go_wp2;replace HMs8:=aK (HMs8.out.ch (Ch.drew (Ch.refl (fun _=>False) _)) (fun _ h=>h.elim));replace HI8:=aK HI8.out.drew;replace HCh8:=aK HCh8.out.drew;clear k3;refine sT 8 (S:=fun w'=>w'.cell? ⟨gm,3,none⟩=some (.int .i64 o)) (ds:=[7]) (((blk_cell HMs8.out.bm 3).trans rfl)) (fun hHeld=>?_);generalize w8.drew=w8a at HMs8 HI8 HCh8 hHeld ⊢;refine pS 0 50 #[true,false,false,false,false,false,false,false] ?_;refine pS 2 52 #[true,false,true,false,false,false,false,false] ?_;refine tS 1 51 #[true,true,true,false,false,false,false,false] rfl rfl (by kernel_rfl) hHeld (by intro w' s0;go_simp;with_reducible rfl) ?_;refine oS 3 53 #[true,true,true,true,false,false,false,false] rfl rfl (fun K hK=>?_);refine gO Try.func33 #[.pointer (some ⟨g,0,none⟩),.int .i64 4] ?_;(with_reducible refine (pick_any _ g 4 w0 _ HI8.out zz48 (by omega) (by omega)).mono ?_);rintro e w8b ⟨p9,rfl,hp9,hi,hk⟩;refine ⟨_,rfl,?_⟩;have hst:=HI8.out.step hi hk;have HI9:=aK hi;have HCh9:=aK (HCh8.out.then_ hst);have HMs9:=aK (HMs8.out.ch hst (fun k hk=>by have:=HG.out;omega));clear hst hi hk hp9 HI8 HCh8 HMs8;have k3:=(blk_cell HMs9.out.bm 3).trans rfl;have fk3:=blk_frozen HMs9.out.bm 3;refine hK.out _ _ (k3) (fun hHeld=>?_);clear hK K;refine nS 53 ?_;refine pS 4 54 #[true,true,true,true,true,false,false,false] ?_;refine pS 5 55 #[true,true,true,true,true,true,false,false] ?_;refine pS 6 56 #[true,true,true,true,true,true,true,false] ?_;refine last_ (i:=7) (N:=none) #[true,true,true,true,true,true,true,true] rfl rfl (by kernel_rfl) (by decide) (fun K hK=>?_);refine skip_ (w1:=?_) (by rfl) rfl ?_ ?_;rotate_left
    ·go_simp
     rfl
    refine hK.out _ _ ?_;clear hK K;refine done_ (by kernel_rfl) ?_;obtain ⟨w9,hw⟩: ∃z,z=w8b.setCell ⟨gm,3,none⟩ (.int .i64 (wrap64 (wrap64 (o+p9) - 1))):=⟨_,rfl⟩;rw [←hw];have hc9:Ch (fun z=>z=gm) w8b w9:=by rw [hw];exact (Ch.refl (fun z=>z=gm) _).set (.inl rfl) _
    have HD:=aK ((HMs9.out.dm.ch hc9 (fun z hz=>hz.2)).mono (fun z hz=>hz.1));have BMt:=aK (show w9.heap[gm]? =some (.cells #[.slice (some ⟨gw,0,none⟩) ws.length cW,.int .i64 y,.int .i64 t,.int .i64 (wrap64 (wrap64 (o+p9) - 1)),.slice (some ⟨gc,0,none⟩) cards.length cC] 27 (0,0)) by rw [hw];exact blk_put HMs9.out.bm 3 _ rfl);have BZt:=aK (hc9.blk HMs9.out.bz (by have:=HMs9.out.ge;omega));have HIt:=aK (HI9.out.ch hc9 (by have:=HMs9.out.ge;have:=HG.out;omega) (fun z hz=>by have:=HMs9.out.ge;have:=HG.out;omega));have HCht:=aK (HCh9.out.trans hc9 (fun z hz=> .inr (by have:=HMs9.out.ge;have:=HBW.out;omega)));clear hc9 hw k3 fk3 HMs9 HI9 HCh9;go_wp2;go_meet;exact ⟨_,_,_,_,_,_,_,_,_,_,_,_,_,_,_,_,_,_,_,rfl,rfl,HD,BMt,BZt,⟨HIt.out.le (by omega)⟩,HCht⟩
   ·have k4 := (blk_cell HMs8.out.bm 4).trans rfl; have fk4 := blk_frozen HMs8.out.bm 4
    go_wp2_with ((with_reducible refine gate_dst (N:=62) rfl ?_);refine Classical.byContradiction (fun hng=>?_))
    refine hng ?_;clear hng;refine Kd.R_make Kd.bool _ 4 rfl (N:=62) rfl 25 _ _ rfl (cards.length:Int) rfl rfl Try.underlying25 (.bool false) 1 info4 rfl (by decide) (by omega) false (ok:=fun _=>True) (okp:=fun _=>True) rfl (fun _ hk=>hk) trivial (by omega) (by have:=HMs8.out.l4;omega) (Below.refl _ _) (Nat.le_refl _) ?_;intro v9 w9 ho hb hg_ hnew_;have HM9:=aK (HMs8.out.below hb);have HR9:=aK (Kd.R_mono (Kd.R_bound ho) (fun k hk=>show w8.heap.size≤k from hk.2.1));have HI9:=aK (HI8.out.below hb);have HCh9:=aK (HCh8.out.below hb);have HZ8:=aK (show gm<w8.heap.size from blk_lt HMs8.out.bm);clear ho hb hg_ hnew_ HI8 HCh8 HMs8 k4 fk4;obtain ⟨A9,c9,e9⟩:=Kd.R_slice HR9.out;subst e9;have k4:=(blk_cell HM9.out.bm 4).trans rfl;have fk4:=blk_frozen HM9.out.bm 4
    go_wp2_with ((with_reducible refine gate_store (t:=25) (p:=63) rfl ?_);refine Classical.byContradiction (fun hng=>?_))
    refine hng ?_;clear hng;refine store_event (t:=25) (p:=63) (v:=?vs3) (w1:=(w9.setCell ⟨gm,4,none⟩ (.slice A9 (List.replicate (cards.length:Int).toNat false).length c9))) ?hg ?ho ?hn ?hr ?_
    (case ho=>rfl)
    (case hg=>rfl)
    (case hn=>rfl)
    (case hr=>first|(go_simp;done)|(go_simp;rfl))
    intro wa hw;clear k4 fk4;have hd:=HM9.out.dm;have hc9:Ch (fun z=>z=gm) w9 wa:=by rw [hw];exact (Ch.refl (fun z=>z=gm) _).set (.inl rfl) _
    have HD:=aK (((Dm.mk hd.h5 hd.h0 (Kd.R_V (Kd.R_mono HR9.out (fun k hk=>(show (b0≤k∧k≠gz)∧k≠gm by have:=HZ8.out;have:=HM9.out.ge;omega)))) hd.h7 hd.l5 hd.l0 (by have:=HM9.out.l4;rw [List.length_replicate];omega) hd.l7).ch hc9 (fun z hz=>hz.2)).mono (fun z hz=>hz.1));have BMt:=aK (show wa.heap[gm]? =some (.cells #[.slice (some ⟨gw,0,none⟩) ws.length cW,.int .i64 y,.int .i64 t,.int .i64 o,.slice A9 (List.replicate (cards.length:Int).toNat false).length c9] 27 (0,0)) by rw [hw];exact blk_put HM9.out.bm 4 _ rfl);have BZt:=aK (hc9.blk HM9.out.bz (by have:=HM9.out.ge;omega));have HIt:=aK (HI9.out.ch hc9 (by have:=HM9.out.ge;have:=HG.out;omega) (fun z hz=>by have:=HM9.out.ge;have:=HG.out;omega));have HCht:=aK (HCh9.out.trans hc9 (fun z hz=> .inr (by have:=HM9.out.ge;have:=HBW.out;omega)));clear hd hc9 hw HM9 HI9 HCh9 HR9;simp only [List.length_replicate,Int.toNat_natCast] at HD BMt;go_wp2;go_meet;exact ⟨_,_,_,_,_,_,_,_,_,_,_,_,_,_,_,_,_,_,_,rfl,rfl,HD,BMt,BZt,⟨HIt.out.le (by omega)⟩,HCht⟩
   ·have k4 := (blk_cell HMs8.out.bm 4).trans rfl; have fk4 := blk_frozen HMs8.out.bm 4
    have hcc:=(Kd.R_reads' HMs8.out.om.hc).2.1;have h4_:=HMs8.out.l4;have p1:=eq_true (show 1≤cards.length by omega);have p2:=eq_true (show (1:Int)≤(cards.length:Int) by omega);have p3:=eq_false (show¬cC=1 by omega);have p4:=eq_true (show 1≤cC by omega);have p5:=eq_true (show (1:Int)≤(cC:Int) by omega);clear hcc h4_
    go_wp2_with ((with_reducible refine gate_store (t:=25) (p:=69) rfl ?_);refine Classical.byContradiction (fun hng=>?_))
    refine hng ?_;clear hng;refine store_event (t:=25) (p:=69) (v:=?vs4) (w1:=(w8.setCell ⟨gm,4,none⟩ (.slice (some ⟨gc,1,none⟩) (cards.length - 1) (cC - 1)))) ?hg ?ho ?hn ?hr ?_
    (case ho=>rfl)
    (case hg=>rfl)
    (case hn=>rfl)
    (case hr=>first|(go_simp;done)|(go_simp;rfl))
    intro wa hw;clear p1 p2 p3 p4 p5;clear k4 fk4;have hc9:Ch (fun z=>z=gm) w8 wa:=by rw [hw];exact (Ch.refl (fun z=>z=gm) _).set (.inl rfl) _
    have HD:=aK ((HMs8.out.cut.ch hc9 (fun z hz=>hz.2)).mono (fun z hz=>hz.1));have BMt:=aK (show wa.heap[gm]? =some (.cells #[.slice (some ⟨gw,0,none⟩) ws.length cW,.int .i64 y,.int .i64 t,.int .i64 o,.slice (some ⟨gc,1,none⟩) (cards.length - 1) (cC - 1)] 27 (0,0)) by rw [hw];exact blk_put HMs8.out.bm 4 _ rfl);have BZt:=aK (hc9.blk HMs8.out.bz (by have:=HMs8.out.ge;omega));have HIt:=aK (HI8.out.ch hc9 (by have:=HMs8.out.ge;have:=HG.out;omega) (fun z hz=>by have:=HMs8.out.ge;have:=HG.out;omega));have HCht:=aK (HCh8.out.trans hc9 (fun z hz=> .inr (by have:=HMs8.out.ge;have:=HBW.out;omega)));clear hc9 hw HMs8 HI8 HCh8;go_wp2;go_meet;exact ⟨_,_,_,_,_,_,_,_,_,_,_,_,_,_,_,_,_,_,_,rfl,rfl,HD,BMt,BZt,⟨HIt.out.le (by omega)⟩,HCht⟩
   ·have k1 := (blk_cell HMs8.out.bm 1).trans rfl; have fk1 := blk_frozen HMs8.out.bm 1
    go_wp2_with ((with_reducible refine gate_store (t:=3) (p:=75) rfl ?_);refine Classical.byContradiction (fun hng=>?_))
    refine hng ?_;clear hng;refine store_event (t:=3) (p:=75) (v:=?vs5) (w1:=(w8.setCell ⟨gm,1,none⟩ (.int .i64 (wrap64 (y+1))))) ?hg ?ho ?hn ?hr ?_
    (case ho=>rfl)
    (case hg=>rfl)
    (case hn=>rfl)
    (case hr=>first|(go_simp;done)|(go_simp;rfl))
    intro wa hw;clear k1 fk1;have hc9:Ch (fun z=>z=gm) w8 wa:=by rw [hw];exact (Ch.refl (fun z=>z=gm) _).set (.inl rfl) _
    have HD:=aK ((HMs8.out.dm.ch hc9 (fun z hz=>hz.2)).mono (fun z hz=>hz.1));have BMt:=aK (show wa.heap[gm]? =some (.cells #[.slice (some ⟨gw,0,none⟩) ws.length cW,.int .i64 (wrap64 (y+1)),.int .i64 t,.int .i64 o,.slice (some ⟨gc,0,none⟩) cards.length cC] 27 (0,0)) by rw [hw];exact blk_put HMs8.out.bm 1 _ rfl);have BZt:=aK (hc9.blk HMs8.out.bz (by have:=HMs8.out.ge;omega));have HIt:=aK (HI8.out.ch hc9 (by have:=HMs8.out.ge;have:=HG.out;omega) (fun z hz=>by have:=HMs8.out.ge;have:=HG.out;omega));have HCht:=aK (HCh8.out.trans hc9 (fun z hz=> .inr (by have:=HMs8.out.ge;have:=HBW.out;omega)));clear hc9 hw HMs8 HI8 HCh8;go_wp2;go_meet;exact ⟨_,_,_,_,_,_,_,_,_,_,_,_,_,_,_,_,_,_,_,rfl,rfl,HD,BMt,BZt,⟨HIt.out.le (by omega)⟩,HCht⟩
   ·have k0 := (blk_cell HMs8.out.bm 0).trans rfl; have fk0 := blk_frozen HMs8.out.bm 0
    go_wp2_with ((with_reducible refine gate_builtin (b:= .append) (xs:= #[.tmp 79,.tmp 80]) rfl ?_);refine Classical.byContradiction (fun hng=>?_))
    refine hng ?_;clear hng
    at_builtin
    refine Kd.R_append (Kd.int .i64) (w0:=w8) s1 rfl (.tmp 79) (.tmp 80) 24 3 (.int .i64 0) 8 rfl Try.underlying24 info3 rfl (by decide) (by omega) (.slice (some ⟨gw,0,none⟩) ws.length cW) ws 0 [.int .i64 0] (fun k=>k=gw∨w8.heap.size≤k) (fun _=>False) rfl (by first|rfl|(go_simp;done)|(go_simp;rfl)) ?aP (fun _ hk=>hk.elim) ?aF ?aO ?aB ?aS ?aL ?_
    (case aP=>exact rfl)
    (case aB=>exact Below.refl _ _)
    (case aF=>exact fun k hk=> .inr hk)
    (case aO=>exact Kd.R_mono HMs8.out.om.hw (fun k hk=> .inl hk))
    (case aS=>have:=HMs8.out.om.bw;omega)
    (case aL=>have:=HMs8.out.l0;omega)
    intro v9 w9 ho hbn hgr hat;have hc9:Ch (fun z=>z=gw) w8 w9:=(Ch.refl _ w8).grown hgr (fun k e=> .inl (Option.some.inj e).symm)
    obtain ⟨A9,c9,e9⟩:=Kd.R_slice ho;subst e9;obtain ⟨hd,hbm,hbz⟩:=HMs8.out.grow hc9 ho (fun k hk=>hk) (by have:=HMs8.out.l0;simp;omega);simp only [List.length_append,List.length_cons,List.length_nil,Nat.zero_add] at hd;have HD9:=aK hd;have BM9:=aK hbm;have BZ9:=aK hbz;have HGE:=aK HMs8.out.ge;have HI9:=aK (HI8.out.ch hc9 (by have:=HMs8.out.om.bw;have:=HMs8.out.ge;have:=HG.out;omega) (fun z hz=>by have:=HMs8.out.om.bw;have:=HMs8.out.ge;have:=HG.out;omega));have HCh9:=aK (HCh8.out.trans hc9 (fun z hz=> .inr (by have:=HMs8.out.om.bw;have:=HMs8.out.ge;have:=HBW.out;omega)));clear ho hbn hgr hat hd hbm hbz hc9 HMs8 HI8 HCh8 k0 fk0;have k0:=(blk_cell BM9.out 0).trans rfl;have fk0:=blk_frozen BM9.out 0
    go_wp2_with ((with_reducible refine gate_store (t:=24) (p:=82) rfl ?_);refine Classical.byContradiction (fun hng=>?_))
    refine hng ?_;clear hng;refine store_event (t:=24) (p:=82) (v:=?vs6) (w1:=(w9.setCell ⟨gm,0,none⟩ (.slice A9 (ws.length+1) c9))) ?hg ?ho ?hn ?hr ?_
    (case ho=>rfl)
    (case hg=>rfl)
    (case hn=>rfl)
    (case hr=>first|(go_simp;done)|(go_simp;rfl))
    intro wa hw;clear k0 fk0;have hc9:Ch (fun z=>z=gm) w9 wa:=by rw [hw];exact (Ch.refl (fun z=>z=gm) _).set (.inl rfl) _
    have HD:=aK ((HD9.out.ch hc9 (fun z hz=>hz.2)).mono (fun z hz=>hz.1));have BMt:=aK (show wa.heap[gm]? =some (.cells #[.slice A9 (ws.length+1) c9,.int .i64 y,.int .i64 t,.int .i64 o,.slice (some ⟨gc,0,none⟩) cards.length cC] 27 (0,0)) by rw [hw];exact blk_put BM9.out 0 _ rfl);have BZt:=aK (hc9.blk BZ9.out (by have:=HGE.out;omega));have HIt:=aK (HI9.out.ch hc9 (by have:=HGE.out;have:=HG.out;omega) (fun z hz=>by have:=HGE.out;have:=HG.out;omega));have HCht:=aK (HCh9.out.trans hc9 (fun z hz=> .inr (by have:=HGE.out;have:=HBW.out;omega)));clear hc9 hw HD9 BM9 BZ9 HI9 HCh9;go_wp2;go_meet;exact ⟨_,_,_,_,_,_,_,_,_,_,_,_,_,_,_,_,_,_,_,rfl,rfl,HD,BMt,BZt,⟨HIt.out.le (by omega)⟩,HCht⟩
   ·go_wp2
    replace HMs8:=aK (HMs8.out.ch (Ch.drew (Ch.refl (fun _=>False) _)) (fun _ h=>h.elim));replace HI8:=aK (HI8.out.drew.le (L:=M+5990) (by omega));replace HCh8:=aK HCh8.out.drew;refine sT 15 (S:=fun w'=>w'.cell? ⟨gm,0,none⟩=some (.slice (some ⟨gw,0,none⟩) ws.length cW)) (ds:=[13]) (((blk_cell HMs8.out.bm 0).trans rfl)) (fun hHeld=>?_);generalize w8.drew=w8a at HMs8 HI8 HCh8 hHeld ⊢;refine pS 0 85 (lA 15 1) ?_;refine pS 1 86 (lA 15 3) ?_;refine pS 2 87 (lA 15 7) ?_;refine pS 3 88 (lA 15 15) ?_;refine pS 8 93 (lA 15 271) ?_;refine tS 4 89 (lA 15 287) rfl rfl (by kernel_rfl) hHeld (by intro w' s0;go_simp;with_reducible rfl) ?_;refine pS 5 90 (lA 15 319) ?_;refine pS 6 91 (lA 15 383) ?_;refine join_ (σ:=Nat×Int) 5 (lA 15 1023) (fun s=>[(92,.slice (some ⟨s.1,0,none⟩) 3 3),(94,.int .i64 s.2)]) (fun s w'=>(0≤s.2∧s.2<3)∧w'.heap[s.1]? =some (.cells #[.int .i64 (-1),.int .i64 (wrap64 (at_+1)),.int .i64 (wrap64 ((ws.length:Int)+1))] 3 (0,0))∧Rdr (M+5990+1) w0 w' g∧Ch (fun k=>k=g) w w'∧Ms b0 s1 gz gm gw cW gc cC w' (.slice A cs.length cA) (.slice A7 rt.length c7) cs ws y t o cards rt∧(w'.cell? ⟨gm,0,none⟩=some (.slice (some ⟨gw,0,none⟩) ws.length cW))) ?_ ?_;rotate_left
    ·intro hCont
     refine two_ (i:=7) (j:=9) (Ni:=some 92) (Nj:=some 94) (lA 15 511) (lA 15 895) rfl rfl rfl rfl (by kernel_rfl) (by decide) (by decide) (fun K hK=>?_) (fun K hK=>?_)
     ·skip
      refine value_ (w1:=?_) (v:=?_) (by rfl) rfl ?_ ?_;rotate_left 2
      ·go_simp
       constructor
       ·rfl
       ·rfl
      refine hK.out _ _ ((pw_cell_below (below_alloc (Below.refl _ _) _) hHeld)) (fun hHeld=>?_);clear hK K;refine nS 92 ?_;refine oS 9 94 (lA 15 1023) rfl rfl (fun K hK=>?_);refine gO Try.func33 #[.pointer (some ⟨g,0,none⟩),.int .i64 3] ?_;(with_reducible refine (pick_any _ g 3 w0 _ (HI8.out.alloc (.cells #[.int .i64 (-1),.int .i64 (wrap64 (at_+1)),.int .i64 (wrap64 ((ws.length:Int)+1))] 3 (0,0))) zz48 (by omega) (by omega)).mono ?_);rintro e w9 ⟨y9,rfl,hy9,hi,hk⟩;refine ⟨_,rfl,?_⟩;have hst:=(HI8.out.alloc (.cells #[.int .i64 (-1),.int .i64 (wrap64 (at_+1)),.int .i64 (wrap64 ((ws.length:Int)+1))] 3 (0,0))).step hi hk;have HL9:=aK (hst.blk (blk_new w8a (.cells #[.int .i64 (-1),.int .i64 (wrap64 (at_+1)),.int .i64 (wrap64 ((ws.length:Int)+1))] 3 (0,0))) (by have:=HG.out;have:=HMs8.out.ge;have:=blk_lt HMs8.out.bm;omega));have HI9:=aK hi;have HCh9:=aK ((HCh8.out.alloc (.cells #[.int .i64 (-1),.int .i64 (wrap64 (at_+1)),.int .i64 (wrap64 ((ws.length:Int)+1))] 3 (0,0))).then_ hst);have HMs9:=aK ((HMs8.out.below (below_alloc (Below.refl _ _) (.cells #[.int .i64 (-1),.int .i64 (wrap64 (at_+1)),.int .i64 (wrap64 ((ws.length:Int)+1))] 3 (0,0)))).ch hst (fun k hk=>by have:=HG.out;omega));have hy9_:=aK hy9;clear hst hi hk hy9;refine hK.out _ _ (((blk_cell HMs9.out.bm 0).trans rfl)) (fun hHeld=>?_);clear hK K;refine nS 94 ?_;exact norm_ zz31 (hCont (w8a.heap.size,y9) _ ⟨hy9_.out,HL9.out,HI9.out,HCh9.out,HMs9.out,hHeld⟩)
     ·skip
      refine gO Try.func33 #[.pointer (some ⟨g,0,none⟩),.int .i64 3] ?_;(with_reducible refine (pick_any _ g 3 w0 _ HI8.out zz48 (by omega) (by omega)).mono ?_);rintro e w9 ⟨y9,rfl,hy9,hi,hk⟩;refine ⟨_,rfl,?_⟩;have hst:=HI8.out.step hi hk;have HI9:=aK hi;have HCh9:=aK (HCh8.out.then_ hst);have HMs9:=aK (HMs8.out.ch hst (fun k hk=>by have:=HG.out;omega));have hy9_:=aK hy9;clear hst hi hk hy9;refine hK.out _ _ (((blk_cell HMs9.out.bm 0).trans rfl)) (fun hHeld=>?_);clear hK K;refine nS 94 ?_;refine one_ (i:=7) (N:=some 92) (lA 15 1023) rfl rfl (by kernel_rfl) (by decide) (fun K hK=>?_);refine value_ (w1:=?_) (v:=?_) (by rfl) rfl ?_ ?_;rotate_left 2
      ·go_simp
       constructor
       ·rfl
       ·rfl
      refine hK.out _ _ ((pw_cell_below (below_alloc (Below.refl _ _) _) hHeld)) (fun hHeld=>?_);clear hK K;refine nS 92 ?_;exact norm_ zz31 (hCont (w9.heap.size,y9) _ ⟨hy9_.out,blk_new w9 _,HI9.out.alloc _,HCh9.out.alloc _,HMs9.out.below (below_alloc (Below.refl _ _) _),hHeld⟩)
    rintro ⟨gl,y9⟩ w9 ⟨hy,hl,hi,hch,hm,hHeld⟩;have HI9:=aK hi;have HCh9:=aK hch;have HMs9:=aK hm;have q5:=eq_true hy.1;have q6:=eq_true hy.2
    obtain ⟨z,hz⟩: ∃z,w9.cell? ⟨gl,y9.toNat,none⟩=some (.int .i64 z):=by
     have h4:y9.toNat=0∨y9.toNat=1∨y9.toNat=2:=by omega
     rcases h4 with h4|h4|h4<;>rw [h4]
     ·exact ⟨_,(blk_cell hl 0).trans rfl⟩
     ·exact ⟨_,(blk_cell hl 1).trans rfl⟩
     ·exact ⟨_,(blk_cell hl 2).trans rfl⟩
    clear hi hch hm hl hy HMs8 HCh8 HI8;refine norm_ (a':=?_) ?_ ?_;rotate_left
    ·simp only [putAll, Act.put, List.setIfInBounds_toArray, List.set_cons_zero, List.set_cons_succ]
     rfl
    refine pS 10 95 (lA 15 2047) ?_;refine one_ (i:=11) (N:=some 96) (lA 15 4095) rfl rfl (by kernel_rfl) (by decide) (fun K hK=>?_);refine value_ (w1:=?_) (v:=?_) (by rfl) rfl ?_ ?_;rotate_left 2
    ·go_simp
     constructor
     ·rfl
     ·rfl
    refine hK.out _ _ (hHeld) (fun hHeld=>?_);clear hK K;refine nS 96 ?_;refine one_ (i:=12) (N:=some 97) (lA 15 8191) rfl rfl (by kernel_rfl) (by decide) (fun K hK=>?_);refine value_ (w1:=?_) (v:=?_) (by rfl) rfl ?_ ?_;rotate_left 2
    ·go_simp
     constructor
     ·rfl
     ·rfl
    refine hK.out _ _ ((pw_cell_below (below_alloc (Below.refl _ _) _) hHeld)) (fun hHeld=>?_);clear hK K;refine nS 97 ?_;refine last_ (i:=13) (N:=some 98) (lA 15 16383) rfl rfl (by kernel_rfl) (by decide) (fun K hK=>?_);refine Kd.R_append_step (Kd.int .i64) s1 (by rfl) (.tmp 85) (.tmp 97) 24 3 (.int .i64 0) 8 rfl Try.underlying24 info3 rfl (by decide) (by omega) (.slice A7 rt.length c7) rt z [.int .i64 z] (fun k=>k≠gw∧k≠gc) (fun _=>False) rfl rfl ?aP (fun _ hk=>hk.elim) ?aF ?aO (Below.refl _ _) ?aS ?aL ?_
    (case aP=>exact rfl)
    (case aF=>exact fun k hk=>by have:=HMs9.out.om.bw;have:=HMs9.out.om.bc;omega)
    (case aO=>exact HMs9.out.r7)
    (case aS=>have:=HMs9.out.om.bw;omega)
    (case aL=>have:=HMs9.out.l7;omega)
    intro v8 wb ho hbn hgr hat;obtain ⟨hd,hbm,hbz⟩:=HMs9.out.roots hgr ho (by have:=HMs9.out.l7;simp;omega);obtain ⟨AN,cN,eN⟩:=Kd.R_slice ho;subst eN;simp only [List.length_append,List.length_cons,List.length_nil,Nat.zero_add] at hd;have HD:=aK hd;have BMt:=aK hbm;have BZt:=aK hbz;have hbs: ∀k,(Value.slice A7 rt.length c7).ownBlock=some k→s1≤k:=fun k e=>Kd.R_base HMs9.out.h7 k e
    have HIt:=aK (HI9.out.grown hgr (fun e=>by have:=hbs g e.symm;have:=HG.out;have:=HMs9.out.ge;omega) (fun k e=>by have:=hbs k e;have:=HG.out;have:=HMs9.out.ge;omega));have HCht:=aK (HCh9.out.grown hgr (fun k e=> .inr (by have:=hbs k e;have:=HBW.out;have:=HMs9.out.ge;omega)));clear ho hbn hgr hat hd hbm hbz hbs HMs9 HI9 HCh9;refine hK.out _ _ ?_;clear hK K;refine nS 98 ?_;refine pS 14 7 (lA 15 32767) ?_;refine done_ (by kernel_rfl) ?_;go_wp2;go_meet;exact ⟨_,_,_,_,_,_,_,_,_,_,_,_,_,_,_,_,_,_,_,rfl,rfl,HD,BMt,BZt,⟨HIt.out.le (by omega)⟩,HCht⟩
   ·go_wp2_with (go_at_call 63; refine Classical.byContradiction (fun hng => ?_))
    refine hng ?_;clear hng;refine (off_any _ g w0 _ HI8.out zz48).mono ?_;rintro e w9 ⟨A9,c9,cs9,rfl,hl,hf,hV,hi,hk⟩;have hst:=HI8.out.step hi hk;have HIt:=aK hi;have HCht:=aK (HCh8.out.then_ hst);have HM9:=aK (HMs8.out.ch hst (fun k hk=>by have:=HG.out;omega));have HZ8:=aK (show gm<w8.heap.size from blk_lt HMs8.out.bm);have HD:=aK (show Dm w9 b0 (fun k=>b0≤k∧k≠gz) (.slice A9 cs9.length c9) (.slice (some ⟨gw,0,none⟩) ws.length cW) (.slice (some ⟨gc,0,none⟩) cards.length cC) (.slice A7 rt.length c7) cs9 ws cards rt from (by have hd:=HM9.out.dm.mono (fun k hk=>hk.1);exact Dm.mk (Kd.V_mono hV (fun k hk=>(show b0≤k∧k≠gz by have:=HZ8.out;have:=HM9.out.ge;omega))) hd.h0 hd.h4 hd.h7 ⟨hl.1,hl.2.1,hf⟩ hd.l0 hd.l4 hd.l7));have BMt:=aK HM9.out.bm;have BZt:=aK HM9.out.bz;clear hl hf hV hi hk hst HI8 HCh8 HMs8;go_wp2;go_meet;exact ⟨_,_,_,_,_,_,_,_,_,_,_,_,_,_,_,_,_,_,_,rfl,rfl,HD,BMt,BZt,⟨HIt.out.le (by omega)⟩,HCht⟩
   ·have k0 := (blk_cell HMs8.out.bm 0).trans rfl
    have p1:=eq_true HAt.out.1;have p2:=eq_true HAt.out.2;obtain ⟨x0,fx0⟩:=HMs8.out.om.wcell at_ HAt.out.1 HAt.out.2
    go_wp2_with ((with_reducible refine gate_store (t:=3) (p:=33) rfl ?_);refine Classical.byContradiction (fun hng=>?_))
    refine hng ?_;clear hng;refine store_event (t:=3) (p:=33) (v:=?vs9) (w1:=(w8.setCell ⟨gw,at_.toNat,none⟩ (.int .i64 300))) ?hg ?ho ?hn ?hr ?_
    (case ho=>rfl)
    (case hg=>rfl)
    (case hn=>rfl)
    (case hr=>first|(go_simp;done)|(go_simp;rfl))
    intro wa hw;clear k0 x0 fx0;have hO9:OM s1 gw cW gc cC wa (ws.set at_.toNat 300) cards:=by rw [hw];exact HMs8.out.om.setw at_ 300
    have hc9:Ch (fun z=>z=gw) w8 wa:=by rw [hw];exact (Ch.refl (fun z=>z=gw) _).set (.inl rfl) _
    have HMa:=aK (HMs8.out.word hc9 hO9 (List.length_set));have HD:=aK (HMa.out.dm.mono (fun k hk=>hk.1));have BMt:=aK HMa.out.bm;have BZt:=aK HMa.out.bz;have HIt:=aK (HI8.out.ch hc9 (by have:=HMs8.out.om.bw;have:=HMs8.out.ge;have:=HG.out;omega) (fun z hz=>by have:=HMs8.out.om.bw;have:=HMs8.out.ge;have:=HG.out;omega));have HCht:=aK (HCh8.out.trans hc9 (fun z hz=> .inr (by have:=HMs8.out.om.bw;have:=HMs8.out.ge;have:=HBW.out;omega)));clear hO9 hc9 hw HMs8 HI8 HCh8;simp only [List.length_set] at HD BMt;go_wp2;go_meet;exact ⟨_,_,_,_,_,_,_,_,_,_,_,_,_,_,_,_,_,_,_,rfl,rfl,HD,BMt,BZt,⟨HIt.out.le (by omega)⟩,HCht⟩
  case rest=>
   clear HMs8 HI8 HCh8 HAt hs;obtain ⟨A5,n5,c5,A0,n0,c0,A4,n4,c4,A9,n9,c9,cs',ws',y',t',o',cards',rt',rfl,rfl,HD,BMt,BZt,HIt,HCht⟩:=hcut;go_wp2;replace HD:=aK (HD.out.ch (Ch.drew (Ch.refl (fun _=>False) _)) (fun _ _ h=>h));replace BMt:=aK (blk_drew BMt.out);replace BZt:=aK (blk_drew BZt.out);replace HIt:=aK HIt.out.drew;replace HCht:=aK HCht.out.drew;have z0:=(blk_cell BZt.out 0).trans rfl;have z1:=(blk_cell BZt.out 1).trans rfl;have z2:=(blk_cell BZt.out 2).trans rfl;have z3:=(blk_cell BZt.out 3).trans rfl;have z4:=(blk_cell BZt.out 4).trans rfl;have y_0:=blk_frozen BZt.out 0;have y_1:=blk_frozen BZt.out 1;have y_2:=blk_frozen BZt.out 2;have y_3:=blk_frozen BZt.out 3;have y_4:=blk_frozen BZt.out 4;refine sT 6 (S:=fun w'=>w'.cell? ⟨gm,0,none⟩=some (.slice A0 n0 c0)∧w'.cell? ⟨gm,1,none⟩=some (.int .i64 y')∧w'.cell? ⟨gm,2,none⟩=some (.int .i64 t')∧w'.cell? ⟨gm,3,none⟩=some (.int .i64 o')∧w'.cell? ⟨gm,4,none⟩=some (.slice A4 n4 c4)) (ds:=[4]) ⟨((blk_cell BMt.out 0).trans rfl),((blk_cell BMt.out 1).trans rfl),((blk_cell BMt.out 2).trans rfl),((blk_cell BMt.out 3).trans rfl),((blk_cell BMt.out 4).trans rfl)⟩ (fun hHeld=>?_);generalize wc.drew=wt at HD BMt BZt HIt HCht z0 z1 z2 z3 z4 y_0 y_1 y_2 y_3 y_4 hHeld ⊢;refine pS 0 103 #[true,false,false,false,false,false] ?_;refine pS 2 105 #[true,false,true,false,false,false] ?_;refine pS 3 2 #[true,false,true,true,false,false] ?_;refine tS 1 104 #[true,true,true,true,false,false] rfl rfl (by kernel_rfl) hHeld zz15 ?_;refine last_ (i:=4) (N:=none) #[true,true,true,true,true,false] rfl rfl (by kernel_rfl) (by decide) (fun K hK=>?_);refine skip_ (w1:=?_) (by rfl) rfl ?_ ?_;rotate_left
   ·go_simp
    rfl
   refine hK.out _ _ ?_;clear hK K;refine pS 5 4 #[true,true,true,true,true,true] ?_;refine done_ (by kernel_rfl) ?_;clear z0 y_0 z1 y_1 z2 y_2 z3 y_3 z4 y_4;go_wp2;refine bodyPost_ret (results_list (rs:=[.tmp 2,.cell 3 27,.tmp 4]) rfl (by simp) (.tmp (.cell gz 27 #[.slice A0 n0 c0,.int .i64 y',.int .i64 t',.int .i64 o',.slice A4 n4 c4] (0,0) _ rfl (blk_box5 BZt.out) Try.underlying27 rfl (by kernel_rfl) (.tmp .nil)))) rfl ?_;exact (show Dm _ w.heap.size (fun k=>w.heap.size≤k∧k≠gz) _ _ _ _ _ _ _ _ by rw [←HBW.out];exact HD.out).ret HIt.out (by omega) HCht.out (by have:=HG.out;have:=HBW.out;omega) (by have:=HGz.out;have:=HBW.out;omega)
structure Dr (W:World) (ok:Nat→Prop) (A5:Option Addr) (c5:Nat) (A0:Option Addr) (c0:Nat) (A4:Option Addr) (c4:Nat) (cs:Cs) (ws:List Int) (cards:List Bool):Prop where
 h5:Kd.V k112 112 W 0 ok (.slice A5 cs.length c5) cs
 h0:Kd.V (Kd.int .i64) 3 W 0 ok (.slice A0 ws.length c0) ws
 h4:Kd.V Kd.bool 4 W 0 ok (.slice A4 cards.length c4) cards
 l5:1≤cs.length∧cs.length≤9∧∀x∈cs,x.f1.length≤3
 l0:1≤ws.length∧ws.length≤1000
 l4:cards.length≤1000
def DrawP (w:World) (e:Ending) (w':World):Prop:= ∃(A5:Option Addr) (c5:Nat) (A0:Option Addr) (c0:Nat) (A4:Option Addr) (c4:Nat) (cs:Cs) (ws:List Int) (y t o:Int) (cards:List Bool),e= .returned (.tuple #[.slice A5 cs.length c5,.agg #[.slice A0 ws.length c0,.int .i64 y,.int .i64 t,.int .i64 o,.slice A4 cards.length c4]])∧Dr w' (fun k=>w.heap.size≤k) A5 c5 A0 c0 A4 c4 cs ws cards∧Below w.heap.size w w'
section
variable {b0:Nat} {W w1:World} {A5 A0 A4:Option Addr} {c5 c0 c4:Nat} {v7:Value} {cs:Cs} {ws:List Int} {cards:List Bool} {rt:List Int} {ok ok' S:Nat→Prop}
theorem Dr.of (h:Dm W b0 ok (.slice A5 cs.length c5) (.slice A0 ws.length c0) (.slice A4 cards.length c4) v7 cs ws cards rt):Dr W ok A5 c5 A0 c0 A4 c4 cs ws cards:=⟨h.h5,h.h0,h.h4,h.l5,h.l0,h.l4⟩
theorem Dr.ch (h:Dr W ok A5 c5 A0 c0 A4 c4 cs ws cards) (hc:Ch S W w1) (hS: ∀k,ok k→¬S k):Dr w1 ok A5 c5 A0 c0 A4 c4 cs ws cards:=⟨Kd.V_kept h.h5 hc.kept hS,Kd.V_kept h.h0 hc.kept hS,Kd.V_kept h.h4 hc.kept hS,h.l5,h.l0,h.l4⟩
theorem Dr.below (h:Dr W ok A5 c5 A0 c0 A4 c4 cs ws cards) (hb:Below W.heap.size W w1):Dr w1 ok A5 c5 A0 c0 A4 c4 cs ws cards:=⟨Kd.V_below h.h5 hb,Kd.V_below h.h0 hb,Kd.V_below h.h4 hb,h.l5,h.l0,h.l4⟩
theorem Dr.mono (h:Dr W ok A5 c5 A0 c0 A4 c4 cs ws cards) (hS: ∀k,ok k→ok' k):Dr W ok' A5 c5 A0 c0 A4 c4 cs ws cards:=⟨Kd.V_mono h.h5 hS,Kd.V_mono h.h0 hS,Kd.V_mono h.h4 hS,h.l5,h.l0,h.l4⟩
theorem Dr.bound (h:Dr W ok A5 c5 A0 c0 A4 c4 cs ws cards):Dr W (fun k=>ok k∧k<W.heap.size) A5 c5 A0 c0 A4 c4 cs ws cards:=⟨Kd.V_bound h.h5,Kd.V_bound h.h0,Kd.V_bound h.h4,h.l5,h.l0,h.l4⟩
theorem Dr.C5 (h:Dr W ok A5 c5 A0 c0 A4 c4 cs ws cards):k112.C W A5 cs.length cs:=(Kd.V_reads' h.h5).2.2
theorem Dr.n5 (h:Dr W ok A5 c5 A0 c0 A4 c4 cs ws cards):cs.length≤c5:=(Kd.V_reads' h.h5).2.1
theorem Dr.C0 (h:Dr W ok A5 c5 A0 c0 A4 c4 cs ws cards):(Kd.int .i64).C W A0 ws.length ws:=(Kd.V_reads' h.h0).2.2
theorem Dr.n0 (h:Dr W ok A5 c5 A0 c0 A4 c4 cs ws cards):ws.length≤c0:=(Kd.V_reads' h.h0).2.1
theorem Dr.C4 (h:Dr W ok A5 c5 A0 c0 A4 c4 cs ws cards):Kd.bool.C W A4 cards.length cards:=(Kd.V_reads' h.h4).2.2
theorem Dr.n4 (h:Dr W ok A5 c5 A0 c0 A4 c4 cs ws cards):cards.length≤c4:=(Kd.V_reads' h.h4).2.1
end
set_option maxHeartbeats 16000000 in
set_option maxRecDepth 100000 in
theorem memok_any (AC:Option Addr) (cC:Nat) (lC:List Int) (w:World) (hr0:Kd.C (Kd.int .u8) w AC lC.length lC) (hc0:lC.length≤cC) (hl: ∀x∈lC,(Lit.int .u8 x).wf=true):
  Calls Try.prog 49 #[.slice AC lC.length cC] w (DrawP w):=by
 have HR0:=aK hr0;have HC0:=aK hc0;have HL:=aK hl;clear hr0 hc0 hl;go_enter Try.func49,Try.ntmps49
 go_wp2_with ((with_reducible refine gate_dst (N:=3) rfl ?_);refine Classical.byContradiction (fun hng=>?_))
 refine hng ?_;clear hng;refine box_event ?hg (N:=3) ?hd (cs:= #[.slice none 0 0,.int .i64 0,.int .i64 0,.int .i64 0,.slice none 0 0]) (t:=27) ?hr ?_
 (case hd=>rfl)
 (case hg=>rfl)
 (case hr=>first|(go_simp;done)|(go_simp;rfl))
 intro gz hg w1 hbox hb;have BZ1:=aK hbox;have HB1:=aK hb;have HGz:=aK (show w.heap.size≤gz by rw [hg];exact Nat.le_refl _);clear hb hbox hg
 go_wp2_with (go_at_call 30;refine Classical.byContradiction (fun hng=>?_))
 refine hng ?_;clear hng;refine (open_any AC cC lC _ (Kd.C_below HR0.out HB1.out) HC0.out HL.out).mono ?_;rintro e w2 ⟨g,rfl,hi,hge,hb⟩;have HI2:=aK hi;have HG:=aK (show gz<g from Nat.lt_of_lt_of_le (blk_lt BZ1.out) hge);have HB2:=aK (below_step HB1.out hb);have BZ2:=aK (blk_below BZ1.out hb);clear hi hge hb HB1 BZ1 HR0 HC0 HL
 go_wp2_with (go_at_call 31;refine Classical.byContradiction (fun hng=>?_))
 refine hng ?_;clear hng;refine (mem_any 0 g _ _ HI2.out (by omega)).mono ?_;rintro e w3 ⟨v5,v0,v4,v7,cs,ws,y,t,o,cards,rt,rfl,hd,hi,hc⟩;obtain ⟨A5,c5,rfl⟩:=Kd.V_slice hd.h5;obtain ⟨A0,c0,rfl⟩:=Kd.V_slice hd.h0;obtain ⟨A4,c4,rfl⟩:=Kd.V_slice hd.h4;have HD3:=aK ((Dr.of hd).bound.mono (ok':=fun k=>gz<k∧k<w3.heap.size) (fun k hk=>⟨by have:=hk.1;have:=blk_lt BZ2.out;omega,hk.2⟩));have HB3:=aK (HB2.out.trans (hc.toBelow (B:=w.heap.size) (below_size HB2.out) (fun k hk=>by have:=HG.out;have:=HGz.out;omega)));have BZ3:=aK (hc.blk BZ2.out (by have:=HG.out;omega));clear hd hi hc HB2 BZ2 HI2 HG
 go_wp2_with ((with_reducible refine gate_dst (N:=5) rfl ?_);refine Classical.byContradiction (fun hng=>?_))
 refine hng ?_;clear hng;refine box_event ?hg (N:=5) ?hd (cs:= #[.slice none 0 0,.int .i64 0,.int .i64 0,.int .i64 0,.slice none 0 0]) (t:=27) ?hr ?_
 (case hd=>rfl)
 (case hg=>rfl)
 (case hr=>first|(go_simp;done)|(go_simp;rfl))
 intro gm hg w4 hbox hb;have BM4:=aK hbox;have HD4:=aK ((HD3.out.below hb).mono (ok':=fun k=>gz<k∧k≠gm) (fun k hk=>⟨hk.1,by rw [hg];omega⟩));have HB4:=aK (below_step HB3.out hb);have BZ4:=aK (blk_below BZ3.out hb);have HGm:=aK (show gz<gm by rw [hg];exact blk_lt BZ3.out);clear hb hbox hg HD3 HB3 BZ3;have qc0:=(blk_cell BM4.out 0).trans rfl;have qc1:=(blk_cell BM4.out 1).trans rfl;have qc2:=(blk_cell BM4.out 2).trans rfl;have qc3:=(blk_cell BM4.out 3).trans rfl;have qc4:=(blk_cell BM4.out 4).trans rfl;have qf0:=blk_frozen BM4.out 0;have qf1:=blk_frozen BM4.out 1;have qf2:=blk_frozen BM4.out 2;have qf3:=blk_frozen BM4.out 3;have qf4:=blk_frozen BM4.out 4
 go_wp2_with ((with_reducible refine gate_store (t:=27) (p:=5) rfl ?_);refine Classical.byContradiction (fun hng=>?_))
 refine hng ?_;clear hng;refine store_event (t:=27) (p:=5) (v:=?vm1) (w1:=(memBox w4 gm (.slice A0 ws.length c0) (.int .i64 y) (.int .i64 t) (.int .i64 o) (.slice A4 cards.length c4))) ?hg ?ho ?hn ?hr ?_
 (case ho=>rfl)
 (case hg=>rfl)
 (case hn=>rfl)
 (case hr=>first|(go_simp;done)|(go_simp;rfl))
 intro w5 hw;have hc4:Ch (fun k=>k=gm) w4 w5:=by rw [hw];exact (Ch.refl (fun k=>k=gm) _).box5 (.inl rfl) _ _ _ _ _
 have HD5:=aK ((HD4.out.ch hc4 (fun k hk=>hk.2)).mono (ok':=fun k=>gz<k) (fun k hk=>hk.1));have BM5:=aK (show w5.heap[gm]? =some (.cells #[.slice A0 ws.length c0,.int .i64 y,.int .i64 t,.int .i64 o,.slice A4 cards.length c4] 27 (0,0)) by rw [hw];exact blk_box5 BM4.out);have BZ5:=aK (hc4.blk BZ4.out (by have:=HGm.out;omega));have HB5:=aK (HB4.out.trans (hc4.toBelow (B:=w.heap.size) (below_size HB4.out) (fun k hk=>by have:=HGm.out;have:=HGz.out;omega)));clear hw hc4 HD4 HB4 BZ4 BM4;clear qc0 qc1 qc2 qc3 qc4;clear qf0 qf1 qf2 qf3 qf4;go_wp2;replace HD5:=aK (HD5.out.ch (Ch.drew (Ch.refl (fun _=>False) _)) (fun _ _ h=>h));replace BM5:=aK (blk_drew BM5.out);replace BZ5:=aK (blk_drew BZ5.out);replace HB5:=aK (below_drew1 HB5.out);have z0:=(blk_cell BZ5.out 0).trans rfl;have z1:=(blk_cell BZ5.out 1).trans rfl;have z2:=(blk_cell BZ5.out 2).trans rfl;have z3:=(blk_cell BZ5.out 3).trans rfl;have z4:=(blk_cell BZ5.out 4).trans rfl;have y_0:=blk_frozen BZ5.out 0;have y_1:=blk_frozen BZ5.out 1;have y_2:=blk_frozen BZ5.out 2;have y_3:=blk_frozen BZ5.out 3;have y_4:=blk_frozen BZ5.out 4;refine sT 4 (S:=fun w'=>w'.cell? ⟨gm,0,none⟩=some (.slice A0 ws.length c0)∧w'.cell? ⟨gm,1,none⟩=some (.int .i64 y)∧w'.cell? ⟨gm,2,none⟩=some (.int .i64 t)∧w'.cell? ⟨gm,3,none⟩=some (.int .i64 o)∧w'.cell? ⟨gm,4,none⟩=some (.slice A4 cards.length c4)) (ds:=[3]) ⟨((blk_cell BM5.out 0).trans rfl),((blk_cell BM5.out 1).trans rfl),((blk_cell BM5.out 2).trans rfl),((blk_cell BM5.out 3).trans rfl),((blk_cell BM5.out 4).trans rfl)⟩ (fun hHeld=>?_);generalize w5.drew=wt at HD5 BM5 BZ5 HB5 z0 z1 z2 z3 z4 y_0 y_1 y_2 y_3 y_4 hHeld ⊢;refine pS 0 14 #[true,false,false,false] ?_;refine pS 2 2 #[true,false,true,false] ?_;refine tS 1 15 #[true,true,true,false] rfl rfl (by kernel_rfl) hHeld zz15 ?_;refine last_ (i:=3) (N:=none) #[true,true,true,true] rfl rfl (by kernel_rfl) (by decide) (fun K hK=>?_);refine skip_ (w1:=?_) (by rfl) rfl ?_ ?_;rotate_left
 ·go_simp
  rfl
 refine hK.out _ _ ?_;clear hK K;refine done_ (by kernel_rfl) ?_;clear z0 y_0 z1 y_1 z2 y_2 z3 y_3 z4 y_4;go_wp2;refine bodyPost_ret (results_list (rs:=[.tmp 2,.cell 3 27]) rfl (by simp) (.tmp (.cell gz 27 #[.slice A0 ws.length c0,.int .i64 y,.int .i64 t,.int .i64 o,.slice A4 cards.length c4] (0,0) _ rfl (blk_box5 BZ5.out) Try.underlying27 rfl (by kernel_rfl) .nil))) rfl ?_;exact ⟨A5,c5,A0,c0,A4,c4,cs,ws,y,t,o,cards,rfl,(HD5.out.ch (Ch.box5 (Ch.refl (fun k=>k=gz) _) (.inl rfl) _ _ _ _ _) (fun k hk=>by omega)).mono (fun k hk=>by have:=HGz.out;omega),HB5.out.trans ((Ch.box5 (Ch.refl (fun k=>k=gz) _) (.inl rfl) _ _ _ _ _).toBelow (below_size HB5.out) (fun k hk=>by have:=HGz.out;omega))⟩
set_option maxHeartbeats 16000000 in
set_option maxRecDepth 100000 in
theorem memobjs_any (AC:Option Addr) (cC:Nat) (lC:List Int) (w:World) (hr0:Kd.C (Kd.int .u8) w AC lC.length lC) (hc0:lC.length≤cC) (hl: ∀x∈lC,(Lit.int .u8 x).wf=true):
  Calls Try.prog 18 #[.slice AC lC.length cC] w (DrawP w):=by
 have HR0:=aK hr0;have HC0:=aK hc0;have HL:=aK hl;clear hr0 hc0 hl;go_enter Try.func18,Try.ntmps18
 go_wp2_with ((with_reducible refine gate_dst (N:=3) rfl ?_);refine Classical.byContradiction (fun hng=>?_))
 refine hng ?_;clear hng;refine box_event ?hg (N:=3) ?hd (cs:= #[.slice none 0 0,.int .i64 0,.int .i64 0,.int .i64 0,.slice none 0 0]) (t:=27) ?hr ?_
 (case hd=>rfl)
 (case hg=>rfl)
 (case hr=>first|(go_simp;done)|(go_simp;rfl))
 intro gz hg w1 hbox hb;have BZ1:=aK hbox;have HB1:=aK hb;have HGz:=aK (show w.heap.size≤gz by rw [hg];exact Nat.le_refl _);clear hb hbox hg
 go_wp2_with (go_at_call 49;refine Classical.byContradiction (fun hng=>?_))
 refine hng ?_;clear hng;refine (memok_any AC cC lC _ (Kd.C_below HR0.out HB1.out) HC0.out HL.out).mono ?_;rintro e w3 ⟨A5,c5,A0,c0,A4,c4,cs,ws,y,t,o,cards,rfl,hd,hb⟩;have HD3:=aK (hd.mono (ok':=fun k=>gz<k) (fun k hk=>by have:=blk_lt BZ1.out;omega));have HB3:=aK (below_step HB1.out hb);have BZ3:=aK (blk_below BZ1.out hb);clear hd hb HB1 BZ1 HR0 HC0 HL;have z0:=(blk_cell BZ3.out 0).trans rfl;have z1:=(blk_cell BZ3.out 1).trans rfl;have z2:=(blk_cell BZ3.out 2).trans rfl;have z3:=(blk_cell BZ3.out 3).trans rfl;have z4:=(blk_cell BZ3.out 4).trans rfl;have y_0:=blk_frozen BZ3.out 0;have y_1:=blk_frozen BZ3.out 1;have y_2:=blk_frozen BZ3.out 2;have y_3:=blk_frozen BZ3.out 3;have y_4:=blk_frozen BZ3.out 4;go_wp2;refine bodyPost_ret (results_list (rs:=[.tmp 2,.cell 3 27]) rfl (by simp) (.tmp (.cell gz 27 #[.slice A0 ws.length c0,.int .i64 y,.int .i64 t,.int .i64 o,.slice A4 cards.length c4] (0,0) _ rfl (blk_box5 BZ3.out) Try.underlying27 rfl (by kernel_rfl) .nil))) rfl ?_;exact ⟨A5,c5,A0,c0,A4,c4,cs,ws,y,t,o,cards,rfl,(HD3.out.ch (Ch.box5 (Ch.refl (fun k=>k=gz) _) (.inl rfl) _ _ _ _ _) (fun k hk=>by omega)).mono (fun k hk=>by have:=HGz.out;omega),HB3.out.trans ((Ch.box5 (Ch.refl (fun k=>k=gz) _) (.inl rfl) _ _ _ _ _).toBelow (below_size HB3.out) (fun k hk=>by have:=HGz.out;omega))⟩
end Go.Proofs.Ytnlieahdakafbaa.K
namespace Go.Proofs.Ytnlieahdakafbaa.K
open Go.RowKit Go.Proofs.YtnlieahdakafbaaW.PrintWords Go.Proofs.YtnlieahdakafbaaW.PrintLast Go.Proofs.YtnlieahdakafbaaW.PrintMore
attribute [local go_sem] max2_int min2_int max_two min_two max_three min_three max_four min_four
set_option linter.unusedVariables false
set_option linter.unusedSimpArgs false
def impl_leadingTo.f (a0:Int):Option (Bool×Int):=some (true,a0)
set_option maxHeartbeats 8000000 in
set_option maxRecDepth 100000 in
theorem impl_leadingTo.calls (a0:Int) (r1:Bool) (r2:Int) (w:World) (h:impl_leadingTo.f a0=some (r1,r2)):
  Calls Try.prog 86 #[.int .i64 a0] w fun e w'=>e= .returned (.agg #[.bool r1,.int .i64 r2])∧Below w.heap.size w w':=by
 have hu48:=Try.underlying48;have HB:=aK (Below.refl w.heap.size w);have H:(some (true,a0))=some (r1,r2):=h
 clear h;simp only [Option.some.injEq,Prod.mk.injEq] at H;obtain ⟨rfl,rfl⟩:=H;go_enter Try.func86,Try.ntmps86
 go_wp2_with (first|((with_reducible refine gate_dst (N:=2) rfl ?_);refine box_event ?hg (N:=2) ?hd (cs:= #[.bool false,.int .i64 0]) (t:=48) ?hr ?_;(case hd=>rfl);(case hg=>rfl);(case hr=>first|(go_simp;done)|(go_simp;rfl));intro gb386 hg w2 hbox hb;have BK386:=aK (hbox);have GW386:=aK ((by rw [hg];exact (below_size zz1):w.heap.size≤gb386));have GE386:=aK ((by rw [hg];exact (below_size zz1):w.heap.size≤gb386));replace HB:=aK (below_step zz1 hb);clear hb hbox hg;obtain ⟨hcz3_0,hcz3_1,hfz3_0,hfz3_1⟩:=cbf2 BK386))
 refine bodyPost_ret (results_cell_row rfl _ _ gb386 48 #[.bool true,.int .i64 a0] (0,0) _ rfl (by (with_reducible repeat (first|refine blk_drewN ?_ _|refine blk_drew ?_|refine blk_alloc ?_ _));refine blk_put (cs:= #[.bool true,.int .i64 0]) ?_ 1 _ rfl;(with_reducible repeat (first|refine blk_drewN ?_ _|refine blk_drew ?_|refine blk_alloc ?_ _));refine blk_put (cs:= #[.bool false,.int .i64 0]) ?_ 0 _ rfl;(with_reducible repeat (first|refine blk_drewN ?_ _|refine blk_drew ?_|refine blk_alloc ?_ _));exact BK386.out) Try.underlying48 rfl (by kernel_rfl)) rfl ?_;exact ⟨zz7,(by repeat (first|(with_reducible first|exact HB.out|apply below_alloc|apply pw_below_drewN|apply below_drew1|refine below_set ?_ GE386.out)|exact HB.out))⟩
def memory_number.f (k:Nat) (m:Mm) (at_:Int):Option Int:=if at_=0 then some 0 else (slices_BinarySearch_int_int.f k m.begins at_).bind fun p=>some (wrap64 (p.1+1))
set_option maxHeartbeats 4000000 in
set_option maxRecDepth 100000 in
theorem memory_number.calls (k:Nat) (g:Nat) (m:Mm) (at_ r:Int) (w:World) (hm:MV w g m) (h:memory_number.f k m at_=some r):
  Calls Try.prog 87 #[.pointer (some ⟨g,0,none⟩),.int .i64 at_] w fun e w'=>e= .returned (.int .i64 r)∧Below w.heap.size w w':=by
 unfold memory_number.f at h;by_cases c0:at_=0
 ·rw [if_pos c0] at h
  obtain rfl:=Option.some.inj h;have d0:(at_==0)=true:=beq_iff_eq.mpr c0
  clear c0 h;go_enter Try.func87,Try.ntmps87;go_wp2;go_ret;exact ⟨rfl,by repeat (first|exact Below.refl _ _|apply below_alloc|apply pw_below_drewN|apply below_drew1)⟩
 rw [if_neg c0] at h;have d0:(at_==0)=false:=beq_eq_false_iff_ne.mpr c0
 obtain ⟨⟨p1,p2⟩,hp,h⟩:=Option.bind_eq_some_iff.mp h;have HR:=aK (Option.some.inj h);have HP:=aK hp;obtain ⟨AW,cW,AC,cC,AF,cF,AB,cB,h0,_,_,_,hB,_,_,_,lB⟩:=hm;have HBg:=aK hB;have HL:=aK lB;have g6:=(blk_cell h0 6).trans rfl;clear hp h h0 hB lB c0;go_enter Try.func87,Try.ntmps87
 go_wp2_with (go_at_call 90;refine (slices_BinarySearch_int_int.calls k AB cB m.begins at_ p1 p2 _ HBg.out HL.out HP.out).mono ?_;rintro e w' ⟨rfl,⟨nd,rfl⟩⟩)
 go_ret;exact ⟨by rw [←HR.out,←i64_w];rfl,(Drawn0.step (Drawn0.refl _) _).below⟩
end Go.Proofs.Ytnlieahdakafbaa.K
