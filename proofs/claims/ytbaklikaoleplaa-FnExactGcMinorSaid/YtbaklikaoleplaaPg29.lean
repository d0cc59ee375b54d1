import Derived.Test.YtbaklikaoleplaaPg24
import Derived.Test.YtbaklikaoleplaaPg28
import Derived.Test.YtbaklikaoleplaaPg27
import Derived.Lib.SliceRun
namespace Go.Proofs.Ytbaklikaoleplaa.K
open Go.RowKit Go.Proofs.YtbaklikaoleplaaW.PrintWords Go.Proofs.YtbaklikaoleplaaW.PrintLast Go.Proofs.YtbaklikaoleplaaW.PrintMore
attribute [local go_sem] max2_int min2_int max_two min_two max_three min_three max_four min_four
set_option linter.unusedVariables false
set_option linter.unusedSimpArgs false
structure Mg (b:Nat) (w0:World) (g gm B gw cW:Nat) (AC:Option Addr) (cC:Nat) (AO:Option Addr) (cO:Nat) (w:World) (s:Mv) (M:List (Int×Int)):Prop where
 bx:w.heap[gm]? =some (.cells #[.pointer (some ⟨g,0,none⟩),.slice (some ⟨gw,0,none⟩) s.tw.length cW,.int .i64 s.y,.int .i64 s.t,.int .i64 s.o,.slice AC s.tc.length cC,.map (some B),.slice AO s.mv.length cO,.bool s.full] 90 (0,0))
 ge:b≤gm∧b≤B
 rw_:Kd.R (Kd.int .i64) 3 w b (fun k=>k≠gm∧k≠B) (.slice (some ⟨gw,0,none⟩) s.tw.length cW) s.tw
 rc:Kd.R Kd.bool 4 w b (fun k=>k≠gm∧k≠B∧k≠gw) (.slice AC s.tc.length cC) s.tc
 ro:Kd.R (Kd.int .i64) 3 w b (fun k=>(k≠gm∧k≠B∧k≠gw)∧some k≠(Value.slice AC s.tc.length cC).ownBlock) (.slice AO s.mv.length cO) (s.mv.map Prod.fst)
 mp:OwnsM w B M
 be:Below b w0 w
 sz:b≤w.heap.size
theorem KeepO.of_ch {S:Nat→Prop} {w w1:World} (hc:Ch S w w1) (hne: ∀(k:Nat) (c:Array Value) (t:Nat),t≠3∧t≠4∧t≠90→w.heap[k]? =some (.cells c t (0,0))→¬S k):KeepO w w1:=
  fun k c t ht hb=>hc.blk hb (hne k c t (by omega) hb)
section
variable {b g gm B gw cW cC cO:Nat} {w0 w w1:World} {AC AO:Option Addr} {s:Mv} {M M':List (Int×Int)}
theorem Mg.gwb (h:Mg b w0 g gm B gw cW AC cC AO cO w s M):gw≠gm∧gw≠B:=h.rw_.1 gw rfl
theorem Mg.gwge (h:Mg b w0 g gm B gw cW AC cC AO cO w s M):b≤gw:=Kd.R_base h.rw_ gw rfl
theorem Mg.Bgm (h:Mg b w0 g gm B gw cW AC cC AO cO w s M):B≠gm:=fun e=>h.mp.nc (by rw [e];exact h.bx)
theorem Mg.step (h:Mg b w0 g gm B gw cW AC cC AO cO w s M) {S:Nat→Prop} (hc:Ch S w w1) (hS: ∀k,S k→b≤k):Below b w0 w1∧b≤w1.heap.size:=⟨h.be.trans (hc.toBelow h.sz hS),Nat.le_trans h.sz hc.size⟩
theorem Mg.below (h:Mg b w0 g gm B gw cW AC cC AO cO w s M) (hb:Below w.heap.size w w1):Mg b w0 g gm B gw cW AC cC AO cO w1 s M:=
  ⟨blk_below h.bx hb,h.ge,Kd.R_below h.rw_ hb,Kd.R_below h.rc hb,Kd.R_below h.ro hb,h.mp.heap (hb.block B h.mp.lt),h.be.trans (hb.mono h.sz),Nat.le_trans h.sz hb.size⟩
theorem Mg.words (h:Mg b w0 g gm B gw cW AC cC AO cO w s M) (hc:Ch (fun k=>k=gw) w w1) {tw:List Int} (hr:Kd.R (Kd.int .i64) 3 w1 b (fun k=>k≠gm∧k≠B) (.slice (some ⟨gw,0,none⟩) s.tw.length cW) tw) (hl:tw.length=s.tw.length):
  Mg b w0 g gm B gw cW AC cC AO cO w1 {s with tw:=tw} M∧KeepO w w1:=by
 have hg:=h.gwb;have hs:=h.step hc (fun k hk=>by rw [hk];exact h.gwge);refine ⟨⟨?_,h.ge,?_,hc.R h.rc (fun k hk=>hk.2.2),hc.R h.ro (fun k hk=>hk.1.2.2),h.mp.heap (hc.block B h.mp.lt (fun e=>hg.2 e.symm)),hs.1,hs.2⟩,KeepO.of_ch hc (fun k c t ht hb e=>?_)⟩
 ·show w1.heap[gm]? = some (.cells #[.pointer (some ⟨g, 0, none⟩), .slice (some ⟨gw, 0, none⟩) tw.length cW, .int .i64 s.y, .int .i64 s.t, .int .i64 s.o, .slice AC s.tc.length cC, .map (some B), .slice AO s.mv.length cO, .bool s.full] 90 (0, 0))
  rw [hl];exact hc.blk h.bx (fun e=>hg.1 e.symm)
 ·show Kd.R (Kd.int .i64) 3 w1 b _ (.slice (some ⟨gw, 0, none⟩) tw.length cW) tw
  rw [hl];exact hr
 ·rw [e] at hb
  exact Kd.R_ne h.rw_ hb (fun e=>ht.1 e.symm) rfl
theorem Mg.map (h:Mg b w0 g gm B gw cW AC cC AO cO w s M) (hc:Ch (fun k=>k=B) w w1) (ho:OwnsM w1 B M'):Mg b w0 g gm B gw cW AC cC AO cO w1 s M'∧KeepO w w1:=by
  have hs:=h.step hc (fun k hk=>by rw [hk];exact h.ge.2);exact ⟨⟨hc.blk h.bx (fun e=>h.Bgm e.symm),h.ge,hc.R h.rw_ (fun k hk=>hk.2),hc.R h.rc (fun k hk=>hk.2.1),hc.R h.ro (fun k hk=>hk.1.2.1),ho,hs.1,hs.2⟩,KeepO.of_ch hc (fun k c t _ hb e=>h.mp.nc (by rw [←e];exact hb))⟩
theorem Mg.chgm (hn:Mg b w0 g gm B gw cW AC cC AO cO w s M) (i:Nat) (v:Value):Ch (fun k=>k=gm) w (w.setCell ⟨gm,i,none⟩ v)∧KeepO w (w.setCell ⟨gm,i,none⟩ v):=by
 have hc:Ch (fun k=>k=gm) w (w.setCell ⟨gm,i,none⟩ v):=(Ch.refl (fun k=>k=gm) w).set (p:=⟨gm,i,none⟩) (.inl rfl) _
 refine ⟨hc,KeepO.of_ch hc (fun k c t ht hb e=>?_)⟩;rw [e,hn.bx] at hb;injection hb with hb;injection hb with _ hb;exact ht.2.2 hb.symm
theorem Mg.cell (h:Mg b w0 g gm B gw cW AC cC AO cO w s M) {s':Mv} (hc:Ch (fun k=>k=gm) w w1) (hb:w1.heap[gm]? =some (.cells #[.pointer (some ⟨g,0,none⟩),.slice (some ⟨gw,0,none⟩) s'.tw.length cW,.int .i64 s'.y,.int .i64 s'.t,.int .i64 s'.o,.slice AC s'.tc.length cC,.map (some B),.slice AO s'.mv.length cO,.bool s'.full] 90 (0,0)))
  (e1:s'.tw=s.tw) (e2:s'.tc=s.tc) (e3:s'.mv=s.mv):Mg b w0 g gm B gw cW AC cC AO cO w1 s' M:=by
 have hs:=h.step hc (fun k hk=>by rw [hk];exact h.ge.1);exact ⟨hb,h.ge,by rw [e1];exact hc.R h.rw_ (fun k hk=>hk.1),by rw [e2];exact hc.R h.rc (fun k hk=>hk.1),by rw [e2,e3];exact hc.R h.ro (fun k hk=>hk.1.1),h.mp.heap (hc.block B h.mp.lt h.Bgm),hs.1,hs.2⟩
theorem Mg.fullS (h:Mg b w0 g gm B gw cW AC cC AO cO w s M) (f:Bool):Mg b w0 g gm B gw cW AC cC AO cO (w.setCell ⟨gm,8,none⟩ (.bool f)) {s with full:=f} M∧KeepO w (w.setCell ⟨gm,8,none⟩ (.bool f)):=
  ⟨h.cell (h.chgm 8 _).1 (blk_put h.bx 8 _ rfl) rfl rfl rfl,(h.chgm 8 _).2⟩
theorem Mg.oldS (h:Mg b w0 g gm B gw cW AC cC AO cO w s M) (o:Int):Mg b w0 g gm B gw cW AC cC AO cO (w.setCell ⟨gm,4,none⟩ (.int .i64 o)) {s with o:=o} M∧KeepO w (w.setCell ⟨gm,4,none⟩ (.int .i64 o)):=
  ⟨h.cell (h.chgm 4 _).1 (blk_put h.bx 4 _ rfl) rfl rfl rfl,(h.chgm 4 _).2⟩
theorem Mg.topS (h:Mg b w0 g gm B gw cW AC cC AO cO w s M) (o:Int):Mg b w0 g gm B gw cW AC cC AO cO (w.setCell ⟨gm,3,none⟩ (.int .i64 o)) {s with t:=o} M∧KeepO w (w.setCell ⟨gm,3,none⟩ (.int .i64 o)):=
  ⟨h.cell (h.chgm 3 _).1 (blk_put h.bx 3 _ rfl) rfl rfl rfl,(h.chgm 3 _).2⟩
theorem Mg.ord (h:Mg b w0 g gm B gw cW AC cC AO cO w s M) {AN:Option Addr} {cN:Nat} {ys:List Int} (p:Int×Int) (hy:ys=s.mv.map Prod.fst++[p.1]) (hr:Kd.R (Kd.int .i64) 3 w1 b (fun k=>(k≠gm∧k≠B∧k≠gw)∧some k≠(Value.slice AC s.tc.length cC).ownBlock) (.slice AN ys.length cN) ys)
  (hgr:w.grownBy w1 (Value.slice AO s.mv.length cO).ownBlock):Mg b w0 g gm B gw cW AC cC AN cN (w1.setCell ⟨gm,7,none⟩ (.slice AN ys.length cN)) {s with mv:=s.mv++[p]} M∧KeepO w (w1.setCell ⟨gm,7,none⟩ (.slice AN ys.length cN))∧w1.heap[gm]? =w.heap[gm]? :=by
 have hc:Ch (fun k=>some k=(Value.slice AO s.mv.length cO).ownBlock) w w1:=⟨hgr.os,hgr.tape,hgr.output,hgr.size,fun k hk hn=>hgr.block k hk hn⟩
 have hl:ys.length=(s.mv++[p]).length:=by rw [hy];simp
 have hob:=fun k (hk:some k=(Value.slice AO s.mv.length cO).ownBlock)=>h.ro.1 k hk.symm
 have hb1:w1.heap[gm]? =some (.cells #[.pointer (some ⟨g,0,none⟩),.slice (some ⟨gw,0,none⟩) s.tw.length cW,.int .i64 s.y,.int .i64 s.t,.int .i64 s.o,.slice AC s.tc.length cC,.map (some B),.slice AO s.mv.length cO,.bool s.full] 90 (0,0)):=hc.blk h.bx (fun e=>(hob gm e).1.1 rfl)
 have hs:=h.step hc (fun k hk=>Kd.R_base h.ro k hk.symm)
 have hr1:Kd.R (Kd.int .i64) 3 w1 b (fun k=>k≠gm∧k≠B) (.slice (some ⟨gw,0,none⟩) s.tw.length cW) s.tw:=
  Kd.R_of_own (enc:=Value.int .i64) (h1:=fun _=>rfl) (Kd.own_of_R (enc:=Value.int .i64) (h1:=fun _=>rfl) (hc.R (ok:=fun k=>k=gw) (Kd.R_of_own (enc:=Value.int .i64) (h1:=fun _=>rfl) (Kd.own_of_R (enc:=Value.int .i64) (h1:=fun _=>rfl) h.rw_) (fun k hk=>by injection hk with hk;exact hk.symm)) (fun k hk e=>(hob k e).1.2.2 hk))) h.rw_.1
 have hr2:Kd.R Kd.bool 4 w1 b (fun k=>k≠gm∧k≠B∧k≠gw) (.slice AC s.tc.length cC) s.tc:=
  Kd.R_of_own (enc:=Value.bool) (h1:=fun _=>rfl) (Kd.own_of_R (enc:=Value.bool) (h1:=fun _=>rfl) (hc.R (ok:=fun k=>(Value.slice AC s.tc.length cC).ownBlock=some k) (Kd.R_of_own (enc:=Value.bool) (h1:=fun _=>rfl) (Kd.own_of_R (enc:=Value.bool) (h1:=fun _=>rfl) h.rc) (fun k hk=>hk)) (fun k hk e=>(hob k e).2 hk.symm))) h.rc.1
 have hc2:Ch (fun k=>k=gm) w1 (w1.setCell ⟨gm,7,none⟩ (.slice AN ys.length cN)):=(Ch.refl (fun k=>k=gm) w1).set (p:=⟨gm,7,none⟩) (.inl rfl) _
 have hmB:w1.heap[B]? =w.heap[B]? :=hc.block B h.mp.lt (fun e=>(hob B e).1.2.1 rfl)
 refine ⟨⟨?_,h.ge,hc2.R hr1 (fun k hk=>hk.1),hc2.R hr2 (fun k hk=>hk.1),?_,(h.mp.heap hmB).heap (hc2.block B (by have:=h.mp.lt;have:=hc.size;omega) h.Bgm),hs.1.trans (hc2.toBelow hs.2 (fun k hk=>by rw [hk];exact h.ge.1)),Nat.le_trans hs.2 hc2.size⟩,?_,hb1.trans h.bx.symm⟩
 ·show (w1.setCell ⟨gm, 7, none⟩ (.slice AN ys.length cN)).heap[gm]? = some (.cells #[.pointer (some ⟨g, 0, none⟩), .slice (some ⟨gw, 0, none⟩) s.tw.length cW, .int .i64 s.y, .int .i64 s.t, .int .i64 s.o, .slice AC s.tc.length cC, .map (some B), .slice AN (s.mv ++ [p]).length cN, .bool s.full] 90 (0, 0))
  rw [←hl];exact blk_put hb1 7 _ rfl
 ·show Kd.R (Kd.int .i64) 3 _ b _ (.slice AN (s.mv ++ [p]).length cN) ((s.mv ++ [p]).map Prod.fst)
  rw [←hl,show (s.mv++[p]).map Prod.fst=ys by rw [hy];simp];exact hc2.R hr (fun k hk=>hk.1.1)
 ·refine (KeepO.of_ch hc (fun k c t ht hb e => Kd.R_ne h.ro hb (fun e => ht.1 e.symm) e)).trans (KeepO.of_ch hc2 (fun k c t ht hb e => ?_))
  rw [e,hb1] at hb;injection hb with hb;injection hb with _ hb;exact ht.2.2 hb.symm
end
section
variable {b g gm B gw cW cC cO:Nat} {w0 w w1:World} {AC AO:Option Addr} {s:Mv} {M M':List (Int×Int)}
theorem Mg.far (h:Mg b w0 g gm B gw cW AC cC AO cO w s M) {q t:Nat} {c:Array Value} (hq:w.heap[q]? =some (.cells c t (0,0))) (ht:t≠3∧t≠4∧t≠90) (hc:Ch (fun k=>k=q) w w1) (hb:b≤q):Mg b w0 g gm B gw cW AC cC AO cO w1 s M:=by
 have hs:=h.step hc (fun k hk=>by rw [hk];exact hb);have e1:some q≠(Value.slice (some ⟨gw,0,none⟩) s.tw.length cW).ownBlock:=Kd.R_ne h.rw_ hq (fun e=>ht.1 e.symm)
 have e2:some q≠(Value.slice AC s.tc.length cC).ownBlock:=Kd.R_ne h.rc hq (fun e=>ht.2.1 e.symm)
 have e3:some q≠(Value.slice AO s.mv.length cO).ownBlock:=Kd.R_ne h.ro hq (fun e=>ht.1 e.symm)
 refine ⟨hc.blk h.bx (fun e=>?_),h.ge,?_,?_,?_,h.mp.heap (hc.block B h.mp.lt (fun e=>h.mp.nc (by rw [e];exact hq))),hs.1,hs.2⟩
 ·rw [← e, h.bx] at hq
  injection hq with hq;injection hq with _ hq;exact ht.2.2 hq.symm
 ·exact Kd.R_mono (hc.R (ok:=fun k=>(k≠gm∧k≠B)∧k≠q) (Kd.R_of_own (enc:=Value.int .i64) (h1:=fun _=>rfl) (Kd.own_of_R (enc:=Value.int .i64) (h1:=fun _=>rfl) h.rw_) (fun k hk=>⟨h.rw_.1 k hk,fun e=>e1 (by rw [←e];exact hk.symm)⟩)) (fun k hk=>hk.2)) (fun k hk=>hk.1)
 ·exact Kd.R_mono (hc.R (ok:=fun k=>(k≠gm∧k≠B∧k≠gw)∧k≠q) (Kd.R_of_own (enc:=Value.bool) (h1:=fun _=>rfl) (Kd.own_of_R (enc:=Value.bool) (h1:=fun _=>rfl) h.rc) (fun k hk=>⟨h.rc.1 k hk,fun e=>e2 (by rw [←e];exact hk.symm)⟩)) (fun k hk=>hk.2)) (fun k hk=>hk.1)
 ·exact Kd.R_mono (hc.R (ok:=fun k=>((k≠gm∧k≠B∧k≠gw)∧some k≠(Value.slice AC s.tc.length cC).ownBlock)∧k≠q) (Kd.R_of_own (enc:=Value.int .i64) (h1:=fun _=>rfl) (Kd.own_of_R (enc:=Value.int .i64) (h1:=fun _=>rfl) h.ro) (fun k hk=>⟨h.ro.1 k hk,fun e=>e3 (by rw [←e];exact hk.symm)⟩)) (fun k hk=>hk.2)) (fun k hk=>hk.1)
end
section
variable {b g gm B gw cW cC cO:Nat} {w0 w w1:World} {AC AO:Option Addr} {s:Mv} {M M':List (Int×Int)}
theorem Mg.cardsK (h:Mg b w0 g gm B gw cW AC cC AO cO w s M) (hc:Ch (fun k=>some k=(Value.slice AC s.tc.length cC).ownBlock) w w1):KeepO w w1:=KeepO.of_ch hc (fun k c t ht hb e=>Kd.R_ne h.rc hb (fun e=>ht.2.1 e.symm) e)
theorem Mg.cards (h:Mg b w0 g gm B gw cW AC cC AO cO w s M) (hc:Ch (fun k=>some k=(Value.slice AC s.tc.length cC).ownBlock) w w1) (hr:Kd.R Kd.bool 4 w1 b (fun k=>k≠gm∧k≠B∧k≠gw) (.slice AC s.tc.length cC) (List.replicate s.tc.length false)):
  Mg b w0 g gm B gw cW AC cC AO cO w1 {s with tc:=List.replicate s.tc.length false} M:=by
 have hob:=fun k (hk:some k=(Value.slice AC s.tc.length cC).ownBlock)=>h.rc.1 k hk.symm
 have hs:=h.step hc (fun k hk=>Kd.R_base h.rc k hk.symm);have hl:(List.replicate s.tc.length false).length=s.tc.length:=List.length_replicate
 refine ⟨?_,h.ge,?_,?_,?_,h.mp.heap (hc.block B h.mp.lt (fun e=>(hob B e).2.1 rfl)),hs.1,hs.2⟩
 ·show w1.heap[gm]? = some (.cells #[.pointer (some ⟨g, 0, none⟩), .slice (some ⟨gw, 0, none⟩) s.tw.length cW, .int .i64 s.y, .int .i64 s.t, .int .i64 s.o, .slice AC (List.replicate s.tc.length false).length cC, .map (some B), .slice AO s.mv.length cO, .bool s.full] 90 (0, 0))
  rw [hl];exact hc.blk h.bx (fun e=>(hob gm e).1 rfl)
 ·exact Kd.R_of_own (enc:=Value.int .i64) (h1:=fun _=>rfl) (Kd.own_of_R (enc:=Value.int .i64) (h1:=fun _=>rfl) (hc.R (ok:=fun k=>k=gw) (Kd.R_of_own (enc:=Value.int .i64) (h1:=fun _=>rfl) (Kd.own_of_R (enc:=Value.int .i64) (h1:=fun _=>rfl) h.rw_) (fun k hk=>by injection hk with hk;exact hk.symm)) (fun k hk e=>(hob k e).2.2 hk))) h.rw_.1
 ·show Kd.R Kd.bool 4 w1 b _ (.slice AC (List.replicate s.tc.length false).length cC) (List.replicate s.tc.length false)
  rw [hl];exact hr
 ·show Kd.R (Kd.int .i64) 3 w1 b (fun k => (k ≠ gm ∧ k ≠ B ∧ k ≠ gw) ∧ some k ≠ (Value.slice AC (List.replicate s.tc.length false).length cC).ownBlock) (.slice AO s.mv.length cO) (s.mv.map Prod.fst)
  rw [hl];exact hc.R h.ro (fun k hk=>hk.2)
end
set_option maxHeartbeats 8000000 in
set_option maxRecDepth 100000 in
theorem newMover.calls (g:Nat) (v0 v4:Value) (y t o:Int) (hv0: ∃A n c,v0= .slice A n c) (hv4: ∃A n c,v4= .slice A n c) (w:World):
  Calls Try.prog 51 #[.pointer (some ⟨g,0,none⟩),.agg #[v0,.int .i64 y,.int .i64 t,.int .i64 o,v4]] w fun e w'=> ∃gm B,e= .returned (.pointer (some ⟨gm,0,none⟩))∧
   w'.heap[gm]? =some (.cells #[.pointer (some ⟨g,0,none⟩),v0,.int .i64 y,.int .i64 t,.int .i64 o,v4,.map (some B),.slice none 0 0,.bool false] 90 (0,0))∧OwnsM w' B []∧(w.heap.size≤gm∧w.heap.size≤B)∧Below w.heap.size w w':=by
 obtain ⟨A0,n0,c0,rfl⟩:=hv0;obtain ⟨A4,n4,c4,rfl⟩:=hv4;have HB:=aK (Below.refl w.heap.size w);have hmm:=@run_makeMap Try.prog;go_enter Try.func51,Try.ntmps51
 go_wp2_with ((with_reducible refine gate_dst (N:=3) rfl ?_);refine Classical.byContradiction (fun hng=>?_))
 refine hng ?_;clear hng;refine box_event ?hg (N:=3) ?hd (cs:= #[.slice A0 n0 c0,.int .i64 y,.int .i64 t,.int .i64 o,.slice A4 n4 c4]) (t:=29) ?hr ?_
 (case hd=>rfl)
 (case hg=>rfl)
 (case hr=>first|(go_simp;done)|(go_simp;rfl))
 intro gp hg w1 hbox hb;have BP:=aK hbox;replace HB:=aK (below_step HB.out hb);have q0:=(blk_cell hbox 0).trans rfl;have q1:=(blk_cell hbox 1).trans rfl;have q2:=(blk_cell hbox 2).trans rfl;have q3:=(blk_cell hbox 3).trans rfl;have q4:=(blk_cell hbox 4).trans rfl;clear hb hbox hg
 go_wp2_with ((with_reducible refine gate_dst (N:=9) rfl ?_);refine Classical.byContradiction (fun hng=>?_))
 refine hng ?_;clear hng;have HM:=aK (show OwnsM (w1.alloc (.map #[] 0)) w1.heap.size [] from ⟨_,World.ownsMap_made _ _ _ _,MapIs.nil⟩);have HBm:=aK (below_alloc HB.out (.map #[] 0));have HSz:=aK (below_size HB.out);refine box_event ?hg (N:=9) ?hd (cs:= #[.pointer (some ⟨g,0,none⟩),.slice A0 n0 c0,.int .i64 y,.int .i64 t,.int .i64 o,.slice A4 n4 c4,.map (some w1.heap.size),.slice none 0 0,.bool false]) (t:=90) ?hr ?_
 (case hd=>rfl)
 (case hg=>rfl)
 (case hr=>first|(go_simp;done)|(go_simp;rfl))
 intro gm hg w3 hbox hb;have BG:=aK hbox;have HM3:=aK (HM.out.heap (hb.block _ HM.out.lt));have HB3:=aK (below_step HBm.out hb);have HG:=aK (show w.heap.size≤gm by rw [hg];exact below_size HBm.out);clear hb hbox hg q0 q1 q2 q3 q4;go_wp2;go_ret;exact ⟨gm,w1.heap.size,rfl,BG.out,HM3.out,⟨HG.out,HSz.out⟩,HB3.out⟩
def splI (xs:List Int) (i:Nat) (ys:List Int):List Int:=xs.take i++ys++xs.drop (i+ys.length)
def moveF (m:Mm) (s:Mv) (a:Int):Option Mv:=
 if (lookM s.mv a).isSome=true∨s.full=true then some s
 else (thing_size.f m a).bind fun z=>
  if z>(s.tw.length:Int) - s.o then some {s with full:=true}
  else if 1≤a∧0<z∧a - 1+z≤m.words.length∧0≤s.o∧m.words.length≤2000000∧s.tw.length≤2000000∧s.mv.length<2000000 then some {s with tw:=splI s.tw s.o.toNat ((m.words.take (a - 1+z).toNat).drop (a - 1).toNat),o:=s.o+z,mv:=s.mv++[(a,s.o+1)]}
  else none
def MvPost (b:Nat) (w0:World) (g gm B gw cW:Nat) (AC:Option Addr) (cC:Nat) (s':Mv) (w:World) (e:Ending) (w':World):Prop:=e= .returned (.tuple #[])∧∃(AO:Option Addr) (cO:Nat),Mg b w0 g gm B gw cW AC cC AO cO w' s' s'.mv∧KeepO w w'
set_option maxHeartbeats 16000000 in
set_option maxRecDepth 100000 in
theorem mover_move.calls (b:Nat) (w0:World) (g gm B gw cW:Nat) (AC:Option Addr) (cC:Nat) (AO:Option Addr) (cO:Nat) (m:Mm) (s s':Mv) (a:Int) (w:World) (hm:MV w0 g m) (hb0:b=w0.heap.size) (hg:Mg b w0 g gm B gw cW AC cC AO cO w s s.mv) (ha:wfI a) (ho: -2000000≤s.o∧s.o≤2000000) (hl:s.tw.length≤2000000) (h:moveF m s a=some s'):
  Calls Try.prog 82 #[.pointer (some ⟨gm,0,none⟩),.int .i64 a] w (MvPost b w0 g gm B gw cW AC cC s' w):=by
 subst hb0;have hmw:MV w g m:=MV_below hm hg.be
 have HM:=aK hmw;have HM0:=aK hm;have HG:=aK hg;have HWF:=aK ha;have HSO:=aK (And.intro ho hl);have hlk:=hg.mp.look ha 88 Try.underlying88;have HK:=aK (KeepO.refl w);clear hmw hm hg ha ho hl;unfold moveF at h;have q0:=(blk_cell HG.out.bx 0).trans rfl;have q1:=(blk_cell HG.out.bx 1).trans rfl;have q2:=(blk_cell HG.out.bx 2).trans rfl;have q3:=(blk_cell HG.out.bx 3).trans rfl;have q4:=(blk_cell HG.out.bx 4).trans rfl;have q5:=(blk_cell HG.out.bx 5).trans rfl;have q6:=(blk_cell HG.out.bx 6).trans rfl;have q7:=(blk_cell HG.out.bx 7).trans rfl;have q8:=(blk_cell HG.out.bx 8).trans rfl
 cases hm_:lookM s.mv a with
 |some r=>
  rw [hm_] at hlk h;simp only [Option.getD_some,Option.isSome_some] at hlk;simp only [Option.isSome_some,true_or,if_true] at h;obtain rfl:=Option.some.inj h;clear h hm_;go_enter Try.func82,Try.ntmps82;go_wp2
  go_end0
  exact ⟨rfl,_,_,HG.out,HK.out⟩
 | none =>
  rw [hm_] at hlk h;simp only [Option.getD_none,Option.isSome_none] at hlk;have HNo:=aK hm_;clear hm_
  cases hf:s.full with
  |true=>
   rw [hf] at h;rw [if_pos (Or.inr rfl)] at h;obtain rfl:=Option.some.inj h;rw [hf] at q8;clear h;go_enter Try.func82,Try.ntmps82;go_wp2
   go_end0
   exact ⟨rfl,_,_,HG.out,HK.out⟩
  | false =>
   rw [hf] at h q8;rw [if_neg (by simp)] at h;obtain ⟨z,hz,h⟩:=Option.bind_eq_some_iff.mp h;have HZ:=aK hz;have H:=aK h;have HF:=aK hf;clear hz h hf;go_enter Try.func82,Try.ntmps82
   go_wp2_with (go_at_call 69;refine Classical.byContradiction (fun hng=>?_))
   refine hng ?_;clear hng;refine (memory_thing.calls g a _).mono ?_;rintro e w1 ⟨rfl,hb⟩;replace HG:=aK (HG.out.below hb);replace HM:=aK (MV_below HM.out hb);replace HK:=aK (HK.out.below hb);clear q0 q1 q2 q3 q4 q5 q6 q7 q8 hb;clear hlk
   go_wp2_with (go_at_call 106;refine Classical.byContradiction (fun hng=>?_))
   refine hng ?_;clear hng;refine (thing_size.calls g m a z _ HM.out HZ.out).mono ?_;rintro e w2 ⟨rfl,hb⟩;replace HG:=aK (HG.out.below hb);replace HM:=aK (MV_below HM.out hb);replace HK:=aK (HK.out.below hb);clear hb;obtain ⟨d,hd⟩: ∃d,d=(s.tw.length:Int) - s.o:=⟨_,rfl⟩;have u1:IntKind.i64.wrap ((s.tw.length:Int) - s.o)=d:=by rw [hd];exact IntWalk.i64_in _ (by have:=HSO.out;omega)
   have HD:=aK hd;clear hd;have q0:=(blk_cell HG.out.bx 0).trans rfl;have q1:=(blk_cell HG.out.bx 1).trans rfl;have q2:=(blk_cell HG.out.bx 2).trans rfl;have q3:=(blk_cell HG.out.bx 3).trans rfl;have q4:=(blk_cell HG.out.bx 4).trans rfl;have q5:=(blk_cell HG.out.bx 5).trans rfl;have q6:=(blk_cell HG.out.bx 6).trans rfl;have q7:=(blk_cell HG.out.bx 7).trans rfl;have q8:=(blk_cell HG.out.bx 8).trans rfl;by_cases c1:z>d
   ·have d1 : decide (z > d) = true := decide_eq_true c1
    have h:=H.out;rw [←HD.out,if_pos c1] at h;obtain rfl:=Option.some.inj h;clear h c1 H;go_wp2;refine sT 14 (S:=fun w'=>w'.cell? ⟨gm,1,none⟩=some (.slice (some ⟨gw,0,none⟩) s.tw.length cW)∧w'.cell? ⟨gm,4,none⟩=some (.int .i64 s.o)) (ds:=[]) ⟨(by go_simp),(by go_simp)⟩ (fun hHeld=>?_);refine pS 0 30 (lA 14 1) ?_;refine pS 1 31 (lA 14 3) ?_;refine pS 2 32 (lA 14 7) ?_;refine pS 3 33 (lA 14 15) ?_;refine pS 4 34 (lA 14 31) ?_;refine pS 7 37 (lA 14 159) ?_;refine pS 8 38 (lA 14 415) ?_;refine pS 9 39 (lA 14 927) ?_;refine pS 10 40 (lA 14 1951) ?_;refine tS 5 35 (lA 14 1983) rfl rfl (by kernel_rfl) hHeld zz33 ?_;refine pS 6 36 (lA 14 2047) ?_;refine tS 11 41 (lA 14 4095) rfl rfl (by kernel_rfl) hHeld zz33 ?_;refine pS 12 42 (lA 14 8191) ?_;refine pS 13 43 (lA 14 16383) ?_;refine done_ (by kernel_rfl) ?_;clear hHeld;clear q0 q1 q2 q3 q4 q5 q6 q7 q8;replace HG:=aK (HG.out.below (below_drew1 (Below.refl w2.heap.size w2)));replace HM:=aK (MV_below HM.out (below_drew1 (Below.refl w2.heap.size w2)));replace HK:=aK (HK.out.below (below_drew1 (Below.refl w2.heap.size w2)));generalize World.drew w2=w3 at HG HM HK ⊢;have q0:=(blk_cell HG.out.bx 0).trans rfl;have q1:=(blk_cell HG.out.bx 1).trans rfl;have q2:=(blk_cell HG.out.bx 2).trans rfl;have q3:=(blk_cell HG.out.bx 3).trans rfl;have q4:=(blk_cell HG.out.bx 4).trans rfl;have q5:=(blk_cell HG.out.bx 5).trans rfl;have q6:=(blk_cell HG.out.bx 6).trans rfl;have q7:=(blk_cell HG.out.bx 7).trans rfl;have q8:=(blk_cell HG.out.bx 8).trans rfl;have f8:=blk_frozen HG.out.bx 8
    go_wp2_with ((with_reducible refine gate_store (t:=4) (p:=46) rfl ?_);refine Classical.byContradiction (fun hng=>?_))
    refine hng ?_;clear hng;refine store_event (t:=4) (p:=46) (v:=?vo8) (w1:=(w3.setCell ⟨gm,8,none⟩ (.bool true))) ?hg ?ho ?hn ?hr ?_
    (case ho=>rfl)
    (case hg=>rfl)
    (case hn=>rfl)
    (case hr=>first|(go_simp;done)|(go_simp;rfl))
    intro w4 hw;have hn:=HG.out.fullS true;rw [←hw] at hn;clear hw f8 q0 q1 q2 q3 q4 q5 q6 q7 q8;go_wp2
    go_end0
    exact ⟨rfl,_,_,hn.1,HK.out.trans hn.2⟩
   ·have d1 : decide (z > d) = false := decide_eq_false c1
    have h:=H.out;rw [←HD.out,if_neg c1] at h
    split at h
    case isFalse=>simp at h
    case isTrue hx=>
    have HS':=aK (Option.some.inj h);have HX:=aK hx;have HC1:=aK c1;clear h hx c1 H;go_wp2;refine sT 14 (S:=fun w'=>w'.cell? ⟨gm,1,none⟩=some (.slice (some ⟨gw,0,none⟩) s.tw.length cW)∧w'.cell? ⟨gm,4,none⟩=some (.int .i64 s.o)) (ds:=[]) ⟨(by go_simp),(by go_simp)⟩ (fun hHeld=>?_);refine pS 0 30 (lA 14 1) ?_;refine pS 1 31 (lA 14 3) ?_;refine pS 2 32 (lA 14 7) ?_;refine pS 3 33 (lA 14 15) ?_;refine pS 4 34 (lA 14 31) ?_;refine pS 7 37 (lA 14 159) ?_;refine pS 8 38 (lA 14 415) ?_;refine pS 9 39 (lA 14 927) ?_;refine pS 10 40 (lA 14 1951) ?_;refine tS 5 35 (lA 14 1983) rfl rfl (by kernel_rfl) hHeld zz33 ?_;refine pS 6 36 (lA 14 2047) ?_;refine tS 11 41 (lA 14 4095) rfl rfl (by kernel_rfl) hHeld zz33 ?_;refine pS 12 42 (lA 14 8191) ?_;refine pS 13 43 (lA 14 16383) ?_;refine done_ (by kernel_rfl) ?_;clear hHeld;clear q0 q1 q2 q3 q4 q5 q6 q7 q8;replace HG:=aK (HG.out.below (below_drew1 (Below.refl w2.heap.size w2)));replace HM:=aK (MV_below HM.out (below_drew1 (Below.refl w2.heap.size w2)));replace HK:=aK (HK.out.below (below_drew1 (Below.refl w2.heap.size w2)));generalize World.drew w2=w3 at HG HM HK ⊢;have q0:=(blk_cell HG.out.bx 0).trans rfl;have q1:=(blk_cell HG.out.bx 1).trans rfl;have q2:=(blk_cell HG.out.bx 2).trans rfl;have q3:=(blk_cell HG.out.bx 3).trans rfl;have q4:=(blk_cell HG.out.bx 4).trans rfl;have q5:=(blk_cell HG.out.bx 5).trans rfl;have q6:=(blk_cell HG.out.bx 6).trans rfl;have q7:=(blk_cell HG.out.bx 7).trans rfl;have q8:=(blk_cell HG.out.bx 8).trans rfl;obtain ⟨AW,cM,ACm,cC',AF,cF,AB,cB,m0,mw,_,_,_,lw,_,_,_⟩:=HM.out;have g0:=(blk_cell m0 0).trans rfl;have hx:=HX.out;have hlw:=(show m.words.length≤cM from lw);obtain ⟨ad,rfl,_⟩:=mw.2.2 (by omega);have MWs:=aK mw;have LWs:=aK hlw;have GW:=aK (show s.tw.length≤cW from (Kd.R_reads' HG.out.rw_).2.1);obtain ⟨j,hj⟩: ∃j,j=a - 1:=⟨_,rfl⟩;obtain ⟨e,he⟩: ∃e,e=j+z:=⟨_,rfl⟩;have HJ:=aK (And.intro hj he);have v1:wrap64 (a - 1)=j:=by rw [hj];unfold wrap64;omega
    have v2:wrap64 (j+z)=e:=by rw [he];unfold wrap64;omega
    have p1:=eq_true (show 0≤s.o by omega);have p2:=eq_true (show s.o≤(s.tw.length:Int) by have:=HD.out;have:=HC1.out;omega);have p3:=eq_false (show¬cW=s.o.toNat by have:=GW.out;have:=HD.out;have:=HC1.out;omega);have p4:=eq_true (show 0≤e by omega);have p5:=eq_true (show e≤(cM:Int) by omega);have p6:=eq_true (show 0≤j by omega);have p7:=eq_true (show j≤max e 0 by omega);have p8:=eq_false (show¬cM=j.toNat by omega);clear m0 mw lw hx hlw hj he;go_wp2;refine sT 27 (S:=fun w'=>w'.cell? ⟨gm,0,none⟩=some (.pointer (some ⟨g,0,none⟩))∧w'.cell? ⟨gm,1,none⟩=some (.slice (some ⟨gw,0,none⟩) s.tw.length cW)∧w'.cell? ⟨gm,4,none⟩=some (.int .i64 s.o)∧w'.cell? ⟨g,0,none⟩=some (.slice (some ad) m.words.length cM)) (ds:=[26]) ⟨(by go_simp),(by go_simp),(by go_simp),(by go_simp)⟩ (fun hHeld=>?_);replace HG:=aK (HG.out.below (below_drew1 (Below.refl w3.heap.size w3)));replace HK:=aK (HK.out.below (below_drew1 (Below.refl w3.heap.size w3)));replace MWs:=aK (Kd.C_below MWs.out (below_drew1 (Below.refl w3.heap.size w3)));clear HM;generalize World.drew w3=wt at HG HK MWs hHeld ⊢;obtain ⟨w4,hcp,hrw,hch⟩:=copy_run (i:=s.o.toNat) (n:=e.toNat - j.toNat) (c:=cM - j.toNat) (c2:=cW - s.o.toNat) (ys:=(m.words.take e.toNat).drop j.toNat) (ad:=ad.add j.toNat) HG.out.rw_ (by have h_:=Kd.C_mid (lo:=j.toNat) (hi:=e.toNat) (c:=cM) MWs.out (by have:=HJ.out;have:=HX.out;omega) (by have:=HJ.out;have:=HX.out;omega) LWs.out;rw [if_neg (of_eq_false p8)] at h_;rw [List.length_drop,List.length_take,Nat.min_eq_left (by have:=HJ.out;have:=HX.out;omega)] at h_;rw [Option.map_some] at h_;rw [show j.toNat*(Kd.int .i64).sz=j.toNat from Nat.mul_one _] at h_;exact h_) (by have:=HJ.out;have:=HX.out;have:=HD.out;have:=HC1.out;omega) (by have:=HJ.out;have:=HX.out;omega) 23 23 3 Try.underlying23;refine pS 0 47 (lA 27 1) ?_;refine pS 1 48 (lA 27 3) ?_;refine pS 2 49 (lA 27 7) ?_;refine pS 3 50 (lA 27 15) ?_;refine pS 5 52 (lA 27 47) ?_;refine pS 6 53 (lA 27 111) ?_;refine pS 7 54 (lA 27 239) ?_;refine pS 8 55 (lA 27 495) ?_;refine pS 11 58 (lA 27 2543) ?_;refine pS 12 59 (lA 27 6639) ?_;refine pS 13 60 (lA 27 14831) ?_;refine pS 19 66 (lA 27 539119) ?_;refine pS 20 67 (lA 27 1587695) ?_;refine pS 21 68 (lA 27 3684847) ?_;refine pS 22 69 (lA 27 7879151) ?_;refine pS 23 70 (lA 27 16267759) ?_;refine pS 24 71 (lA 27 33044975) ?_;refine tS 4 51 (lA 27 33044991) rfl rfl (by kernel_rfl) hHeld zz12 ?_;refine tS 9 56 (lA 27 33045503) rfl rfl (by kernel_rfl) hHeld zz12 ?_;refine pS 10 57 (lA 27 33046527) ?_;refine tS 14 61 (lA 27 33062911) rfl rfl (by kernel_rfl) hHeld zz12 ?_;refine pS 15 62 (lA 27 33095679) ?_;refine pS 16 63 (lA 27 33161215) ?_;refine pS 17 64 (lA 27 33292287) ?_;refine tS 18 65 (lA 27 33554431) rfl rfl (by kernel_rfl) hHeld zz12 ?_;refine pS 25 72 (lA 27 67108863) ?_;refine last_ (i:=26) (N:=some 73) (lA 27 134217727) rfl rfl (by kernel_rfl) (by decide) (fun K hK=>?_);refine copyK_ (by rfl) rfl rfl rfl rfl hcp ?_;refine hK.out _ _ ?_;clear hK K;refine nS 73 ?_;refine done_ (by kernel_rfl) ?_;clear hHeld hcp p1 p2 p3 p4 p5 p6 p7 p8 v1 v2 u1 d1 g0 q0 q1 q2 q3 q4 q5 q6 q7 q8;have hn:=HG.out.words hch hrw (by rw [List.length_append,List.length_append,List.length_take,List.length_drop,List.length_drop,List.length_take];have:=HJ.out;have:=HX.out;have:=HD.out;have:=HC1.out;omega);have HG5:=aK hn.1;replace HK:=aK (HK.out.trans hn.2);clear hn hch hrw HG MWs LWs GW;obtain ⟨o1,ho1⟩: ∃x,x=s.o+1:=⟨_,rfl⟩;obtain ⟨o2,ho2⟩: ∃x,x=s.o+z:=⟨_,rfl⟩;have v1:wrap64 (s.o+1)=o1:=by rw [ho1];unfold wrap64;have:=HSO.out;omega
    have v2:wrap64 (s.o+z)=o2:=by rw [ho2];unfold wrap64;have:=HSO.out;have:=HX.out;have:=HD.out;have:=HC1.out;omega
    have HO1:=aK ho1;have HO2:=aK ho2;clear ho1 ho2;have q0:=(blk_cell HG5.out.bx 0).trans rfl;have q1:=(blk_cell HG5.out.bx 1).trans rfl;have q2:=(blk_cell HG5.out.bx 2).trans rfl;have q3:=(blk_cell HG5.out.bx 3).trans rfl;have q4:=(blk_cell HG5.out.bx 4).trans rfl;have q5:=(blk_cell HG5.out.bx 5).trans rfl;have q6:=(blk_cell HG5.out.bx 6).trans rfl;have q7:=(blk_cell HG5.out.bx 7).trans rfl;have q8:=(blk_cell HG5.out.bx 8).trans rfl;go_wp2;refine sT 12 (S:=fun w'=>w'.cell? ⟨gm,6,none⟩=some (.map (some B))∧w'.cell? ⟨gm,4,none⟩=some (.int .i64 s.o)) (ds:=[11]) ⟨(by go_simp),(by go_simp)⟩ (fun hHeld=>?_);replace HG5:=aK (HG5.out.below (below_drew1 (Below.refl w4.heap.size w4)));replace HK:=aK (HK.out.below (below_drew1 (Below.refl w4.heap.size w4)));generalize World.drew w4=wt at HG5 HK hHeld ⊢;obtain ⟨w5,hmu,hom,hch⟩:=HG5.out.mp.put HWF.out (show wfI o1 by unfold wfI;exact WalkArith.wf_i64 (by have:=HO1.out;have:=HSO.out;omega)) HNo.out (by have:=HX.out;omega) 88 Try.underlying88;rw [←v1] at hmu;refine pS 0 74 (lA 12 1) ?_;refine pS 1 75 (lA 12 3) ?_;refine pS 2 76 (lA 12 7) ?_;refine pS 4 78 (lA 12 23) ?_;refine pS 5 79 (lA 12 55) ?_;refine pS 6 80 (lA 12 119) ?_;refine pS 7 81 (lA 12 247) ?_;refine pS 8 82 (lA 12 503) ?_;refine tS 3 77 (lA 12 511) rfl rfl (by kernel_rfl) hHeld zz33 ?_;refine tS 9 83 (lA 12 1023) rfl rfl (by kernel_rfl) hHeld zz33 ?_;refine pS 10 84 (lA 12 2047) ?_;refine last_ (i:=11) (N:=none) (lA 12 4095) rfl rfl (by kernel_rfl) (by decide) (fun K hK=>?_);refine mapK_ (by rfl) rfl rfl rfl rfl rfl hmu ?_;refine hK.out _ _ ?_;clear hK K;refine done_ (by kernel_rfl) ?_;clear hHeld hmu q0 q1 q2 q3 q4 q5 q6 q7 q8;have hn:=HG5.out.map hch hom;have HG6:=aK hn.1;replace HK:=aK (HK.out.trans hn.2);clear hn hch hom HG5;have q7:=(blk_cell HG6.out.bx 7).trans rfl
    go_wp2_with ((with_reducible refine gate_builtin (b:= .append) (xs:= #[.tmp 89,.tmp 91]) rfl ?_);refine Classical.byContradiction (fun hng=>?_))
    refine hng ?_;clear hng;refine Kd.R_append (Kd.int .i64) (w0:=w0) w0.heap.size rfl (.tmp 89) (.tmp 91) 23 3 (.int .i64 0) 8 rfl Try.underlying23 info3 rfl (by decide) (by omega) (.slice AO s.mv.length cO) (s.mv.map Prod.fst) a [.int .i64 a] (fun k=>(k≠gm∧k≠B∧k≠gw)∧some k≠(Value.slice AC s.tc.length cC).ownBlock) (fun _=>False) rfl rfl ?aP (fun _ hk=>hk.elim) ?aF ?aO ?aB ?aS ?aL ?_
    (case aP=>exact rfl)
    (case aB=>exact HG6.out.be)
    (case aF=>exact fun k hk=>⟨⟨by have:=blk_lt HG6.out.bx;omega,by have:=HG6.out.mp.lt;omega,fun e=>by have:=Kd.R_lt HG6.out.rw_ gw rfl;omega⟩,fun e=>by have:=Kd.R_lt HG6.out.rc k e.symm;omega⟩)
    (case aO=>exact HG6.out.ro)
    (case aS=>exact HG6.out.sz)
    (case aL=>have:=HX.out;rw [List.length_map];omega)
    intro v92 w6 ho hbn hgr hat;obtain ⟨AN,cN,rfl⟩:=Kd.R_slice ho;have hn:=HG6.out.ord (a,o1) rfl ho hgr;have hbx:=hn.2.2.trans HG6.out.bx;have HN7:=aK (And.intro hn.1 hn.2.1);have n7:=(blk_cell hbx 7).trans rfl;have f7:=blk_frozen hbx 7;have n4:=(blk_cell hbx 4).trans rfl;have f4:=blk_frozen hbx 4;clear ho hbn hgr hat hn hbx;clear q7;go_wp2
    go_end0
    have hs':=HS'.out;have hj:=HJ.out;have hx:=HX.out;have hlen:((m.words.take e.toNat).drop j.toNat).length=e.toNat - j.toNat:=by rw [List.length_drop,List.length_take,Nat.min_eq_left (by omega)]
    have hfin:s'=({s with tw:=s.tw.take s.o.toNat++(m.words.take e.toNat).drop j.toNat++s.tw.drop (s.o.toNat+(e.toNat - j.toNat)),o:=o2,mv:=s.mv++[(a,o1)]}:Mv):=by
     rw [←hs',HO1.out,HO2.out,HF.out,←hlen,hj.2,hj.1];rfl
    subst hfin;have h7:=HN7.out;rw [show (List.map Prod.fst s.mv++[a]).length=s.mv.length+1 by simp] at h7;have hn:=h7.1.oldS o2;exact ⟨rfl,AN,cN,hn.1,(HK.out.trans h7.2).trans hn.2⟩
def comeF (m:Mm) (s:Mv) (a:Int):Option Mv:=if a=0 then some s else if a>m.young then some s else moveF m s a
set_option maxHeartbeats 4000000 in
set_option maxRecDepth 100000 in
theorem mover_come.calls (b:Nat) (w0:World) (g gm B gw cW:Nat) (AC:Option Addr) (cC:Nat) (AO:Option Addr) (cO:Nat) (m:Mm) (s s':Mv) (a:Int) (w:World) (hm:MV w0 g m) (hb0:b=w0.heap.size) (hg:Mg b w0 g gm B gw cW AC cC AO cO w s s.mv) (ha:wfI a) (ho: -2000000≤s.o∧s.o≤2000000) (hl:s.tw.length≤2000000) (h:comeF m s a=some s'):
  Calls Try.prog 53 #[.pointer (some ⟨gm,0,none⟩),.int .i64 a] w (MvPost b w0 g gm B gw cW AC cC s' w):=by
 have HG:=aK hg;have HB0:=aK hb0;have HM0:=aK hm;have HX:=aK (show _∧_∧_ from ⟨ha,ho,hl⟩);have HK:=aK (KeepO.refl w);have q0:=(blk_cell hg.bx 0).trans rfl;clear hb0 ha ho hl;unfold comeF at h;by_cases c0:a=0
 ·rw [if_pos c0] at h
  obtain rfl:=Option.some.inj h;have d0:(a !=0)=false:=by simp [c0]
  clear h c0 hg hm;go_enter Try.func53,Try.ntmps53;go_wp2
  go_end0
  exact ⟨rfl,_,_,HG.out,HK.out⟩
 rw [if_neg c0] at h;have d0:(a !=0)=true:=by simp [c0]
 clear c0;have hmw:MV w g m:=MV_below hm (by rw [←HB0.out];exact hg.be)
 obtain ⟨AW,cM,ACm,cC',AF,cF,AB,cB,m0,mrest⟩:=hmw;have g0:=(blk_cell m0 0).trans rfl;have g1:=(blk_cell m0 1).trans rfl;have g2:=(blk_cell m0 2).trans rfl;have g3:=(blk_cell m0 3).trans rfl;have g4:=(blk_cell m0 4).trans rfl;clear m0 mrest hg hm;have H:=aK h;clear h;by_cases c1:a>m.young
 ·have d1 : decide (a > m.young) = true := decide_eq_true c1
  have h:=H.out;rw [if_pos c1] at h;obtain rfl:=Option.some.inj h;clear h c1 H;go_enter Try.func53,Try.ntmps53
  go_wp2_with (go_at_call 81;refine Classical.byContradiction (fun hng=>?_))
  refine hng ?_;clear hng;refine (Mem_isOld.calls AW m.words.length cM m.young m.top m.old ACm m.cards.length cC' a true _ d1).mono ?_;rintro e w1 ⟨rfl,hb⟩;replace HG:=aK (HG.out.below hb);replace HK:=aK (HK.out.below hb);clear hb q0 g0 g1 g2 g3 g4;go_wp2
  go_end0
  exact ⟨rfl,_,_,HG.out,HK.out⟩
 ·have d1 : decide (a > m.young) = false := decide_eq_false c1
  have h:=H.out;rw [if_neg c1] at h;have H1:=aK h;clear h c1 H;go_enter Try.func53,Try.ntmps53
  go_wp2_with (go_at_call 81;refine Classical.byContradiction (fun hng=>?_))
  refine hng ?_;clear hng;refine (Mem_isOld.calls AW m.words.length cM m.young m.top m.old ACm m.cards.length cC' a false _ d1).mono ?_;rintro e w1 ⟨rfl,hb⟩;replace HG:=aK (HG.out.below hb);replace HK:=aK (HK.out.below hb);clear hb q0 g0 g1 g2 g3 g4
  go_wp2_with (go_at_call 82;refine Classical.byContradiction (fun hng=>?_))
  refine hng ?_;clear hng;refine (mover_move.calls b w0 g gm B gw cW AC cC AO cO m s s' a _ HM0.out HB0.out HG.out HX.out.1 HX.out.2.1 HX.out.2.2 H1.out).mono ?_;rintro e w2 ⟨rfl,AN,cN,hg2,hk2⟩;have HF:=aK (And.intro hg2 hk2);clear hg2 hk2;go_wp2
  go_end0
  exact ⟨rfl,AN,cN,HF.out.1,HK.out.trans HF.out.2⟩
def oldsF (k:Nat) (m:Mm):Option (List Int):=if -2000000≤m.young∧m.young≤2000000 then (slices_BinarySearch_int_int.f k m.begins (m.young+1)).bind fun p=>if 0≤p.1∧p.1≤m.begins.length then some (m.begins.drop p.1.toNat) else none else none
set_option maxHeartbeats 8000000 in
set_option maxRecDepth 100000 in
theorem memory_olds.calls (k:Nat) (g:Nat) (m:Mm) (l:List Int) (w0 w:World) (hm0:MV w0 g m) (hbw:Below w0.heap.size w0 w) (h:oldsF k m=some l):
  Calls Try.prog 54 #[.pointer (some ⟨g,0,none⟩)] w fun e w'=>(∃A c,e= .returned (.slice A l.length c)∧Kd.C (Kd.int .i64) w0 A l.length l∧l.length≤c)∧Below w.heap.size w w':=by
 unfold oldsF at h
 split at h
 case isFalse=>simp at h
 case isTrue hy=>
 obtain ⟨⟨p1,p2⟩,hp,h⟩:=Option.bind_eq_some_iff.mp h;dsimp only at h
 split at h
 case isFalse=>simp at h
 case isTrue hb=>
 have HLd:=aK (Option.some.inj h);have HP:=aK hp;obtain ⟨AW,cW,ACm,cC,AF,cF,AB,cB,h0_,_,_,_,hB0,_,_,_,lB⟩:=hm0;have h0:=blk_below h0_ hbw;have hB:=Kd.C_below hB0 hbw;have HB0:=aK hB0;have HBg:=aK hB;have HL:=aK lB;have HI:=aK hb;have H0:=aK h0;obtain ⟨y1,hy1⟩: ∃x,x=m.young+1:=⟨_,rfl⟩;rw [←hy1] at HP;have v1:IntKind.i64.wrap (m.young+1)=y1:=by rw [hy1];exact IntWalk.i64_in _ (by omega)
 have v2:wrap64 (m.young+1)=y1:=by rw [←i64_w];exact v1
 have HBe:=aK (Below.refl w.heap.size w);have g1:=(blk_cell h0 1).trans rfl;have g6:=(blk_cell h0 6).trans rfl;clear hp h hB hB0 h0_ lB hb hy hy1 hbw;go_enter Try.func54,Try.ntmps54;go_wp2;refine sT 16 (S:=fun w'=>Aside0 (Below w.heap.size w w')∧w'.cell? ⟨g,6,none⟩=some (.slice AB m.begins.length cB)∧w'.cell? ⟨g,1,none⟩=some (.int .i64 m.young)) (ds:=[]) ⟨⟨below_drew1 (Below.refl _ _)⟩,(by go_simp),(by go_simp)⟩ (fun hHeld=>?_);refine pS 0 6 (lA 16 1) ?_;refine pS 1 7 (lA 16 3) ?_;refine pS 2 8 (lA 16 7) ?_;refine pS 4 10 (lA 16 23) ?_;refine pS 5 11 (lA 16 55) ?_;refine pS 6 12 (lA 16 119) ?_;refine pS 7 13 (lA 16 247) ?_;refine tS 3 9 (lA 16 255) rfl rfl (by kernel_rfl) hHeld zz35 ?_;refine tS 8 14 (lA 16 511) rfl rfl (by kernel_rfl) hHeld zz35 ?_;refine pS 9 15 (lA 16 1023) ?_;refine oS 10 16 (lA 16 2047) rfl rfl (fun K hK=>?_);refine gO Try.func83 #[.slice AB m.begins.length cB,.int .i64 y1] ?_;(with_reducible refine (slices_BinarySearch_int_int.calls k AB cB m.begins y1 p1 p2 _ (Kd.C_below HBg.out hHeld.1.out) HL.out HP.out).mono ?_);rintro e w1 ⟨rfl,hd⟩;have hb1:=hd.below;refine ⟨_,rfl,?_⟩;refine hK.out _ _ ⟨⟨below_step hHeld.1.out hb1⟩,(pw_cell_below hb1 hHeld.2.1),(pw_cell_below hb1 hHeld.2.2)⟩ (fun hHeld=>?_);clear hK K;refine nS 16 ?_;refine pS 11 5 (lA 16 4095) ?_;refine pS 12 17 (lA 16 8191) ?_;refine pS 13 18 (lA 16 16383) ?_;refine pS 14 3 (lA 16 32767) ?_;refine pS 15 4 (lA 16 65535) ?_;refine done_ (by kernel_rfl) ?_;have HB1:=hHeld.1;have n6:=hHeld.2.1;clear hHeld g1 g6;have p3:=eq_true HI.out.1;have p4:=eq_true HI.out.2;have HD:=aK (Kd.C_drop (m:=p1.toNat) (c:=cB) HB0.out (by have:=HI.out;omega) HL.out);have HE:=aK (show l.length=m.begins.length - p1.toNat by rw [←HLd.out];exact List.length_drop);by_cases c:cB=p1.toNat
 ·have c' := eq_true c
  have HC:=aK c;clear c;go_wp2;go_ret;have hd:=HD.out;rw [if_pos HC.out,HLd.out] at hd;refine ⟨⟨AB,cB - p1.toNat,?_,hd,by have:=HE.out;have:=HL.out;omega⟩,HB1.out⟩;rw [HE.out];first|rfl|(rw [HC.out,Nat.sub_self];rfl)
 ·have c' := eq_false c
  have HC:=aK c;clear c;go_wp2;go_ret;have hd:=HD.out;rw [if_neg HC.out,HLd.out,show p1.toNat*(Kd.int .i64).sz=p1.toNat from Nat.mul_one _] at hd;refine ⟨⟨AB.map (·.add p1.toNat),cB - p1.toNat,?_,hd,by have:=HE.out;have:=HL.out;omega⟩,HB1.out⟩;rw [HE.out];rfl
def ledL (m:Mm) (a f:Int):Nat→Int→Option (List Int)
  |0,_=>some []
  |d+1,k=>(thing_leads.f m a k).bind fun b=>(ledL m a f d (k+1)).bind fun r=>some (if b=true then wrap64 (f+k)::r else r)
def ledF (m:Mm) (a:Int):Option (List Int):=(thing_count.f m a).bind fun n=>if n≤4294967296 then (thing_first.f m a).bind fun f=>ledL m a f n.toNat 0 else none
set_option maxHeartbeats 16000000 in
set_option maxRecDepth 100000 in
theorem memory_led.calls (N : Nat) (fn : Func) (hf : Try.prog.funcs[N]? = some fn) (hn : (fn.name == "runtime.NumGoroutine") = false) (hbd : fn.body.isSome = true) (caps : Array Value)
  (g:Nat) (m:Mm) (a:Int) (I:List Int→World→Prop) (ws:List Int) (w:World)
  (hm: ∀l W,I l W→MV W g m) (hI:I ws w) (hst: ∀l W W',I l W→Below W.heap.size W W'→I l W')
  (hcb: ∀x r W,I (x::r) W→Calls Try.prog N (#[.int .i64 x]++caps) W fun e W'=>e= .returned (.tuple #[])∧I r W'∧KeepO W W')
  (h:ledF m a=some ws):
  Calls Try.prog 55 #[.pointer (some ⟨g,0,none⟩),.int .i64 a,.func (.func N) #[] caps] w fun e w'=>e= .returned (.tuple #[])∧I [] w'∧KeepO w w':=by
 unfold ledF at h;obtain ⟨n,hn1,h⟩:=Option.bind_eq_some_iff.mp h
 split at h
 case isFalse=>simp at h
 case isTrue hnl=>
 obtain ⟨f,hf1,h⟩:=Option.bind_eq_some_iff.mp h;have HI:=aK hI;have HM:=aK hm;have HS:=aK hst;have HCB:=aK hcb;have H1:=aK hn1;have H2:=aK hf1;have H3:=aK h;have HNL:=aK hnl;have HK:=aK (KeepO.refl w);have HF:=aK (show _∧_∧_ from ⟨hf,hn,hbd⟩);clear hI hm hst hcb hn1 hf1 h hf hn hbd hnl;go_enter Try.func55,Try.ntmps55
 go_wp2_with (go_at_call 69;refine Classical.byContradiction (fun hng=>?_))
 refine hng ?_;clear hng;refine (memory_thing.calls g a _).mono ?_;rintro e w1 ⟨rfl,hb⟩;unfold thV;replace HI:=aK (HS.out _ _ _ HI.out hb);replace HK:=aK (HK.out.below hb);clear hb
 go_wp2_with ((with_reducible refine gate_dst (N:=6) rfl ?_);refine Classical.byContradiction (fun hng=>?_))
 refine hng ?_;clear hng;refine box_event ?hg (N:=6) ?hd (cs:= #[.pointer none,.int .i64 0]) (t:=102) ?hr ?_
 (case hd=>rfl)
 (case hg=>rfl)
 (case hr=>first|(go_simp;done)|(go_simp;rfl))
 intro gt hg w2 hbox hb;have BT:=aK hbox;have HX:=aK hb;have HG:=aK (show gt=w1.heap.size from hg);clear hb hbox hg;have qc0:=(blk_cell BT.out 0).trans rfl;have qc1:=(blk_cell BT.out 1).trans rfl;have qf0:=blk_frozen BT.out 0;have qf1:=blk_frozen BT.out 1
 go_wp2_with ((with_reducible refine gate_store (t:=102) (p:=6) rfl ?_);refine Classical.byContradiction (fun hng=>?_))
 refine hng ?_;clear hng;refine store_event (t:=102) (p:=6) (v:=?vot) (w1:=(thBox w2 gt (.pointer (some ⟨g,0,none⟩)) (.int .i64 a))) ?hg ?ho ?hn ?hr ?_
 (case ho=>rfl)
 (case hg=>rfl)
 (case hn=>rfl)
 (case hr=>first|(go_simp;done)|(go_simp;rfl))
 intro w3 hw;have hc:Ch (fun k=>k=gt) w2 w3:=by rw [hw];exact (Ch.refl (fun k=>k=gt) _).thBox (.inl rfl) _ _
 replace HX:=aK (HX.out.trans (hc.toBelow (B:=w1.heap.size) (below_size HX.out) (fun k hk=>by have:=HG.out;omega)));replace BT:=aK (show w3.heap[gt]? =some (.cells #[.pointer (some ⟨g,0,none⟩),.int .i64 a] 102 (0,0)) by rw [hw];exact blk_thBox BT.out);replace HI:=aK (HS.out _ _ _ HI.out HX.out);replace HK:=aK (HK.out.below HX.out);clear hw hc qc0 qc1 qf0 qf1 HX HG;have qc0:=(blk_cell BT.out 0).trans rfl;have qc1:=(blk_cell BT.out 1).trans rfl
 go_wp2_with (go_at_call 84;refine Classical.byContradiction (fun hng=>?_))
 refine hng ?_;clear hng;refine (thing_count.calls g m a n _ (HM.out _ _ HI.out) H1.out).mono ?_;rintro e w4 ⟨rfl,hb⟩;replace HI:=aK (HS.out _ _ _ HI.out hb);replace HK:=aK (HK.out.below hb);replace BT:=aK (blk_below BT.out hb);clear hb;clear qc0 qc1;go_wp2
 go_loopw [13] (fun v13 wr=> ∃(k:Int) (d:Nat) (rest:List Int),v13= .int .i64 k∧Aside0 (0≤k∧k+d=max n 0)∧Aside0 (ledL m a f d k=some rest)∧Aside0 (I rest wr)∧Aside0 (wr.heap[gt]? =some (.cells #[.pointer (some ⟨g,0,none⟩),.int .i64 a] 102 (0,0)))∧Aside0 (KeepO w wr)) (fun v13 _=>(n - intOf v13).toNat)
 case atStart=>exact ⟨0,n.toNat,ws,rfl,⟨by omega⟩,H3,HI,BT,HK⟩
 case round=>
  clear HI BT HK H3;obtain ⟨k,d,rest,rfl,HD,HL,HI,BT,HK⟩:=hrel;by_cases cx:k<n
  ·have d0 : decide (k < n) = true := decide_eq_true cx
   obtain ⟨d,rfl⟩: ∃z,d=z+1:=⟨d - 1,by have:=HD.out;omega⟩;have HC:=aK cx;have hl:=HL.out;unfold ledL at hl;obtain ⟨b,hb1,hl⟩:=Option.bind_eq_some_iff.mp hl;obtain ⟨r,hr1,hl⟩:=Option.bind_eq_some_iff.mp hl;have H4:=aK hb1;have H5:=aK hr1;have H6:=aK (Option.some.inj hl);clear hb1 hr1 hl HL cx;have qc0:=(blk_cell BT.out 0).trans rfl;have qc1:=(blk_cell BT.out 1).trans rfl
   go_wp2_with (go_at_call 85;refine Classical.byContradiction (fun hng=>?_))
   refine hng ?_;clear hng;refine (thing_leads.calls g m a k b _ (HM.out _ _ HI.out) H4.out).mono ?_;rintro e w5 ⟨rfl,hb⟩;replace HI:=aK (HS.out _ _ _ HI.out hb);replace HK:=aK (HK.out.below hb);replace BT:=aK (blk_below BT.out hb);clear hb;clear qc0 qc1
   cases b with
   |false=>
    have h6:=H6.out;rw [if_neg (by simp)] at h6;subst h6;clear H6;have u1:IntKind.i64.wrap (k+1)=k+1:=IntWalk.i64_in _ (by have:=HC.out;have:=HD.out;have:=HNL.out;omega)
    go_wp2
    go_roundw
    case rel=>exact ⟨k+1,d,r,rfl,⟨by have:=HD.out;have:=HC.out;omega⟩,H5,HI,BT,HK⟩
    case measure=>have:=HC.out;simp only [intOf];omega
   |true=>
    have h6:=H6.out;rw [if_pos rfl] at h6;subst h6;clear H6;have qc0:=(blk_cell BT.out 0).trans rfl;have qc1:=(blk_cell BT.out 1).trans rfl
    go_wp2_with (go_at_call 86;refine Classical.byContradiction (fun hng=>?_))
    refine hng ?_;clear hng;refine (thing_first.calls g m a f _ (HM.out _ _ HI.out) H2.out).mono ?_;rintro e w6 ⟨rfl,hb⟩;replace HI:=aK (HS.out _ _ _ HI.out hb);replace HK:=aK (HK.out.below hb);replace BT:=aK (blk_below BT.out hb);clear hb;clear qc0 qc1;obtain ⟨x,hx⟩: ∃z,z=wrap64 (f+k):=⟨_,rfl⟩;have u2:IntKind.i64.wrap (f+k)=x:=by rw [i64_w];exact hx.symm
    rw [←hx] at HI;clear hx
    go_wp2_with ((with_reducible refine goesV_ rfl HF.out.1 HF.out.2.1 HF.out.2.2 (#[.int .i64 x]++caps) rfl rfl ?hargs ?_);(case hargs=>(simp only [List.map_toArray,List.map_cons,List.map_nil];rfl));refine Classical.byContradiction (fun hng=>?_))
    refine hng ?_;clear hng;refine (HCB.out x r _ HI.out).mono ?_;rintro e w7 ⟨rfl,hi,hk⟩;replace HI:=aK hi;replace BT:=aK (hk.thing BT.out);replace HK:=aK (HK.out.trans hk);clear hi hk u2;refine ⟨_,rfl,?_⟩;have u1:IntKind.i64.wrap (k+1)=k+1:=IntWalk.i64_in _ (by have:=HC.out;have:=HD.out;have:=HNL.out;omega)
    go_wp2
    go_roundw
    case rel=>exact ⟨k+1,d,r,rfl,⟨by have:=HD.out;have:=HC.out;omega⟩,H5,HI,BT,HK⟩
    case measure=>have:=HC.out;simp only [intOf];omega
  ·have d0 : decide (k < n) = false := decide_eq_false cx
   obtain rfl:d=0:=by have:=HD.out;omega
   have hl:=HL.out;unfold ledL at hl;have hl:=Option.some.inj hl;subst hl;clear HL cx;go_wp2
   go_end0
   exact ⟨rfl,HI.out,HK.out⟩
def comeG (m:Mm) (s:Mv) (a:Int):Option Mv:=if (-2000000≤a∧a≤2000000)∧(-2000000≤s.o∧s.o≤2000000)∧s.tw.length≤2000000 then comeF m s a else none
def step2 (m:Mm) (s:Mv) (x:Int):Option Mv:=if 0≤x∧x<m.words.length then comeG m s (rd m.words x) else none
theorem wfI_small {a:Int} (h: -2000000≤a∧a≤2000000):wfI a:=by unfold wfI;exact WalkArith.wf_i64 (by omega)
set_option maxHeartbeats 8000000 in
set_option maxRecDepth 100000 in
theorem minor2.calls (b:Nat) (w0:World) (g gm B gw cW:Nat) (AC:Option Addr) (cC:Nat) (AO:Option Addr) (cO:Nat) (m:Mm) (s s':Mv) (x:Int) (gq gp:Nat) (w:World) (hm:MV w0 g m) (hb0:b=w0.heap.size) (hg:Mg b w0 g gm B gw cW AC cC AO cO w s s.mv)
  (hq:w.heap[gq]? =some (.cells #[.pointer (some ⟨gm,0,none⟩)] 83 (0,0))) (hp:w.heap[gp]? =some (.cells #[.pointer (some ⟨g,0,none⟩)] 56 (0,0))) (h:step2 m s x=some s'):
  Calls Try.prog 58 #[.int .i64 x,.pointer (some ⟨gq,0,none⟩),.pointer (some ⟨gp,0,none⟩)] w (MvPost b w0 g gm B gw cW AC cC s' w):=by
 subst hb0;unfold step2 at h
 split at h
 case isFalse=>simp at h
 case isTrue hx=>
 unfold comeG at h
 split at h
 case isFalse=>simp at h
 case isTrue hy=>
 have hmw:MV w g m:=MV_below hm hg.be
 obtain ⟨AW,cM,ACm,cC',AF,cF,AB,cB,m0,mw,mrest⟩:=hmw;obtain ⟨ad,e0,hcell⟩:=Kd.at_int mw x hx.1 hx.2
 cases e0
 obtain ⟨v,hv⟩: ∃v,v=rd m.words x:=⟨_,rfl⟩;rw [←hv] at hcell h hy;have HG:=aK hg;have HM0:=aK hm;have HY:=aK hy;have H:=aK h;have HK:=aK (KeepO.refl w);have q0:=(blk_cell hq 0).trans rfl;have p0:=(blk_cell hp 0).trans rfl;have g0:=(blk_cell m0 0).trans rfl;have i1:=eq_true hx.1;have i2:=eq_true hx.2;clear hm hg h hx hy m0 mw mrest hq hp hv;go_enter Try.func58,Try.ntmps58;go_wp2;refine sT 10 (S:=fun w'=>w'.cell? ⟨gq,0,none⟩=some (.pointer (some ⟨gm,0,none⟩))∧w'.cell? ⟨gp,0,none⟩=some (.pointer (some ⟨g,0,none⟩))∧w'.cell? ⟨g,0,none⟩=some (.slice (some ad) m.words.length cM)∧w'.cell? (ad.add x.toNat)=some (.int .i64 v)) (ds:=[9]) ⟨(by go_simp),(by go_simp),(by go_simp),(by go_simp)⟩ (fun hHeld=>?_);replace HG:=aK (HG.out.below (below_drew1 (Below.refl w.heap.size w)));replace HK:=aK (HK.out.below (below_drew1 (Below.refl w.heap.size w)));generalize World.drew w=wt at HG HK hHeld ⊢;refine pS 6 10 #[false,false,false,false,false,false,true,false,false,false] ?_;refine tS 0 4 #[true,false,false,false,false,false,true,false,false,false] rfl rfl (by kernel_rfl) hHeld zz12 ?_;refine tS 1 5 #[true,true,false,false,false,false,true,false,false,false] rfl rfl (by kernel_rfl) hHeld zz12 ?_;refine pS 2 6 #[true,true,true,false,false,false,true,false,false,false] ?_;refine pS 3 7 #[true,true,true,true,false,false,true,false,false,false] ?_;refine pS 4 8 #[true,true,true,true,true,false,true,false,false,false] ?_;refine tS 5 9 #[true,true,true,true,true,true,true,false,false,false] rfl rfl (by kernel_rfl) hHeld zz12 ?_;refine pS 7 11 #[true,true,true,true,true,true,true,true,false,false] ?_;refine tS 8 12 #[true,true,true,true,true,true,true,true,true,false] rfl rfl (by kernel_rfl) hHeld zz12 ?_;refine last_ (i:=9) (N:=some 13) #[true,true,true,true,true,true,true,true,true,true] rfl rfl (by kernel_rfl) (by decide) (fun K hK=>?_);refine gO Try.func53 #[.pointer (some ⟨gm,0,none⟩),.int .i64 v] ?_;(with_reducible refine (mover_come.calls _ w0 g gm B gw cW AC cC AO cO m s s' v _ HM0.out rfl HG.out (wfI_small HY.out.1) HY.out.2.1 HY.out.2.2 H.out).mono ?_);rintro e w9 ⟨rfl,AN,cN,hg2,hk2⟩;refine ⟨_,rfl,?_⟩;refine hK.out _ _ ?_;clear hK K;refine nS 13 ?_;refine done_ (by kernel_rfl) ?_;have HF:=aK (And.intro hg2 hk2);clear hg2 hk2 q0 p0 g0;go_wp2
 go_end0
 exact ⟨rfl,AN,cN,HF.out.1,HK.out.trans HF.out.2⟩
def onCard (m:Mm) (x:Int):Option Bool:=if (-2000000≤x - m.young∧x - m.young≤2000000)∧0≤Int.tdiv (x - m.young) 4∧Int.tdiv (x - m.young) 4<m.cards.length∧m.cards.length≤2000000 then some (rdOf false m.cards (Int.tdiv (x - m.young) 4)) else none
def step1 (m:Mm) (s:Mv) (x:Int):Option Mv:=(onCard m x).bind fun b=>if b=true then step2 m s x else some s
set_option maxHeartbeats 8000000 in
set_option maxRecDepth 100000 in
theorem minor1.calls (b:Nat) (w0:World) (g gm B gw cW:Nat) (AC:Option Addr) (cC:Nat) (AO:Option Addr) (cO:Nat) (m:Mm) (s s':Mv) (x:Int) (gq gp:Nat) (w:World) (hm:MV w0 g m) (hb0:b=w0.heap.size) (hg:Mg b w0 g gm B gw cW AC cC AO cO w s s.mv)
  (hq:w.heap[gq]? =some (.cells #[.pointer (some ⟨gm,0,none⟩)] 83 (0,0))) (hp:w.heap[gp]? =some (.cells #[.pointer (some ⟨g,0,none⟩)] 56 (0,0))) (h:step1 m s x=some s'):
  Calls Try.prog 56 #[.int .i64 x,.pointer (some ⟨gp,0,none⟩),.pointer (some ⟨gq,0,none⟩)] w (MvPost b w0 g gm B gw cW AC cC s' w):=by
 subst hb0;unfold step1 at h;obtain ⟨bc,hbc,h⟩:=Option.bind_eq_some_iff.mp h;unfold onCard at hbc
 split at hbc
 case isFalse=>simp at hbc
 case isTrue hcx=>
 have hbc:=Option.some.inj hbc;obtain ⟨j,hj⟩: ∃j,j=x - m.young:=⟨_,rfl⟩;obtain ⟨c,hc⟩: ∃c,c=Int.tdiv j 4:=⟨_,rfl⟩;rw [←hj,←hc] at hcx hbc;have v1:IntKind.i64.wrap (x - m.young)=j:=by rw [hj];exact IntWalk.i64_in _ (by omega)
 have v2:wrap64 (Int.tdiv j 4)=c:=by rw [←hc];unfold wrap64;omega
 have hmw:MV w g m:=MV_below hm hg.be
 obtain ⟨AW,cM,ACm,cC',AF,cF,AB,cB,m0,mw,mc,mrest⟩:=hmw;have HMR:=aK (And.intro m0 (And.intro mw (And.intro mc mrest)));obtain ⟨ac,e0,hcell⟩:=Kd.at_bool mc c hcx.2.1 hcx.2.2.1
 cases e0
 rw [hbc] at hcell;have HG:=aK hg;have HM0:=aK hm;have H:=aK h;have HK:=aK (KeepO.refl w);have HQ:=aK hq;have HP:=aK hp;have q0:=(blk_cell hq 0).trans rfl;have p0:=(blk_cell hp 0).trans rfl;have g0:=(blk_cell m0 0).trans rfl;have g1:=(blk_cell m0 1).trans rfl;have g2:=(blk_cell m0 2).trans rfl;have g3:=(blk_cell m0 3).trans rfl;have g4:=(blk_cell m0 4).trans rfl;have i1:=eq_true hcx.2.1;have i2:=eq_true hcx.2.2.1;clear hm hg h hcx hbc m0 mw mc mrest hq hp hj hc HMR;go_enter Try.func56,Try.ntmps56;go_wp2;refine sT 13 (S:=fun w'=>Aside0 (Below w.heap.size w w')∧w'.cell? ⟨gp,0,none⟩=some (.pointer (some ⟨g,0,none⟩))∧w'.cell? ⟨g,0,none⟩=some (.slice AW m.words.length cM)∧w'.cell? ⟨g,1,none⟩=some (.int .i64 m.young)∧w'.cell? ⟨g,2,none⟩=some (.int .i64 m.top)∧w'.cell? ⟨g,3,none⟩=some (.int .i64 m.old)∧w'.cell? ⟨g,4,none⟩=some (.slice (some ac) m.cards.length cC')∧w'.cell? (ac.add c.toNat)=some (.bool bc)) (ds:=[]) ⟨⟨below_drew1 (Below.refl _ _)⟩,(by go_simp),(by go_simp),(by go_simp),(by go_simp),(by go_simp),(by go_simp),(by go_simp)⟩ (fun hHeld=>?_);refine pS 9 13 (lA 13 512) ?_;refine tS 0 4 (lA 13 513) rfl rfl (by kernel_rfl) hHeld (by rintro w' ⟨s0,s1,s2,s3,s4,s5,s6,s7⟩;go_simp;with_reducible rfl) ?_;refine pS 1 5 (lA 13 515) ?_;refine pS 2 6 (lA 13 519) ?_;refine pS 3 7 (lA 13 527) ?_;refine tS 4 8 (lA 13 543) rfl rfl (by kernel_rfl) hHeld (by rintro w' ⟨s0,s1,s2,s3,s4,s5,s6,s7⟩;go_simp;with_reducible rfl) ?_;refine tS 5 9 (lA 13 575) rfl rfl (by kernel_rfl) hHeld (by rintro w' ⟨s0,s1,s2,s3,s4,s5,s6,s7⟩;go_simp;with_reducible rfl) ?_;refine pS 6 10 (lA 13 639) ?_;refine pS 7 11 (lA 13 767) ?_;refine tS 8 12 (lA 13 1023) rfl rfl (by kernel_rfl) hHeld (by rintro w' ⟨s0,s1,s2,s3,s4,s5,s6,s7⟩;go_simp;with_reducible rfl) ?_;refine oS 10 14 (lA 13 2047) rfl rfl (fun K hK=>?_);refine gO Try.func57 #[.agg #[.slice AW m.words.length cM,.int .i64 m.young,.int .i64 m.top,.int .i64 m.old,.slice (some ac) m.cards.length cC'],.int .i64 x] ?_;(with_reducible refine (Mem_card.calls AW m.words.length cM m.young m.top m.old (some ac) m.cards.length cC' x j c _ v1 v2).mono ?_);rintro e w1 ⟨rfl,hb1⟩;refine ⟨_,rfl,?_⟩;refine hK.out _ _ ⟨⟨below_step hHeld.1.out hb1⟩,(pw_cell_below hb1 hHeld.2.1),(pw_cell_below hb1 hHeld.2.2.1),(pw_cell_below hb1 hHeld.2.2.2.1),(pw_cell_below hb1 hHeld.2.2.2.2.1),(pw_cell_below hb1 hHeld.2.2.2.2.2.1),(pw_cell_below hb1 hHeld.2.2.2.2.2.2.1),(pw_cell_below hb1 hHeld.2.2.2.2.2.2.2)⟩ (fun hHeld=>?_);clear hK K;refine nS 14 ?_;refine pS 11 15 (lA 13 4095) ?_;refine tS 12 16 (lA 13 8191) rfl rfl (by kernel_rfl) hHeld (by rintro w' ⟨s0,s1,s2,s3,s4,s5,s6,s7⟩;go_simp;with_reducible rfl) ?_;refine done_ (by kernel_rfl) ?_;replace HG:=aK (HG.out.below hHeld.1.out);replace HK:=aK (HK.out.below hHeld.1.out);replace HQ:=aK (blk_below HQ.out hHeld.1.out);replace HP:=aK (blk_below HP.out hHeld.1.out);clear hHeld hcell i1 i2 v1 v2 q0 p0 g0 g1 g2 g3 g4
 cases bc with
 |false=>
  have h:=H.out;rw [if_neg (by simp)] at h;obtain rfl:=Option.some.inj h;clear h H;go_wp2
  go_end0
  exact ⟨rfl,_,_,HG.out,HK.out⟩
 |true=>
  have h:=H.out;rw [if_pos rfl] at h;unfold step2 at h
  split at h
  case isFalse=>simp at h
  case isTrue hx=>
  unfold comeG at h
  split at h
  case isFalse=>simp at h
  case isTrue hy=>
  have hmw:MV w1 g m:=MV_below HM0.out HG.out.be
  obtain ⟨AW,cM,ACm,cC',AF,cF,AB,cB,m0,mw,mrest⟩:=hmw;obtain ⟨ad,e0,hcell⟩:=Kd.at_int mw x hx.1 hx.2
  cases e0
  obtain ⟨v,hv⟩: ∃v,v=rd m.words x:=⟨_,rfl⟩;rw [←hv] at hcell h hy;have HY:=aK hy;replace H:=aK h;have q0:=(blk_cell HQ.out 0).trans rfl;have p0:=(blk_cell HP.out 0).trans rfl;have g0:=(blk_cell m0 0).trans rfl;have i1:=eq_true hx.1;have i2:=eq_true hx.2;clear h hx hy m0 mw mrest hv;go_wp2;refine sT 10 (S:=fun w'=>w'.cell? ⟨gq,0,none⟩=some (.pointer (some ⟨gm,0,none⟩))∧w'.cell? ⟨gp,0,none⟩=some (.pointer (some ⟨g,0,none⟩))∧w'.cell? ⟨g,0,none⟩=some (.slice (some ad) m.words.length cM)∧w'.cell? (ad.add x.toNat)=some (.int .i64 v)) (ds:=[9]) ⟨(by go_simp),(by go_simp),(by go_simp),(by go_simp)⟩ (fun hHeld=>?_);replace HG:=aK (HG.out.below (below_drew1 (Below.refl w1.heap.size w1)));replace HK:=aK (HK.out.below (below_drew1 (Below.refl w1.heap.size w1)));generalize World.drew w1=wt at HG HK hHeld ⊢;refine pS 6 23 #[false,false,false,false,false,false,true,false,false,false] ?_;refine tS 0 17 #[true,false,false,false,false,false,true,false,false,false] rfl rfl (by kernel_rfl) hHeld zz12 ?_;refine tS 1 18 #[true,true,false,false,false,false,true,false,false,false] rfl rfl (by kernel_rfl) hHeld zz12 ?_;refine pS 2 19 #[true,true,true,false,false,false,true,false,false,false] ?_;refine pS 3 20 #[true,true,true,true,false,false,true,false,false,false] ?_;refine pS 4 21 #[true,true,true,true,true,false,true,false,false,false] ?_;refine tS 5 22 #[true,true,true,true,true,true,true,false,false,false] rfl rfl (by kernel_rfl) hHeld zz12 ?_;refine pS 7 24 #[true,true,true,true,true,true,true,true,false,false] ?_;refine tS 8 25 #[true,true,true,true,true,true,true,true,true,false] rfl rfl (by kernel_rfl) hHeld zz12 ?_;refine last_ (i:=9) (N:=some 26) #[true,true,true,true,true,true,true,true,true,true] rfl rfl (by kernel_rfl) (by decide) (fun K hK=>?_);refine gO Try.func53 #[.pointer (some ⟨gm,0,none⟩),.int .i64 v] ?_;(with_reducible refine (mover_come.calls _ w0 g gm B gw cW AC cC AO cO m s s' v _ HM0.out rfl HG.out (wfI_small HY.out.1) HY.out.2.1 HY.out.2.2 H.out).mono ?_);rintro e w9 ⟨rfl,AN,cN,hg2,hk2⟩;refine ⟨_,rfl,?_⟩;refine hK.out _ _ ?_;clear hK K;refine nS 26 ?_;refine done_ (by kernel_rfl) ?_;have HF:=aK (And.intro hg2 hk2);clear hg2 hk2 q0 p0 g0;go_wp2
  go_end0
  exact ⟨rfl,AN,cN,HF.out.1,HK.out.trans HF.out.2⟩
def nowF (mv:List (Int×Int)) (a:Int):Int:=(lookM mv a).getD a
set_option maxHeartbeats 4000000 in
set_option maxRecDepth 100000 in
theorem mover_now.calls (b:Nat) (w0:World) (g gm B gw cW:Nat) (AC:Option Addr) (cC:Nat) (AO:Option Addr) (cO:Nat) (s:Mv) (a:Int) (w:World) (h:Mg b w0 g gm B gw cW AC cC AO cO w s s.mv) (ha:wfI a):
  Calls Try.prog 88 #[.pointer (some ⟨gm,0,none⟩),.int .i64 a] w fun e w'=>e= .returned (.int .i64 (nowF s.mv a))∧Below w.heap.size w w':=by
 have hl:=h.mp.look ha 88 Try.underlying88;have q6:=(blk_cell h.bx 6).trans rfl;clear h
 cases hm:lookM s.mv a with
 |none=>
  rw [hm] at hl;have HN:=aK (show nowF s.mv a=a by unfold nowF;rw [hm];rfl);simp only [Option.getD_none,Option.isSome_none] at hl;clear hm ha;go_enter Try.func88,Try.ntmps88;go_wp2;go_ret;exact ⟨by rw [HN.out];rfl,Below.refl _ _⟩
 |some p=>
  rw [hm] at hl;have HN:=aK (show nowF s.mv a=p by unfold nowF;rw [hm];rfl);simp only [Option.getD_some,Option.isSome_some] at hl;clear hm ha;go_enter Try.func88,Try.ntmps88;go_wp2;go_ret;exact ⟨by rw [HN.out];rfl,Below.refl _ _⟩
def MvPostS (b:Nat) (w0:World) (g gm B gw cW:Nat) (AC:Option Addr) (cC:Nat) (AO:Option Addr) (cO:Nat) (s':Mv) (w:World) (e:Ending) (w':World):Prop:=e= .returned (.tuple #[])∧Mg b w0 g gm B gw cW AC cC AO cO w' s' s'.mv∧KeepO w w'
theorem Mg.put {b g gm B gw cW cC cO:Nat} {w0 w:World} {AC AO:Option Addr} {s:Mv} {M:List (Int×Int)} (h:Mg b w0 g gm B gw cW AC cC AO cO w s M) (i v:Int):
    Mg b w0 g gm B gw cW AC cC AO cO (w.setCell ⟨gw,i.toNat,none⟩ (.int .i64 v)) {s with tw:=s.tw.set i.toNat v} M∧KeepO w (w.setCell ⟨gw,i.toNat,none⟩ (.int .i64 v)):=
  h.words ((Ch.refl (fun k=>k=gw) w).set (p:=⟨gw,i.toNat,none⟩) (.inl rfl) _) (Kd.R_put (enc:=Value.int .i64) (h1:=fun _=>rfl) h.rw_ i v).1 List.length_set
def lead1F (m:Mm) (s:Mv) (x:Int):Option Mv:=if 0≤x∧x<m.words.length∧0≤x∧x<s.tw.length∧(-2000000≤rd m.words x∧rd m.words x≤2000000) then some {s with tw:=s.tw.set x.toNat (nowF s.mv (rd m.words x))} else none
set_option maxHeartbeats 8000000 in
set_option maxRecDepth 100000 in
theorem lead1.calls (b:Nat) (w0:World) (g gm B gw cW:Nat) (AC:Option Addr) (cC:Nat) (AO:Option Addr) (cO:Nat) (m:Mm) (s s':Mv) (x:Int) (gq:Nat) (w:World) (hm:MV w0 g m) (hb0:b=w0.heap.size) (hg:Mg b w0 g gm B gw cW AC cC AO cO w s s.mv)
  (hq:w.heap[gq]? =some (.cells #[.pointer (some ⟨gm,0,none⟩)] 83 (0,0))) (h:lead1F m s x=some s'):
  Calls Try.prog 87 #[.int .i64 x,.pointer (some ⟨gq,0,none⟩)] w fun e w'=>MvPostS b w0 g gm B gw cW AC cC AO cO s' w e w':=by
 subst hb0;unfold lead1F at h
 split at h
 case isFalse=>simp at h
 case isTrue hx=>
 obtain ⟨x0,x1,t0,t1,hv0⟩:=hx

 have hmw:MV w g m:=MV_below hm hg.be
 obtain ⟨AW,cM,ACm,cC',AF,cF,AB,cB,m0,mw,mrest⟩:=hmw;obtain ⟨ad,e0,hcell⟩:=Kd.at_int mw x x0 x1
 cases e0
 obtain ⟨v,hv⟩: ∃v,v=rd m.words x:=⟨_,rfl⟩;rw [←hv] at hcell h hv0;obtain ⟨u,hu⟩: ∃u,u=nowF s.mv v:=⟨_,rfl⟩;rw [←hu] at h;have HU:=aK hu;have HV0:=aK (wfI_small hv0);have HG:=aK hg;have HK:=aK (KeepO.refl w);have H:=aK (Option.some.inj h);have HT:=aK (And.intro t0 t1);have q0:=(blk_cell hq 0).trans rfl;have g0:=(blk_cell m0 0).trans rfl;have k0:=(blk_cell hg.bx 0).trans rfl;have k1:=(blk_cell hg.bx 1).trans rfl;have i1:=eq_true x0;have i2:=eq_true x1;have i3:=eq_true t0;have i4:=eq_true t1;clear hm hg h x0 x1 t0 t1 hv0 m0 mw mrest hq hv hu;go_enter Try.func87,Try.ntmps87;go_wp2;refine sT 21 (S:=fun w'=>Aside0 (Below w.heap.size w w')∧w'.cell? ⟨gq,0,none⟩=some (.pointer (some ⟨gm,0,none⟩))∧w'.cell? ⟨gm,0,none⟩=some (.pointer (some ⟨g,0,none⟩))∧w'.cell? ⟨gm,1,none⟩=some (.slice (some ⟨gw,0,none⟩) s.tw.length cW)∧w'.cell? ⟨g,0,none⟩=some (.slice (some ad) m.words.length cM)∧w'.cell? (ad.add x.toNat)=some (.int .i64 v)) (ds:=[20]) ⟨⟨below_drew1 (Below.refl _ _)⟩,(by go_simp),(by go_simp),(by go_simp),(by go_simp),(by go_simp)⟩ (fun hHeld=>?_);refine pS 5 8 (lA 21 32) ?_;refine pS 15 18 (lA 21 32800) ?_;refine tS 0 3 (lA 21 32801) rfl rfl (by kernel_rfl) hHeld zz4 ?_;refine pS 1 4 (lA 21 32803) ?_;refine pS 2 5 (lA 21 32807) ?_;refine pS 3 6 (lA 21 32815) ?_;refine tS 4 7 (lA 21 32831) rfl rfl (by kernel_rfl) hHeld zz4 ?_;refine tS 6 9 (lA 21 32895) rfl rfl (by kernel_rfl) hHeld zz4 ?_;refine tS 7 10 (lA 21 33023) rfl rfl (by kernel_rfl) hHeld zz4 ?_;refine pS 8 11 (lA 21 33279) ?_;refine pS 9 12 (lA 21 33791) ?_;refine tS 10 13 (lA 21 34815) rfl rfl (by kernel_rfl) hHeld zz4 ?_;refine pS 11 14 (lA 21 36863) ?_;refine pS 12 15 (lA 21 40959) ?_;refine pS 13 16 (lA 21 49151) ?_;refine tS 14 17 (lA 21 65535) rfl rfl (by kernel_rfl) hHeld zz4 ?_;refine pS 16 19 (lA 21 131071) ?_;refine tS 17 20 (lA 21 262143) rfl rfl (by kernel_rfl) hHeld zz4 ?_;refine oS 18 21 (lA 21 524287) rfl rfl (fun K hK=>?_);refine gO Try.func88 #[.pointer (some ⟨gm,0,none⟩),.int .i64 v] ?_;(with_reducible refine (mover_now.calls _ w0 g gm B gw cW AC cC AO cO s v _ (HG.out.below hHeld.1.out) HV0.out).mono ?_);rintro e w9 ⟨rfl,hb9⟩;replace HG:=aK (HG.out.below hHeld.1.out);replace HK:=aK (HK.out.below hHeld.1.out);replace HG:=aK (HG.out.below hb9);replace HK:=aK (HK.out.below hb9);rw [←HU.out];have HN:=aK (HG.out.put x u);obtain ⟨_,fz⟩:=Kd.R_cell (enc:=Value.int .i64) (h1:=fun _=>rfl) 0 HG.out.rw_ x HT.out.1 HT.out.2;have xz:=(Kd.R_cell (enc:=Value.int .i64) (h1:=fun _=>rfl) 0 HG.out.rw_ x HT.out.1 HT.out.2).1;refine ⟨_,rfl,?_⟩;refine hK.out _ _ ⟨⟨below_step hHeld.1.out hb9⟩,(pw_cell_below hb9 hHeld.2.1),(pw_cell_below hb9 hHeld.2.2.1),(pw_cell_below hb9 hHeld.2.2.2.1),(pw_cell_below hb9 hHeld.2.2.2.2.1),(pw_cell_below hb9 hHeld.2.2.2.2.2)⟩ (fun hHeld=>?_);clear hK K;refine nS 21 ?_;refine pS 19 22 (lA 21 1048575) ?_;refine last_ (i:=20) (N:=none) (lA 21 2097151) rfl rfl (by kernel_rfl) (by decide) (fun K hK=>?_);refine skip_ (w1:=?_) (by rfl) rfl ?_ ?_;rotate_left
 ·go_simp
  rfl
 refine hK.out _ _ ?_;clear hK K;refine done_ (by kernel_rfl) ?_;go_wp2
 go_end0
 have hs:=H.out;subst hs;exact ⟨rfl,HN.out.1,HK.out.trans HN.out.2⟩
def lead2F (m:Mm) (s:Mv) (by_ x:Int):Option Mv:=if 0≤x∧x<m.words.length∧0≤x+by_∧x+by_<s.tw.length∧(-2000000≤rd m.words x∧rd m.words x≤2000000)∧s.tw.length≤2000000 then some {s with tw:=s.tw.set (x+by_).toNat (nowF s.mv (rd m.words x))} else none
set_option maxHeartbeats 8000000 in
set_option maxRecDepth 100000 in
theorem lead2.calls (b:Nat) (w0:World) (g gm B gw cW:Nat) (AC:Option Addr) (cC:Nat) (AO:Option Addr) (cO:Nat) (m:Mm) (s s':Mv) (x by_:Int) (gq gy:Nat) (w:World) (hm:MV w0 g m) (hb0:b=w0.heap.size) (hg:Mg b w0 g gm B gw cW AC cC AO cO w s s.mv)
  (hq:w.heap[gq]? =some (.cells #[.pointer (some ⟨gm,0,none⟩)] 83 (0,0))) (hy:w.heap[gy]? =some (.cells #[.int .i64 by_] 3 (0,0))) (hyw:gy≠gw) (h:lead2F m s by_ x=some s'):
  Calls Try.prog 89 #[.int .i64 x,.pointer (some ⟨gq,0,none⟩),.pointer (some ⟨gy,0,none⟩)] w fun e w'=>MvPostS b w0 g gm B gw cW AC cC AO cO s' w e w'∧w'.heap[gy]? =some (.cells #[.int .i64 by_] 3 (0,0)):=by
 subst hb0;unfold lead2F at h
 split at h
 case isFalse=>simp at h
 case isTrue hx=>
 obtain ⟨x0,x1,t0,t1,hv0,hlt⟩:=hx;obtain ⟨j,hj⟩: ∃j,j=x+by_:=⟨_,rfl⟩;rw [←hj] at t0 t1 h;have v1:wrap64 (x+by_)=j:=by rw [hj];unfold wrap64;omega
 have HYW:=aK hyw;have hmw:MV w g m:=MV_below hm hg.be
 obtain ⟨AW,cM,ACm,cC',AF,cF,AB,cB,m0,mw,mrest⟩:=hmw;obtain ⟨ad,e0,hcell⟩:=Kd.at_int mw x x0 x1
 cases e0
 obtain ⟨v,hv⟩: ∃v,v=rd m.words x:=⟨_,rfl⟩;rw [←hv] at hcell h hv0;obtain ⟨u,hu⟩: ∃u,u=nowF s.mv v:=⟨_,rfl⟩;rw [←hu] at h;have HU:=aK hu;have HV0:=aK (wfI_small hv0);have HG:=aK hg;have HK:=aK (KeepO.refl w);have H:=aK (Option.some.inj h);have HT:=aK (And.intro t0 t1);have q0:=(blk_cell hq 0).trans rfl;have g0:=(blk_cell m0 0).trans rfl;have k0:=(blk_cell hg.bx 0).trans rfl;have k1:=(blk_cell hg.bx 1).trans rfl;have HYB:=aK hy;have y0:=(blk_cell hy 0).trans rfl;clear hy hyw hj;have i1:=eq_true x0;have i2:=eq_true x1;have i3:=eq_true t0;have i4:=eq_true t1;clear hm hg h x0 x1 t0 t1 hv0 m0 mw mrest hq hv hu;go_enter Try.func89,Try.ntmps89;go_wp2;refine sT 23 (S:=fun w'=>Aside0 (Below w.heap.size w w')∧w'.cell? ⟨gq,0,none⟩=some (.pointer (some ⟨gm,0,none⟩))∧w'.cell? ⟨gm,0,none⟩=some (.pointer (some ⟨g,0,none⟩))∧w'.cell? ⟨gm,1,none⟩=some (.slice (some ⟨gw,0,none⟩) s.tw.length cW)∧w'.cell? ⟨g,0,none⟩=some (.slice (some ad) m.words.length cM)∧w'.cell? (ad.add x.toNat)=some (.int .i64 v)∧w'.cell? ⟨gy,0,none⟩=some (.int .i64 by_)) (ds:=[22]) ⟨⟨below_drew1 (Below.refl _ _)⟩,(by go_simp),(by go_simp),(by go_simp),(by go_simp),(by go_simp),(by go_simp)⟩ (fun hHeld=>?_);refine pS 5 9 (lA 23 32) ?_;refine pS 17 21 (lA 23 131104) ?_;refine tS 0 4 (lA 23 131105) rfl rfl (by kernel_rfl) hHeld zz26 ?_;refine pS 1 5 (lA 23 131107) ?_;refine pS 2 6 (lA 23 131111) ?_;refine pS 3 7 (lA 23 131119) ?_;refine tS 4 8 (lA 23 131135) rfl rfl (by kernel_rfl) hHeld zz26 ?_;refine tS 6 10 (lA 23 131199) rfl rfl (by kernel_rfl) hHeld zz26 ?_;refine pS 7 11 (lA 23 131327) ?_;refine tS 8 12 (lA 23 131583) rfl rfl (by kernel_rfl) hHeld zz26 ?_;refine tS 9 13 (lA 23 132095) rfl rfl (by kernel_rfl) hHeld zz26 ?_;refine pS 10 14 (lA 23 133119) ?_;refine pS 11 15 (lA 23 135167) ?_;refine tS 12 16 (lA 23 139263) rfl rfl (by kernel_rfl) hHeld zz26 ?_;refine pS 13 17 (lA 23 147455) ?_;refine pS 14 18 (lA 23 163839) ?_;refine pS 15 19 (lA 23 196607) ?_;refine tS 16 20 (lA 23 262143) rfl rfl (by kernel_rfl) hHeld zz26 ?_;refine pS 18 22 (lA 23 524287) ?_;refine tS 19 23 (lA 23 1048575) rfl rfl (by kernel_rfl) hHeld zz26 ?_;refine oS 20 24 (lA 23 2097151) rfl rfl (fun K hK=>?_);refine gO Try.func88 #[.pointer (some ⟨gm,0,none⟩),.int .i64 v] ?_;(with_reducible refine (mover_now.calls _ w0 g gm B gw cW AC cC AO cO s v _ (HG.out.below hHeld.1.out) HV0.out).mono ?_);rintro e w9 ⟨rfl,hb9⟩;replace HG:=aK (HG.out.below hHeld.1.out);replace HK:=aK (HK.out.below hHeld.1.out);replace HYB:=aK (blk_below HYB.out hHeld.1.out);replace HG:=aK (HG.out.below hb9);replace HK:=aK (HK.out.below hb9);replace HYB:=aK (blk_below HYB.out hb9);rw [←HU.out];have HN:=aK (HG.out.put j u);obtain ⟨_,fz⟩:=Kd.R_cell (enc:=Value.int .i64) (h1:=fun _=>rfl) 0 HG.out.rw_ j HT.out.1 HT.out.2;have xz:=(Kd.R_cell (enc:=Value.int .i64) (h1:=fun _=>rfl) 0 HG.out.rw_ j HT.out.1 HT.out.2).1;replace HYB:=aK (((Ch.refl (fun k=>k=gw) w9).set (p:=⟨gw,j.toNat,none⟩) (.inl rfl) (.int .i64 u)).blk HYB.out HYW.out);refine ⟨_,rfl,?_⟩;refine hK.out _ _ ⟨⟨below_step hHeld.1.out hb9⟩,(pw_cell_below hb9 hHeld.2.1),(pw_cell_below hb9 hHeld.2.2.1),(pw_cell_below hb9 hHeld.2.2.2.1),(pw_cell_below hb9 hHeld.2.2.2.2.1),(pw_cell_below hb9 hHeld.2.2.2.2.2.1),(pw_cell_below hb9 hHeld.2.2.2.2.2.2)⟩ (fun hHeld=>?_);clear hK K;refine nS 24 ?_;refine pS 21 25 (lA 23 4194303) ?_;refine last_ (i:=22) (N:=none) (lA 23 8388607) rfl rfl (by kernel_rfl) (by decide) (fun K hK=>?_);refine skip_ (w1:=?_) (by rfl) rfl ?_ ?_;rotate_left
 ·go_simp
  rfl
 refine hK.out _ _ ?_;clear hK K;refine done_ (by kernel_rfl) ?_;go_wp2
 go_end0
 have hs:=H.out;subst hs;exact ⟨⟨rfl,HN.out.1,HK.out.trans HN.out.2⟩,HYB.out⟩
def foldO (f:Mv→Int→Option Mv):Mv→List Int→Option Mv
  |s,[]=>some s
  |s,x::r=>(f s x).bind fun s'=>foldO f s' r
theorem led_fold.calls (N : Nat) (fn : Func) (hf : Try.prog.funcs[N]? = some fn) (hn : (fn.name == "runtime.NumGoroutine") = false) (hbd : fn.body.isSome = true) (caps : Array Value)
  (b:Nat) (w0:World) (g gm B gw cW:Nat) (AC:Option Addr) (cC:Nat) (AO:Option Addr) (cO:Nat) (m:Mm) (f:Mv→Int→Option Mv) (a:Int) (ws:List Int) (X:World→Prop) (Pc:Option Addr→Nat→Prop) (s s':Mv) (w:World)
  (hX: ∀W W',X W→Below W.heap.size W W'→X W')
  (hcb: ∀AO cO s s' x W,Pc AO cO→Mg b w0 g gm B gw cW AC cC AO cO W s s.mv→X W→f s x=some s'→Calls Try.prog N (#[.int .i64 x]++caps) W fun e W'=>(e= .returned (.tuple #[])∧(∃AO cO,Pc AO cO∧Mg b w0 g gm B gw cW AC cC AO cO W' s' s'.mv)∧KeepO W W')∧X W')
  (hm:MV w0 g m) (hb0:b=w0.heap.size) (hP:Pc AO cO) (hg:Mg b w0 g gm B gw cW AC cC AO cO w s s.mv) (hx:X w) (h1:ledF m a=some ws) (h2:foldO f s ws=some s'):
  Calls Try.prog 55 #[.pointer (some ⟨g,0,none⟩),.int .i64 a,.func (.func N) #[] caps] w fun e w'=>(e= .returned (.tuple #[])∧(∃AO cO,Pc AO cO∧Mg b w0 g gm B gw cW AC cC AO cO w' s' s'.mv)∧KeepO w w')∧X w':=by
 refine (memory_led.calls N fn hf hn hbd caps g m a (fun rest W=>X W∧∃AO cO t,Pc AO cO∧Mg b w0 g gm B gw cW AC cC AO cO W t t.mv∧foldO f t rest=some s') ws w ?_ ⟨hx,AO,cO,s,hP,hg,h2⟩ ?_ ?_ h1).mono ?_
 ·rintro l W ⟨_, AO, cO, t, _, hg, _⟩
  exact MV_below hm (by rw [←hb0];exact hg.be)
 ·rintro l W W' ⟨hx, AO, cO, t, hp, hg, hf⟩ hb
  exact ⟨hX W W' hx hb,AO,cO,t,hp,hg.below hb,hf⟩
 ·rintro x r W ⟨hx, AO, cO, t, hp, hg, hf⟩
  unfold foldO at hf;obtain ⟨t',ht,hf⟩:=Option.bind_eq_some_iff.mp hf;refine (hcb AO cO t t' x W hp hg hx ht).mono ?_;rintro e W' ⟨⟨he,⟨AN,cN,hpn,hgn⟩,hk⟩,hxn⟩;exact ⟨he,⟨hxn,AN,cN,t',hpn,hgn,hf⟩,hk⟩
 ·rintro e w' ⟨he, ⟨hxn, AN, cN, t, hpn, hgn, hf⟩, hk⟩
  unfold foldO at hf;obtain rfl:=Option.some.inj hf;exact ⟨⟨he,⟨AN,cN,hpn,hgn⟩,hk⟩,hxn⟩
def leadP1 (m:Mm):Mv→List Int→Option Mv
  |s,[]=>some s
  |s,a::r=>(ledF m a).bind fun ws=>(foldO (lead1F m) s ws).bind fun s'=>leadP1 m s' r
def leadP2 (m:Mm):Mv→List Int→Option Mv
  |s,[]=>some s
  |s,a::r=>if (-2000000≤a∧a≤2000000)∧(-2000000≤(lookM s.mv a).getD 0∧(lookM s.mv a).getD 0≤2000000) then (ledF m a).bind fun ws=>(foldO (fun u y=>lead2F m u ((lookM s.mv a).getD 0 - a) y) s ws).bind fun s'=>leadP2 m s' r else none
theorem foldO_mv {f:Mv→Int→Option Mv} (hf: ∀s x s',f s x=some s'→s'.mv=s.mv): ∀(ws:List Int) (s s':Mv),foldO f s ws=some s'→s'.mv=s.mv
 |[],s,s',h=>by unfold foldO at h;rw [←Option.some.inj h]
 |x::r,s,s',h=>by
  unfold foldO at h;obtain ⟨t,ht,h⟩:=Option.bind_eq_some_iff.mp h;rw [foldO_mv hf r t s' h,hf s x t ht]
theorem lead1F_mv (m:Mm) (s:Mv) (x:Int) (s':Mv) (h:lead1F m s x=some s'):s'.mv=s.mv:=by
 unfold lead1F at h
 split at h
 case isTrue=>rw [←Option.some.inj h]
 case isFalse=>simp at h
theorem lead2F_mv (m:Mm) (y:Int) (s:Mv) (x:Int) (s':Mv) (h:lead2F m s y x=some s'):s'.mv=s.mv:=by
 unfold lead2F at h
 split at h
 case isTrue=>rw [←Option.some.inj h]
 case isFalse=>simp at h
theorem leadP1_mv (m:Mm): ∀(l:List Int) (s s':Mv),leadP1 m s l=some s'→s'.mv=s.mv
 |[],s,s',h=>by unfold leadP1 at h;rw [←Option.some.inj h]
 |a::r,s,s',h=>by
  unfold leadP1 at h;obtain ⟨ws,_,h⟩:=Option.bind_eq_some_iff.mp h;obtain ⟨t,ht,h⟩:=Option.bind_eq_some_iff.mp h;rw [leadP1_mv m r t s' h,foldO_mv (lead1F_mv m) ws s t ht]
def leadF (m:Mm) (s:Mv) (stayed:List Int):Option Mv:=if stayed.length≤2000000∧s.mv.length≤2000000 then (leadP1 m s stayed).bind fun s1=>leadP2 m s1 (s1.mv.map Prod.fst) else none
set_option maxHeartbeats 16000000 in
set_option maxRecDepth 100000 in
theorem mover_lead.calls (b:Nat) (w0:World) (g gm B gw cW:Nat) (AC:Option Addr) (cC:Nat) (AO:Option Addr) (cO:Nat) (AS:Option Addr) (cS:Nat) (m:Mm) (s s':Mv) (stayed:List Int) (w:World) (hm:MV w0 g m) (hb0:b=w0.heap.size) (hg:Mg b w0 g gm B gw cW AC cC AO cO w s s.mv) (hs0:Kd.C (Kd.int .i64) w0 AS stayed.length stayed) (h:leadF m s stayed=some s'):
  Calls Try.prog 59 #[.pointer (some ⟨gm,0,none⟩),.slice AS stayed.length cS] w (MvPostS b w0 g gm B gw cW AC cC AO cO s' w):=by
 subst hb0;unfold leadF at h
 split at h
 case isFalse=>simp at h
 case isTrue hl=>
 obtain ⟨s1,h1,h2⟩:=Option.bind_eq_some_iff.mp h;have HL:=aK hl;have H1:=aK (show leadP1 m s (stayed.drop 0)=some s1 by rw [List.drop_zero];exact h1);have H2:=aK h2;have HMV:=aK (leadP1_mv m _ _ _ h1);have HM:=aK hm;have HG:=aK hg;have HS:=aK hs0;have HK:=aK (KeepO.refl w);clear hm hg hs0 h h1 h2 hl;go_enter Try.func59,Try.ntmps59
 go_wp2_with ((with_reducible refine gate_dst (N:=2) rfl ?_);refine Classical.byContradiction (fun hng=>?_))
 refine hng ?_;clear hng;refine box_event ?hg (N:=2) ?hd (cs:= #[.pointer (some ⟨gm,0,none⟩)]) (t:=83) ?hr ?_
 (case hd=>rfl)
 (case hg=>rfl)
 (case hr=>first|(go_simp;done)|(go_simp;rfl))
 intro gq hg w1 hbox hb;have BQ:=aK hbox;replace HG:=aK (HG.out.below hb);replace HK:=aK (HK.out.below hb);clear hb hbox hg;go_wp2
 go_loopw [11] (fun v11 wr=> ∃(k:Nat) (t:Mv),v11= .int .i64 (k:Int)∧Aside0 (k≤stayed.length)∧Aside0 (leadP1 m t (stayed.drop k)=some s1)∧Aside0 (Mg w0.heap.size w0 g gm B gw cW AC cC AO cO wr t t.mv)∧Aside0 (wr.heap[gq]? =some (.cells #[.pointer (some ⟨gm,0,none⟩)] 83 (0,0)))∧Aside0 (KeepO w wr)) (fun v11 _=>stayed.length - (intOf v11).toNat)
 case atStart=>exact ⟨0,s,rfl,⟨Nat.zero_le _⟩,H1,HG,BQ,HK⟩
 case round =>
  clear H1 HG BQ HK;obtain ⟨k,t,rfl,HKl,H1,HG,BQ,HK⟩:=hrel;by_cases cx:(k:Int)<(stayed.length:Int)
  ·have d0 : decide ((k : Int) < (stayed.length : Int)) = true := decide_eq_true cx
   have hlt:k<stayed.length:=by omega
   have hd:=List.drop_eq_getElem_cons hlt;have hg_:stayed[k]=rd stayed k:=by unfold rd;rw [Int.toNat_natCast,List.getD_eq_getElem?_getD,List.getElem?_eq_getElem hlt];rfl
   obtain ⟨ad,e0,hcell⟩:=Kd.at_int (Kd.C_below HS.out HG.out.be) k (by omega) (by omega)
   cases e0
   rw [Int.toNat_natCast] at hcell;have hp:=H1.out;rw [hd,hg_] at hp;unfold leadP1 at hp;obtain ⟨x,hx⟩: ∃x,x=rd stayed k:=⟨_,rfl⟩;rw [←hx] at hp hcell;obtain ⟨ws,hws,hp⟩:=Option.bind_eq_some_iff.mp hp;obtain ⟨t1,hf,hp⟩:=Option.bind_eq_some_iff.mp hp;have HW:=aK hws;have HF:=aK hf;have H3:=aK hp;have HK1:=aK hlt;have i1:=eq_true (show 0≤(k:Int) by omega);have i2:=eq_true cx;clear hd hg_ hx hws hf hp H1 cx hlt;have q0:=(blk_cell BQ.out 0).trans rfl;have k0:=(blk_cell HG.out.bx 0).trans rfl
   go_wp2_with (go_at_call 55;refine Classical.byContradiction (fun hng=>?_))
   refine hng ?_;clear hng;refine (led_fold.calls 87 _ Try.func87 (by kernel_rfl) rfl #[.pointer (some ⟨gq,0,none⟩)] w0.heap.size w0 g gm B gw cW AC cC AO cO m (lead1F m) x ws (fun W=>W.heap[gq]? =some (.cells #[.pointer (some ⟨gm,0,none⟩)] 83 (0,0))) (fun A c=>A=AO∧c=cO) t t1 _ (fun W W' h hb=>blk_below h hb) ?hcb HM.out rfl ⟨rfl,rfl⟩ HG.out BQ.out HW.out HF.out).mono ?_
   case hcb=>
    rintro AO2 cO2 u u' y W ⟨e1_,e2_⟩ hgu hxq hu;exact (lead1.calls _ w0 g gm B gw cW AC cC AO2 cO2 m u u' y gq W HM.out rfl hgu hxq hu).mono (fun e W' hh=>⟨⟨hh.1,⟨AO2,cO2,⟨e1_,e2_⟩,hh.2.1⟩,hh.2.2⟩,hh.2.2.pg hxq⟩)
   rintro e w5 ⟨⟨rfl,⟨A5,c5,⟨rfl,rfl⟩,hg5⟩,hk5⟩,hx5⟩;replace HG:=aK hg5;replace BQ:=aK hx5;replace HK:=aK (HK.out.trans hk5);clear hg5 hk5 hx5 q0 k0 hcell;have u1:IntKind.i64.wrap ((k:Int)+1)=(k:Int)+1:=IntWalk.i64_in _ (by have:=HK1.out;have:=HL.out;omega)
   go_wp2
   go_roundw
   case rel=>exact ⟨k+1,t1,rfl,⟨HK1.out⟩,H3,HG,BQ,HK⟩
   case measure=>have:=HK1.out;simp only [intOf];omega
  ·have d0 : decide ((k : Int) < (stayed.length : Int)) = false := decide_eq_false cx
   have hp:=H1.out;rw [List.drop_eq_nil_of_le (by omega)] at hp;unfold leadP1 at hp;obtain rfl:=Option.some.inj hp;clear hp H1;have q0:=(blk_cell BQ.out 0).trans rfl;have k0:=(blk_cell HG.out.bx 0).trans rfl;have k3:=(blk_cell HG.out.bx 7).trans rfl;have H5:=aK (show leadP2 m t ((t.mv.map Prod.fst).drop 0)=some s' by rw [List.drop_zero];exact H2.out);have HLm:=aK (show t.mv.length≤2000000 by rw [HMV.out];exact HL.out.2);have d0b:=eq_false (show¬k<stayed.length by omega);clear cx;go_wp2;clear q0 k0 k3 d0 d0b
   go_loopw [28] (fun v28 wr=> ∃(k:Nat) (t2:Mv),v28= .int .i64 (k:Int)∧Aside0 (k≤t.mv.length)∧Aside0 (leadP2 m t2 ((t.mv.map Prod.fst).drop k)=some s'∧t2.mv=t.mv)∧Aside0 (Mg w0.heap.size w0 g gm B gw cW AC cC AO cO wr t2 t2.mv)∧Aside0 (wr.heap[gq]? =some (.cells #[.pointer (some ⟨gm,0,none⟩)] 83 (0,0)))∧Aside0 (KeepO w wr)) (fun v28 _=>t.mv.length - (intOf v28).toNat)
   case atStart=>exact ⟨0,t,rfl,⟨Nat.zero_le _⟩,⟨H5.out,rfl⟩,HG,BQ,HK⟩
   case round=>
    clear HG BQ HK H5;obtain ⟨k,t2,rfl,HKl,H5,HG,BQ,HK⟩:=hrel;by_cases cx:(k:Int)<(t.mv.length:Int)
    ·have d0 : decide ((k : Int) < (t.mv.length : Int)) = true := decide_eq_true cx
     have d0b:=eq_true (show k<t.mv.length by omega);have hlt:k<(t.mv.map Prod.fst).length:=by rw [List.length_map];omega
     have hd:=List.drop_eq_getElem_cons hlt;have hg_:(t.mv.map Prod.fst)[k]=rd (t.mv.map Prod.fst) k:=by unfold rd;rw [Int.toNat_natCast,List.getD_eq_getElem?_getD,List.getElem?_eq_getElem hlt];rfl
     have hro:Kd.C (Kd.int .i64) wr AO (t.mv.map Prod.fst).length (t.mv.map Prod.fst):=by have h_:=(Kd.R_reads' HG.out.ro).2.2;rw [H5.out.2] at h_;exact h_
     obtain ⟨ad,e0,hcell⟩:=Kd.at_int hro k (by omega) (by omega)
     cases e0
     rw [Int.toNat_natCast] at hcell;have hp:=H5.out.1;rw [hd,hg_] at hp;unfold leadP2 at hp;obtain ⟨x,hx⟩: ∃x,x=rd (t.mv.map Prod.fst) k:=⟨_,rfl⟩;rw [←hx] at hp hcell
     split at hp
     case isFalse=>simp at hp
     case isTrue hsm=>
     obtain ⟨ws,hws,hp⟩:=Option.bind_eq_some_iff.mp hp;obtain ⟨t1,hf,hp⟩:=Option.bind_eq_some_iff.mp hp;obtain ⟨pv,hpv⟩: ∃z,z=(lookM t2.mv x).getD 0:=⟨_,rfl⟩;obtain ⟨by_,hby⟩: ∃z,z=pv - x:=⟨_,rfl⟩;rw [←hpv,←hby] at hf;rw [←hpv] at hsm;have HW:=aK hws;have HF:=aK hf;have H3:=aK hp;have HK1:=aK (show k<t.mv.length by omega);have HMt:=aK H5.out.2;have HT1:=aK (foldO_mv (fun u y u'=>lead2F_mv m by_ u y u') ws t2 t1 hf);have hlk:=HG.out.mp.look1 (wfI_small hsm.1) 88 Try.underlying88;rw [←hpv] at hlk;have v1:wrap64 (pv - x)=by_:=by rw [hby];unfold wrap64;omega
     have i1:=eq_true (show 0≤(k:Int) by omega);have i2:=eq_true cx;clear hd hg_ hro hx hws hf hp H5 cx hlt hpv hby hsm;have q0:=(blk_cell BQ.out 0).trans rfl;have k0:=(blk_cell HG.out.bx 0).trans rfl;have k6:=(blk_cell HG.out.bx 6).trans rfl
     go_wp2_with ((with_reducible refine gate_dst (N:=8) rfl ?_);refine Classical.byContradiction (fun hng=>?_))
     refine hng ?_;clear hng;refine box_event ?hg (N:=8) ?hd (cs:= #[.int .i64 0]) (t:=3) ?hr ?_
     (case hd=>rfl)
     (case hg=>rfl)
     (case hr=>first|(go_simp;done)|(go_simp;rfl))
     intro gy hg w7 hbox hb;have BY:=aK hbox;have HGy:=aK (show gy≠gw by have:=Kd.R_lt HG.out.rw_ gw rfl;rw [hg];omega);have HX:=aK hb;have HGe:=aK (show gy=wr.heap.size from hg);clear hb hbox hg;have y0:=(blk_cell BY.out 0).trans rfl;have fy:=blk_frozen BY.out 0
     go_wp2_with ((with_reducible refine gate_store (t:=3) (p:=8) rfl ?_);refine Classical.byContradiction (fun hng=>?_))
     refine hng ?_;clear hng;refine store_event (t:=3) (p:=8) (v:=?voy) (w1:=(w7.setCell ⟨gy,0,none⟩ (.int .i64 by_))) ?hg ?ho ?hn ?hr ?_
     (case ho=>rfl)
     (case hg=>rfl)
     (case hn=>rfl)
     (case hr=>first|(go_simp;done)|(go_simp;rfl))
     intro w8 hw;have hc:Ch (fun k=>k=gy) w7 w8:=by rw [hw];exact (Ch.refl (fun k=>k=gy) w7).set (p:=⟨gy,0,none⟩) (.inl rfl) _
     replace HX:=aK (HX.out.trans (hc.toBelow (B:=wr.heap.size) (below_size HX.out) (fun k hk=>by have:=HGe.out;omega)));replace BY:=aK (show w8.heap[gy]? =some (.cells #[.int .i64 by_] 3 (0,0)) by rw [hw];exact blk_put BY.out 0 _ rfl);replace HG:=aK (HG.out.below HX.out);replace BQ:=aK (blk_below BQ.out HX.out);replace HK:=aK (HK.out.below HX.out);clear hw hc q0 k0 k6 y0 fy hcell HX HGe hlk;have q0:=(blk_cell BQ.out 0).trans rfl;have k0:=(blk_cell HG.out.bx 0).trans rfl
     go_wp2_with (go_at_call 55;refine Classical.byContradiction (fun hng=>?_))
     refine hng ?_;clear hng;refine (led_fold.calls 89 _ Try.func89 (by kernel_rfl) rfl #[.pointer (some ⟨gq,0,none⟩),.pointer (some ⟨gy,0,none⟩)] w0.heap.size w0 g gm B gw cW AC cC (some ad) cO m (fun u y=>lead2F m u by_ y) x ws (fun W=>W.heap[gq]? =some (.cells #[.pointer (some ⟨gm,0,none⟩)] 83 (0,0))∧W.heap[gy]? =some (.cells #[.int .i64 by_] 3 (0,0))) (fun A c=>A=some ad∧c=cO) t2 t1 _ (fun W W' h hb=>⟨blk_below h.1 hb,blk_below h.2 hb⟩) ?hcb HM.out rfl ⟨rfl,rfl⟩ HG.out ⟨BQ.out,BY.out⟩ HW.out HF.out).mono ?_
     case hcb=>
      rintro AO2 cO2 u u' y W ⟨e1_,e2_⟩ hgu hxq hu;exact (lead2.calls _ w0 g gm B gw cW AC cC AO2 cO2 m u u' y by_ gq gy W HM.out rfl hgu hxq.1 hxq.2 HGy.out hu).mono (fun e W' hh=>⟨⟨hh.1.1,⟨AO2,cO2,⟨e1_,e2_⟩,hh.1.2.1⟩,hh.1.2.2⟩,hh.1.2.2.pg hxq.1,hh.2⟩)
     rintro e w9 ⟨⟨rfl,⟨A5,c5,⟨rfl,rfl⟩,hg5⟩,hk5⟩,hx5⟩;replace HG:=aK hg5;replace BQ:=aK hx5.1;replace HK:=aK (HK.out.trans hk5);clear hg5 hk5 hx5 q0 k0 BY HGy;have u1:IntKind.i64.wrap ((k:Int)+1)=(k:Int)+1:=IntWalk.i64_in _ (by have:=HK1.out;have:=HLm.out;have:=HMt.out;omega)
     go_wp2
     go_roundw
     case rel=>exact ⟨k+1,t1,rfl,⟨HK1.out⟩,⟨H3.out,HT1.out.trans HMt.out⟩,HG,BQ,HK⟩
     case measure=>have:=HK1.out;simp only [intOf];omega
    ·have d0 : decide ((k : Int) < (t.mv.length : Int)) = false := decide_eq_false cx
     have d0b:=eq_false (show¬k<t.mv.length by omega);have hp:=H5.out.1;rw [List.drop_eq_nil_of_le (by rw [List.length_map];omega)] at hp;unfold leadP2 at hp;obtain rfl:=Option.some.inj hp;clear hp H5 cx;go_wp2
     go_end0
     exact ⟨rfl,HG.out,HK.out⟩
set_option maxHeartbeats 8000000 in
set_option maxRecDepth 100000 in
theorem mover_nowAll.calls (b:Nat) (w0:World) (g gm B gw cW:Nat) (AC:Option Addr) (cC:Nat) (AO:Option Addr) (cO:Nat) (s:Mv) (AR:Option Addr) (cR:Nat) (roots:List Int) (w:World) (hg:Mg b w0 g gm B gw cW AC cC AO cO w s s.mv) (hr:Kd.C (Kd.int .i64) w AR roots.length roots) (hl:roots.length≤4000000) (hs: ∀x∈roots,-2000000≤x∧x≤2000000):
  Calls Try.prog 60 #[.pointer (some ⟨gm,0,none⟩),.slice AR roots.length cR] w fun e w'=> ∃v0_:Value,e= .returned (v0_)∧Kd.R (Kd.int .i64) 3 w' w.heap.size (fun _=>True) v0_ (roots.map (nowF s.mv))∧Below w.heap.size w w':=by
 have HG:=aK hg;have HR:=aK hr;have HL:=aK hl;have HS:=aK hs;clear hg hr hl hs;go_enter Try.func60,Try.ntmps60;go_wp2
 go_loopw [10,5] (fun v10 v5 wr=> ∃k:Nat,v10= .int .i64 (k:Int)∧Aside0 (k≤roots.length)∧Aside0 (Kd.R (Kd.int .i64) 3 wr w.heap.size (fun _=>True) v5 ((roots.take k).map (nowF s.mv)))∧Aside0 (Below w.heap.size w wr)) (fun v10 _ _=>roots.length - (intOf v10).toNat)
 case atStart=>exact ⟨0,rfl,⟨Nat.zero_le _⟩,⟨by rw [List.take_zero];exact Kd.R_nil _ _ _ _ _⟩,⟨Below.refl _ _⟩⟩
 case round=>
  obtain ⟨k,rfl,HK,HO,HB⟩:=hrel;by_cases cx:(k:Int)<(roots.length:Int)
  ·have d0 : decide ((k : Int) < (roots.length : Int)) = true := decide_eq_true cx
   have d0b:=eq_true (show k<roots.length by omega);have hlt:k<roots.length:=by omega
   obtain ⟨ad,e0,hcell⟩:=Kd.at_int (Kd.C_below HR.out HB.out) k (by omega) (by omega)
   cases e0
   rw [Int.toNat_natCast] at hcell;have hgk:roots[k]=rd roots k:=by unfold rd;rw [Int.toNat_natCast,List.getD_eq_getElem?_getD,List.getElem?_eq_getElem hlt];rfl
   obtain ⟨x,hx⟩: ∃x,x=rd roots k:=⟨_,rfl⟩;rw [←hx] at hcell;have HX:=aK (show -2000000≤x∧x≤2000000 from by rw [hx,←hgk];exact HS.out _ (List.getElem_mem hlt));have HT:=aK (show (roots.take (k+1)).map (nowF s.mv)=(roots.take k).map (nowF s.mv)++[nowF s.mv x] by rw [List.take_succ_eq_append_getElem hlt,List.map_append,hgk,hx];rfl);have HK1:=aK hlt;have i1:=eq_true (show 0≤(k:Int) by omega);have i2:=eq_true cx;have HGr:=aK (HG.out.below HB.out);clear cx hlt hgk hx
   go_wp2_with (go_at_call 88;refine Classical.byContradiction (fun hng=>?_))
   refine hng ?_;clear hng;refine (mover_now.calls b w0 g gm B gw cW AC cC AO cO s x _ HGr.out (wfI_small HX.out)).mono ?_;rintro e w3 ⟨rfl,hb⟩;have HB3:=aK (below_step HB.out hb);have HO3:=aK (Kd.R_below HO.out hb);clear hb HB HO HGr hcell i1 i2 d0 d0b;obtain ⟨y,hy⟩: ∃y,y=nowF s.mv x:=⟨_,rfl⟩;rw [←hy] at HT ⊢;clear hy;have u1:IntKind.i64.wrap ((k:Int)+1)=(k:Int)+1:=IntWalk.i64_in _ (by have:=HK1.out;have:=HL.out;omega)
   go_wp2_with ((with_reducible refine gate_builtin (b:= .append) (xs:= #[.tmp 14,.tmp 18]) rfl ?_);refine Classical.byContradiction (fun hng=>?_))
   refine hng ?_;clear hng;refine Kd.R_append (Kd.int .i64) (w0:=w) w.heap.size rfl (.tmp 14) (.tmp 18) 23 3 (.int .i64 0) 8 rfl Try.underlying23 info3 rfl (by decide) (by omega) _ ((roots.take k).map (nowF s.mv)) y [.int .i64 y] (fun _=>True) (fun _=>False) rfl rfl ?aP (fun _ hk=>hk.elim) ?aF ?aO ?aB ?aS ?aL ?_
   (case aP=>exact rfl)
   (case aF=>exact fun _ _=>trivial)
   (case aO=>exact HO3.out)
   (case aB=>exact HB3.out)
   (case aS=>exact below_size HB3.out)
   (case aL=>have:=HL.out;have:=HK1.out;rw [List.length_map,List.length_take];omega)
   intro v92 w6 ho hbn hgr hat;have HO6:=aK (show Kd.R (Kd.int .i64) 3 w6 w.heap.size (fun _=>True) v92 ((roots.take (k+1)).map (nowF s.mv)) by rw [HT.out];exact ho);have HB6:=aK hbn;clear ho hbn hgr hat HO3 HB3;go_wp2
   go_roundw
   case rel=>exact ⟨k+1,rfl,⟨HK1.out⟩,HO6,HB6⟩
   case measure=>have:=HK1.out;simp only [intOf];omega
  ·have d0 : decide ((k : Int) < (roots.length : Int)) = false := decide_eq_false cx
   have d0b:=eq_false (show¬k<roots.length by omega);have HO1:=aK (show Kd.R (Kd.int .i64) 3 wr w.heap.size (fun _=>True) _ (roots.map (nowF s.mv)) by have h_:=HO.out;rw [List.take_of_length_le (by omega)] at h_;exact h_);clear cx;go_wp2;go_ret;exact ⟨_,rfl,HO1.out,HB.out⟩
set_option maxRecDepth 100000 in
theorem clear_run {α:Type} {enc:α→Value} {h1: ∀x,(enc x).oneCell'=true} (d z:α) {W:World} {base e g cap n c:Nat} {ok:Nat→Prop} {xs:List α} (HO:(Kd.scalar enc h1).R e W base ok (.slice (some ⟨g,0,none⟩) xs.length cap) xs) (hn:n≤xs.length)
  (t ty:TypeId) (ht:Try.prog.underlying t=some (.slice e)) (hv: ∀w,(zeroValue e).run Try.prog w= .ok (enc z) w) (hz:(enc z).cells= #[enc z]):
  ∃w1,(Builtin.clear_ #[t] ty #[.slice (some ⟨g,0,none⟩) n c]).run Try.prog W= .ok (.tuple #[]) w1∧(Kd.scalar enc h1).R e w1 base ok (.slice (some ⟨g,0,none⟩) xs.length cap) (List.replicate n z++xs.drop n)∧Ch (fun k=>k=g) W w1:=by
 rcases Nat.eq_zero_or_pos n with h0|hp
 ·subst h0
  refine ⟨W,?_,by rw [List.drop_zero];exact HO,Ch.refl _ _⟩;unfold Builtin.clear_;simp [run_underlying ht,Result.andThen]
 have hown:=Kd.own_of_R HO;rcases hown.2 with ⟨hv',_⟩|⟨g',cap',cur,hv',hb,hh,hnc,hcm,hcs,htake⟩
 ·exact absurd hv' (by simp)
 injection hv' with e1 e2 e3;injection e1 with e1;injection e1 with e1;subst e1 e3;have hcs1:cur.size=cap:=by omega
 have hrun:=Lib.run_clear_slice (P:=Try.prog) W t e ty (enc z) ht hv hz (h1 z) g 0 n c hp (fun j hj=>by rw [cell_of_row W g _ cur e (0,0) hh];simp;omega) (fun j _=>blk_frozen hh _);have hkl:(List.replicate n (enc z)).length=n:=List.length_replicate
 obtain ⟨cur',h3,h4,h5⟩:=setCells_row (List.replicate n (enc z)) 0 W cur hh (by rw [hkl];omega);obtain ⟨s1,s2,s3,s4⟩:=setCells_same g (List.replicate n (enc z)) 0 W;have hln:(List.replicate n z++xs.drop n).length=xs.length:=by rw [List.length_append,List.length_replicate,List.length_drop];omega
 have hR2:(Kd.scalar enc h1).R e (W.setCells g 0 (List.replicate n (enc z))) base ok (.slice (some ⟨g,0,none⟩) (List.replicate n z++xs.drop n).length cap) (List.replicate n z++xs.drop n):=by
  refine Kd.R_of_own ?_ (by rw [hln];exact HO.1);rw [hln];refine ⟨by rw [encs_length,hln,Nat.mul_one],.inr ⟨g,cap,cur',rfl,hb,h3,hnc,hcm,by rw [h4,hcs],?_⟩⟩;have htk:cur.toList.take xs.length=encs enc xs:=by rw [←htake,Nat.mul_one]
  have hdr:(cur.toList.drop n).take (xs.length - n)=encs enc (xs.drop n):=by
   have:encs enc (xs.drop n)=(encs enc xs).drop n:=by simp [encs,List.map_drop]
   rw [this,←htk,List.drop_take]
  have hrep:encs enc (List.replicate n z)=List.replicate n (enc z):=by simp [encs]
  rw [h5,hkl,Nat.mul_one,List.take_zero,List.nil_append,Nat.zero_add,encs_append,hrep,←hdr];rw [List.take_append,hkl,List.take_of_length_le (by rw [hkl];omega)]
 rw [hln] at hR2;exact ⟨_,hrun,hR2,⟨s1,s2,s3,by rw [s4];exact Nat.le_refl _,fun k _ hk=>setCells_far _ _ k hk⟩⟩
set_option maxRecDepth 100000 in
theorem clear_all {W:World} {base e c:Nat} {ok:Nat→Prop} {A:Option Addr} {xs:List Bool} (HO:Kd.bool.R e W base ok (.slice A xs.length c) xs)
  (t ty:TypeId) (ht:Try.prog.underlying t=some (.slice e)) (hv: ∀w,(zeroValue e).run Try.prog w= .ok (.bool false) w):
  ∃w1,(Builtin.clear_ #[t] ty #[.slice A xs.length c]).run Try.prog W= .ok (.tuple #[]) w1∧Kd.bool.R e w1 base ok (.slice A xs.length c) (List.replicate xs.length false)∧Ch (fun k=>some k=(Value.slice A xs.length c).ownBlock) W w1:=by
 rcases Nat.eq_zero_or_pos xs.length with h0|hp
 ·obtain rfl : xs = [] := List.eq_nil_of_length_eq_zero h0
  refine ⟨W,?_,HO,Ch.refl _ _⟩;unfold Builtin.clear_
  cases A<;>simp [run_underlying ht,Result.andThen]
 ·obtain ⟨g, cap, hv', _, _, _⟩ := Kd.R_form HO hp
  injection hv' with e1 e2 e3;subst e1 e3;obtain ⟨w1,h1,h2,h3⟩:=clear_run (enc:=Value.bool) (h1:=fun _=>rfl) false false (c:=c) HO (Nat.le_refl _) t ty ht hv rfl;refine ⟨w1,h1,?_,h3.mono (fun k hk=>by rw [hk];rfl)⟩;rw [List.drop_length,List.append_nil] at h2;exact h2
end Go.Proofs.Ytbaklikaoleplaa.K
