import Derived.Test.YtbaklikaoleplaaPg24
import Derived.Test.YtbaklikaoleplaaPg28
import Derived.Test.YtbaklikaoleplaaPg32
import Derived.Test.YtbaklikaoleplaaPg33
namespace Go.Proofs.Ytbaklikaoleplaa.K
open Go.RowKit Go.Proofs.YtbaklikaoleplaaW.PrintWords Go.Proofs.YtbaklikaoleplaaW.PrintLast Go.Proofs.YtbaklikaoleplaaW.PrintMore
attribute [local go_sem] max2_int min2_int max_two min_two max_three min_three max_four min_four
set_option linter.unusedVariables false
set_option linter.unusedSimpArgs false
structure Xv where
 ws:List Int
 y:Int
 t:Int
 o:Int
 cd:List Bool
 nw:List Int
 ok:Bool
def ownA (A:Option Addr):Option Nat:=(Value.slice A 0 0).ownBlock
theorem ownA_eq (A:Option Addr) (n c:Nat):(Value.slice A n c).ownBlock=ownA A:=by cases A<;>rfl
def S3 (gx gw:Nat) (AT:Option Addr) (k:Nat):Prop:=k=gx∨k=gw∨some k=ownA AT
structure Xg (b:Nat) (w0:World) (gx gw:Nat) (AK:Option Addr) (nK cK cW:Nat) (AC:Option Addr) (cC:Nat) (AT:Option Addr) (cT:Nat) (w:World) (s:Xv):Prop where
 bx:w.heap[gx]? =some (.cells #[.slice AK nK cK,.slice (some ⟨gw,0,none⟩) s.ws.length cW,.int .i64 s.y,.int .i64 s.t,.int .i64 s.o,.slice AC s.cd.length cC,.slice AT s.nw.length cT,.bool s.ok] 77 (0,0))
 ge:b≤gx
 rw_:Kd.R (Kd.int .i64) 3 w b (fun k=>k≠gx∧some k≠ownA AT) (.slice (some ⟨gw,0,none⟩) s.ws.length cW) s.ws
 rt:Kd.R (Kd.int .i64) 3 w b (fun k=>k≠gx∧k≠gw) (.slice AT s.nw.length cT) s.nw
 rc:Kd.R Kd.bool 4 w b (fun k=>k≠gx∧k≠gw∧some k≠ownA AT) (.slice AC s.cd.length cC) s.cd
 be:Below b w0 w
 sz:b≤w.heap.size
section
variable {b gx gw nK cK cW cC cT:Nat} {w0 w w1:World} {AK AC AT:Option Addr} {s:Xv}
theorem Xg.below (h:Xg b w0 gx gw AK nK cK cW AC cC AT cT w s) (hb:Below w.heap.size w w1):Xg b w0 gx gw AK nK cK cW AC cC AT cT w1 s:=
  ⟨blk_below h.bx hb,h.ge,Kd.R_below h.rw_ hb,Kd.R_below h.rt hb,Kd.R_below h.rc hb,h.be.trans (hb.mono h.sz),Nat.le_trans h.sz hb.size⟩
theorem Xg.gwge (h:Xg b w0 gx gw AK nK cK cW AC cC AT cT w s):b≤gw:=Kd.R_base h.rw_ gw rfl
theorem Xg.gwx (h:Xg b w0 gx gw AK nK cK cW AC cC AT cT w s):gw≠gx∧some gw≠ownA AT:=h.rw_.1 gw rfl
theorem Xg.step (h:Xg b w0 gx gw AK nK cK cW AC cC AT cT w s) {S:Nat→Prop} (hc:Ch S w w1) (hS: ∀k,S k→b≤k):Below b w0 w1∧b≤w1.heap.size:=⟨h.be.trans (hc.toBelow h.sz hS),Nat.le_trans h.sz hc.size⟩
theorem Xg.word (h:Xg b w0 gx gw AK nK cK cW AC cC AT cT w s) (i v:Int):
  Xg b w0 gx gw AK nK cK cW AC cC AT cT (w.setCell ⟨gw,i.toNat,none⟩ (.int .i64 v)) {s with ws:=s.ws.set i.toNat v}∧Ch (S3 gx gw AT) w (w.setCell ⟨gw,i.toNat,none⟩ (.int .i64 v)):=by
 have hc:Ch (fun k=>k=gw) w (w.setCell ⟨gw,i.toNat,none⟩ (.int .i64 v)):=(Ch.refl (fun k=>k=gw) w).set (p:=⟨gw,i.toNat,none⟩) (.inl rfl) _
 have hs:=h.step hc (fun k hk=>by rw [hk];exact h.gwge);have hl:(s.ws.set i.toNat v).length=s.ws.length:=List.length_set
 refine ⟨⟨?_,h.ge,?_,hc.R h.rt (fun k hk=>hk.2),hc.R h.rc (fun k hk=>hk.2.1),hs.1,hs.2⟩,hc.mono (fun k hk=> .inr (.inl hk))⟩
 ·show (w.setCell ⟨gw, i.toNat, none⟩ (.int .i64 v)).heap[gx]? = some (.cells #[.slice AK nK cK, .slice (some ⟨gw, 0, none⟩) (s.ws.set i.toNat v).length cW, .int .i64 s.y, .int .i64 s.t, .int .i64 s.o, .slice AC s.cd.length cC, .slice AT s.nw.length cT, .bool s.ok] 77 (0, 0))
  rw [hl];exact hc.blk h.bx (fun e=>h.gwx.1 e.symm)
 ·show Kd.R (Kd.int .i64) 3 _ b _ (.slice (some ⟨gw, 0, none⟩) (s.ws.set i.toNat v).length cW) (s.ws.set i.toNat v)
  rw [hl];exact (Kd.R_put (enc:=Value.int .i64) (h1:=fun _=>rfl) h.rw_ i v).1
theorem Xg.told {gt:Nat} (h:Xg b w0 gx gw AK nK cK cW AC cC (some ⟨gt,0,none⟩) cT w s) (i v:Int):
  Xg b w0 gx gw AK nK cK cW AC cC (some ⟨gt,0,none⟩) cT (w.setCell ⟨gt,i.toNat,none⟩ (.int .i64 v)) {s with nw:=s.nw.set i.toNat v}∧Ch (S3 gx gw (some ⟨gt,0,none⟩)) w (w.setCell ⟨gt,i.toNat,none⟩ (.int .i64 v)):=by
 have hc:Ch (fun k=>k=gt) w (w.setCell ⟨gt,i.toNat,none⟩ (.int .i64 v)):=(Ch.refl (fun k=>k=gt) w).set (p:=⟨gt,i.toNat,none⟩) (.inl rfl) _
 have hn:=h.rt.1 gt rfl;have hs:=h.step hc (fun k hk=>by rw [hk];exact Kd.R_base h.rt gt rfl);have hl:(s.nw.set i.toNat v).length=s.nw.length:=List.length_set
 refine ⟨⟨?_,h.ge,hc.R h.rw_ (fun k hk e=>hk.2 (by rw [e];rfl)),?_,hc.R h.rc (fun k hk e=>hk.2.2 (by rw [e];rfl)),hs.1,hs.2⟩,hc.mono (fun k hk=> .inr (.inr (by rw [hk];rfl)))⟩
 ·show (w.setCell ⟨gt, i.toNat, none⟩ (.int .i64 v)).heap[gx]? = some (.cells #[.slice AK nK cK, .slice (some ⟨gw, 0, none⟩) s.ws.length cW, .int .i64 s.y, .int .i64 s.t, .int .i64 s.o, .slice AC s.cd.length cC, .slice (some ⟨gt, 0, none⟩) (s.nw.set i.toNat v).length cT, .bool s.ok] 77 (0, 0))
  rw [hl];exact hc.blk h.bx (fun e=>hn.1 e.symm)
 ·show Kd.R (Kd.int .i64) 3 _ b _ (.slice (some ⟨gt, 0, none⟩) (s.nw.set i.toNat v).length cT) (s.nw.set i.toNat v)
  rw [hl];exact (Kd.R_put (enc:=Value.int .i64) (h1:=fun _=>rfl) h.rt i v).1
theorem Xg.cell (h:Xg b w0 gx gw AK nK cK cW AC cC AT cT w s) {s':Xv} (hc:Ch (fun k=>k=gx) w w1) (hb:w1.heap[gx]? =some (.cells #[.slice AK nK cK,.slice (some ⟨gw,0,none⟩) s'.ws.length cW,.int .i64 s'.y,.int .i64 s'.t,.int .i64 s'.o,.slice AC s'.cd.length cC,.slice AT s'.nw.length cT,.bool s'.ok] 77 (0,0)))
  (e1:s'.ws=s.ws) (e2:s'.cd=s.cd) (e3:s'.nw=s.nw):Xg b w0 gx gw AK nK cK cW AC cC AT cT w1 s'∧Ch (S3 gx gw AT) w w1:=by
 have hs:=h.step hc (fun k hk=>by rw [hk];exact h.ge);exact ⟨⟨hb,h.ge,by rw [e1];exact hc.R h.rw_ (fun k hk=>hk.1),by rw [e3];exact hc.R h.rt (fun k hk=>hk.1),by rw [e2];exact hc.R h.rc (fun k hk=>hk.1),hs.1,hs.2⟩,hc.mono (fun k hk=> .inl hk)⟩
theorem Xg.chx (i:Nat) (v:Value) (w:World):Ch (fun k=>k=gx) w (w.setCell ⟨gx,i,none⟩ v):=(Ch.refl (fun k=>k=gx) w).set (p:=⟨gx,i,none⟩) (.inl rfl) _
theorem Xg.okS (h:Xg b w0 gx gw AK nK cK cW AC cC AT cT w s) (f:Bool):Xg b w0 gx gw AK nK cK cW AC cC AT cT (w.setCell ⟨gx,7,none⟩ (.bool f)) {s with ok:=f}∧Ch (S3 gx gw AT) w (w.setCell ⟨gx,7,none⟩ (.bool f)):=
  h.cell (Xg.chx 7 _ w) (blk_put h.bx 7 _ rfl) rfl rfl rfl
theorem Xg.oldS (h:Xg b w0 gx gw AK nK cK cW AC cC AT cT w s) (o:Int):Xg b w0 gx gw AK nK cK cW AC cC AT cT (w.setCell ⟨gx,4,none⟩ (.int .i64 o)) {s with o:=o}∧Ch (S3 gx gw AT) w (w.setCell ⟨gx,4,none⟩ (.int .i64 o)):=
  h.cell (Xg.chx 4 _ w) (blk_put h.bx 4 _ rfl) rfl rfl rfl
end
section
variable {b gx gw nK cK cW cC cT:Nat} {w0 w w1:World} {AK AC AT:Option Addr} {s:Xv}
theorem Xg.s3lt (h:Xg b w0 gx gw AK nK cK cW AC cC AT cT w s) (k:Nat) (hk:S3 gx gw AT k):k<w.heap.size:=by
 rcases hk with rfl|rfl|e
 ·exact blk_lt h.bx
 ·exact Kd.R_lt h.rw_ _ rfl
 ·exact Kd.R_lt h.rt k (by rw [ownA_eq];exact e.symm)
theorem Xg.s3ge (h:Xg b w0 gx gw AK nK cK cW AC cC AT cT w s) (k:Nat) (hk:S3 gx gw AT k):b≤k:=by
 rcases hk with rfl|rfl|e
 ·exact h.ge
 ·exact h.gwge
 ·exact Kd.R_base h.rt k (by rw [ownA_eq];exact e.symm)
theorem Xg.fresh {α:Type} {d:Kd α} {e:Nat} {ok:Nat→Prop} {v:Value} {xs:List α} (h:Xg b w0 gx gw AK nK cK cW AC cC AT cT w s) (hr:d.R e w1 w.heap.size ok v xs):d.R e w1 b (fun k=> ¬S3 gx gw AT k) v xs:=
  Kd.R_lower (Kd.R_mono (Kd.R_bound hr) (fun k hk h3=>by have:=h.s3lt k h3;have:=hk.2.1;omega)) h.sz
end
theorem R_types_ne {α β:Type} {d:Kd α} {d':Kd β} {e e' b b':Nat} {w:World} {ok ok':Nat→Prop} {v u:Value} {xs:List α} {ys:List β} (h:d.R e w b ok v xs) (h':d'.R e' w b' ok' u ys) (ht: ∀q,q∈e::d.E→q∉e'::d'.E): ∀k,v.ownBlock=some k→u.ownBlock≠some k:=fun k hk hk'=>by
 obtain ⟨_,_,_,q,hq,c,hc⟩:=(Kd.R_bound h).1 k hk;obtain ⟨_,_,_,q',hq',c',hc'⟩:=(Kd.R_bound h').1 k hk';rw [hc] at hc';injection hc' with hc';injection hc' with _ hc';exact ht q hq (by rw [hc'];exact hq')
section
variable {b gx gw nK cK cW cC cT:Nat} {w0 w w1:World} {AK AC AT:Option Addr} {s:Xv}
theorem Xg.other (h:Xg b w0 gx gw AK nK cK cW AC cC AT cT w s) {S:Nat→Prop} (hc:Ch S w w1) (h3: ∀k,S k→¬S3 gx gw AT k) (hC: ∀k,S k→(Value.slice AC s.cd.length cC).ownBlock≠some k) (hb: ∀k,S k→b≤k):Xg b w0 gx gw AK nK cK cW AC cC AT cT w1 s:=by
 have hs:=h.step hc hb;refine ⟨hc.blk h.bx (fun e=>h3 _ e (.inl rfl)),h.ge,?_,?_,?_,hs.1,hs.2⟩
 ·exact Kd.R_of_own (enc:=Value.int .i64) (h1:=fun _=>rfl) (Kd.own_of_R (enc:=Value.int .i64) (h1:=fun _=>rfl) (hc.R (ok:=fun k=>k=gw) (Kd.R_of_own (enc:=Value.int .i64) (h1:=fun _=>rfl) (Kd.own_of_R (enc:=Value.int .i64) (h1:=fun _=>rfl) h.rw_) (fun k hk=>by injection hk with hk;exact hk.symm)) (fun k hk e=>h3 k e (.inr (.inl hk))))) h.rw_.1
 ·exact Kd.R_of_own (enc:=Value.int .i64) (h1:=fun _=>rfl) (Kd.own_of_R (enc:=Value.int .i64) (h1:=fun _=>rfl) (hc.R (ok:=fun k=>some k=ownA AT) (Kd.R_of_own (enc:=Value.int .i64) (h1:=fun _=>rfl) (Kd.own_of_R (enc:=Value.int .i64) (h1:=fun _=>rfl) h.rt) (fun k hk=>by rw [ownA_eq] at hk;exact hk.symm)) (fun k hk e=>h3 k e (.inr (.inr hk))))) h.rt.1
 ·exact Kd.R_of_own (enc:=Value.bool) (h1:=fun _=>rfl) (Kd.own_of_R (enc:=Value.bool) (h1:=fun _=>rfl) (hc.R (ok:=fun k=>(Value.slice AC s.cd.length cC).ownBlock=some k) (Kd.R_of_own (enc:=Value.bool) (h1:=fun _=>rfl) (Kd.own_of_R (enc:=Value.bool) (h1:=fun _=>rfl) h.rc) (fun k hk=>hk)) (fun k hk e=>hC k e hk))) h.rc.1
end
def cpyS (ws:List Int) (o j:Int):Nat→List Int
  |0=>ws
  |k+1=>(cpyS ws o j k).set (o+k).toNat (rd (cpyS ws o j k) (j+k))
theorem cpyS_len (ws:List Int) (o j:Int): ∀k,(cpyS ws o j k).length=ws.length
  |0=>rfl
  |k+1=>by unfold cpyS;rw [List.length_set];exact cpyS_len ws o j k
def moveS (k : Nat) (l0 : List S53) (s : Xv) (v : Int) : Option (Int × Xv) :=
 if v=0 then some (v,s) else if v>s.y then some (v,s) else if s.ok=false then some (v,s)
 else if (1≤v∧v≤s.nw.length)∧(s.nw.length≤2000000∧s.ws.length≤2000000)∧0≤s.o∧s.o≤2000000 then
  if rd s.nw (v - 1)>0 then some (rd s.nw (v - 1),s)
  else (spec_l21Size.f k l0 s.ws (v - 1) s.y).bind fun n=>
   if 0≤n∧n≤2000000∧v - 1+n≤s.ws.length then
    if s.o+n>s.ws.length then some (v,{s with ok:=false})
    else some (s.o+1,{s with ws:=cpyS s.ws s.o (v - 1) n.toNat,nw:=s.nw.set (v - 1).toNat (s.o+1),o:=s.o+n})
   else none
 else none
set_option maxHeartbeats 16000000 in
set_option maxRecDepth 100000 in
theorem l22Move_move.calls (k b:Nat) (w0:World) (gx gw:Nat) (AK:Option Addr) (cK cW:Nat) (l0:List S53) (AC:Option Addr) (cC:Nat) (AT:Option Addr) (cT:Nat) (s s':Xv) (v r:Int) (w:World) (hc0:Kd.C k53 w0 AK l0.length l0) (hcl:l0.length≤cK) (hb0:b=w0.heap.size) (hg:Xg b w0 gx gw AK l0.length cK cW AC cC AT cT w s) (h:moveS k l0 s v=some (r,s')):
  Calls Try.prog 46 #[.pointer (some ⟨gx,0,none⟩),.int .i64 v] w fun e w'=>e= .returned (.int .i64 r)∧Xg b w0 gx gw AK l0.length cK cW AC cC AT cT w' s'∧Ch (S3 gx gw AT) w w':=by
 subst hb0;have HG:=aK hg;have HC0:=aK hc0;have HCl:=aK hcl;have HCh:=aK (Ch.refl (S3 gx gw AT) w);have q0:=(blk_cell HG.out.bx 0).trans rfl;have q1:=(blk_cell HG.out.bx 1).trans rfl;have q2:=(blk_cell HG.out.bx 2).trans rfl;have q3:=(blk_cell HG.out.bx 3).trans rfl;have q4:=(blk_cell HG.out.bx 4).trans rfl;have q5:=(blk_cell HG.out.bx 5).trans rfl;have q6:=(blk_cell HG.out.bx 6).trans rfl;have q7:=(blk_cell HG.out.bx 7).trans rfl;clear hg hc0 hcl;unfold moveS at h;by_cases c0:v=0
 ·rw [if_pos c0] at h
  obtain ⟨rfl,rfl⟩:=Prod.mk.inj (Option.some.inj h);have d0:decide (v=0)=true:=decide_eq_true c0
  have d0b:(v==0)=true:=beq_iff_eq.mpr c0
  clear c0 h;go_enter Try.func46,Try.ntmps46;go_wp2;go_ret;exact ⟨rfl,HG.out,HCh.out⟩
 rw [if_neg c0] at h;have d0:decide (v=0)=false:=decide_eq_false c0
 have d0b:(v==0)=false:=beq_eq_false_iff_ne.mpr c0
 clear c0;by_cases c1:v>s.y
 ·rw [if_pos c1] at h
  obtain ⟨rfl,rfl⟩:=Prod.mk.inj (Option.some.inj h);have d1:decide (v>s.y)=true:=decide_eq_true c1
  clear c1 h;go_enter Try.func46,Try.ntmps46;go_wp2;go_ret;exact ⟨rfl,HG.out,HCh.out⟩
 rw [if_neg c1] at h;have d1:decide (v>s.y)=false:=decide_eq_false c1
 clear c1
 cases hok:s.ok with
 |false=>
  rw [if_pos hok] at h;obtain ⟨rfl,rfl⟩:=Prod.mk.inj (Option.some.inj h);rw [hok] at q7;clear h;go_enter Try.func46,Try.ntmps46;go_wp2;go_ret;exact ⟨rfl,HG.out,HCh.out⟩
 | true =>
  rw [if_neg (by rw [hok];simp)] at h
  split at h
  case isFalse=>simp at h
  case isTrue hx=>
  rw [hok] at q7;obtain ⟨gt,cT',eT,_,_,_⟩:=Kd.R_form HG.out.rt (by omega);injection eT with e1 e2 e3;subst e1 e3;clear e2;have HX:=aK hx;have HOK:=aK hok;obtain ⟨j,hj⟩: ∃j,j=v - 1:=⟨_,rfl⟩;rw [←hj] at h;have v1:wrap64 (v - 1)=j:=by rw [hj];unfold wrap64;omega
  have u1:IntKind.i64.wrap (v - 1)=j:=by rw [hj];exact IntWalk.i64_in _ (by omega)
  have HJ:=aK (show 0≤j∧j<(s.nw.length:Int) by omega);have HJv:=aK hj;have i1:=eq_true HJ.out.1;have i2:=eq_true HJ.out.2;obtain ⟨u,hu⟩: ∃u,u=rd s.nw j:=⟨_,rfl⟩;have t0:w.cell? ⟨gt,j.toNat,none⟩=some (.int .i64 u):=by rw [hu];exact (Kd.R_cell (enc:=Value.int .i64) (h1:=fun _=>rfl) 0 HG.out.rt j HJ.out.1 HJ.out.2).1
  rw [←hu] at h;clear hx hok hj hu;by_cases cu:u>0
  ·rw [if_pos cu] at h
   obtain ⟨rfl,rfl⟩:=Prod.mk.inj (Option.some.inj h);have d2:decide (u>0)=true:=decide_eq_true cu
   clear cu h;go_enter Try.func46,Try.ntmps46;go_wp2;go_ret;exact ⟨rfl,HG.out,HCh.out⟩
  rw [if_neg cu] at h;have d2:decide (u>0)=false:=decide_eq_false cu
  clear cu;obtain ⟨n,hn,h⟩:=Option.bind_eq_some_iff.mp h
  split at h
  case isFalse=>simp at h
  case isTrue hy=>
  have HN:=aK hn;have HY:=aK hy;have H:=aK h;clear hn hy h;go_enter Try.func46,Try.ntmps46;go_wp2;refine sT 18 (S:=fun w'=>w'.cell? ⟨gx,0,none⟩=some (.slice AK l0.length cK)∧w'.cell? ⟨gx,1,none⟩=some (.slice (some ⟨gw,0,none⟩) s.ws.length cW)∧w'.cell? ⟨gx,2,none⟩=some (.int .i64 s.y)) (ds:=[16]) ⟨(by go_simp),(by go_simp),(by go_simp)⟩ (fun hHeld=>?_);replace HG:=aK (HG.out.below (below_drew1 (Below.refl w.heap.size w)));replace HCh:=aK (HCh.out.below (below_drew1 (Below.refl w.heap.size w)));generalize World.drew w=wt at HG HCh hHeld ⊢;refine pS 0 43 (lA 18 1) ?_;refine pS 1 44 (lA 18 3) ?_;refine pS 2 45 (lA 18 7) ?_;refine pS 4 47 (lA 18 23) ?_;refine pS 5 48 (lA 18 55) ?_;refine pS 6 49 (lA 18 119) ?_;refine pS 7 50 (lA 18 247) ?_;refine pS 9 52 (lA 18 759) ?_;refine pS 10 53 (lA 18 1783) ?_;refine pS 11 54 (lA 18 3831) ?_;refine pS 12 55 (lA 18 7927) ?_;refine pS 13 56 (lA 18 16119) ?_;refine pS 14 57 (lA 18 32503) ?_;refine tS 3 46 (lA 18 32511) rfl rfl (by kernel_rfl) hHeld zz35 ?_;refine tS 8 51 (lA 18 32767) rfl rfl (by kernel_rfl) hHeld zz35 ?_;refine tS 15 58 (lA 18 65535) rfl rfl (by kernel_rfl) hHeld zz35 ?_;refine last_ (i:=16) (N:=some 59) (lA 18 131071) rfl rfl (by kernel_rfl) (by decide) (fun K hK=>?_);refine gO Try.func48 #[.slice AK l0.length cK,.slice (some ⟨gw,0,none⟩) s.ws.length cW,.int .i64 j,.int .i64 s.y] ?_;(with_reducible refine (spec_l21Size.calls k AK cK l0 (some ⟨gw,0,none⟩) cW s.ws j s.y n _ (Kd.C_below HC0.out HG.out.be) HCl.out (Kd.R_reads' HG.out.rw_).2.2 (Kd.R_reads' HG.out.rw_).2.1 HN.out).mono ?_);rintro e w2 ⟨rfl,hb⟩;replace HG:=aK (HG.out.below hb);replace HCh:=aK (HCh.out.below hb);clear hb;refine ⟨_,rfl,?_⟩;refine hK.out _ _ ?_;clear hK K;refine nS 59 ?_;refine pS 17 5 (lA 18 262143) ?_;refine done_ (by kernel_rfl) ?_;clear hHeld q0 q1 q2 q3 q4 q5 q6 q7 t0 d0 d0b d1 d2;have q0:=(blk_cell HG.out.bx 0).trans rfl;have q1:=(blk_cell HG.out.bx 1).trans rfl;have q2:=(blk_cell HG.out.bx 2).trans rfl;have q3:=(blk_cell HG.out.bx 3).trans rfl;have q4:=(blk_cell HG.out.bx 4).trans rfl;have q5:=(blk_cell HG.out.bx 5).trans rfl;have q6:=(blk_cell HG.out.bx 6).trans rfl;have q7:=(blk_cell HG.out.bx 7).trans rfl;obtain ⟨o1,ho⟩: ∃x,x=s.o+n:=⟨_,rfl⟩;have HO1:=aK ho;have v2:wrap64 (s.o+n)=o1:=by rw [ho];unfold wrap64;have:=HX.out;have:=HY.out;omega
  have u2:IntKind.i64.wrap (s.o+n)=o1:=by rw [ho];exact IntWalk.i64_in _ (by have:=HX.out;have:=HY.out;omega)
  have h:=H.out;rw [←ho] at h;clear ho;by_cases c1:o1>(s.ws.length:Int)
  ·rw [if_pos c1] at h
   obtain ⟨rfl,rfl⟩:=Prod.mk.inj (Option.some.inj h);have d1:decide (o1>(s.ws.length:Int))=true:=decide_eq_true c1
   clear c1 h H;go_wp2;refine sT 14 (S:=fun w'=>w'.cell? ⟨gx,1,none⟩=some (.slice (some ⟨gw,0,none⟩) s.ws.length cW)∧w'.cell? ⟨gx,4,none⟩=some (.int .i64 s.o)) (ds:=[]) ⟨(by go_simp),(by go_simp)⟩ (fun hHeld=>?_);replace HG:=aK (HG.out.below (below_drew1 (Below.refl w2.heap.size w2)));replace HCh:=aK (HCh.out.below (below_drew1 (Below.refl w2.heap.size w2)));generalize World.drew w2=wt at HG HCh hHeld ⊢;refine pS 0 60 (lA 14 1) ?_;refine pS 1 61 (lA 14 3) ?_;refine pS 2 62 (lA 14 7) ?_;refine pS 3 63 (lA 14 15) ?_;refine pS 5 65 (lA 14 47) ?_;refine pS 7 67 (lA 14 175) ?_;refine pS 8 68 (lA 14 431) ?_;refine pS 9 69 (lA 14 943) ?_;refine pS 10 70 (lA 14 1967) ?_;refine tS 4 64 (lA 14 1983) rfl rfl (by kernel_rfl) hHeld zz33 ?_;refine pS 6 66 (lA 14 2047) ?_;refine tS 11 71 (lA 14 4095) rfl rfl (by kernel_rfl) hHeld zz33 ?_;refine pS 12 72 (lA 14 8191) ?_;refine pS 13 73 (lA 14 16383) ?_;refine done_ (by kernel_rfl) ?_;clear hHeld q0 q1 q2 q3 q4 q5 q6 q7;have q0:=(blk_cell HG.out.bx 0).trans rfl;have q1:=(blk_cell HG.out.bx 1).trans rfl;have q2:=(blk_cell HG.out.bx 2).trans rfl;have q3:=(blk_cell HG.out.bx 3).trans rfl;have q4:=(blk_cell HG.out.bx 4).trans rfl;have q5:=(blk_cell HG.out.bx 5).trans rfl;have q6:=(blk_cell HG.out.bx 6).trans rfl;have q7:=(blk_cell HG.out.bx 7).trans rfl;have f7:=blk_frozen HG.out.bx 7
   go_wp2_with ((with_reducible refine gate_store (t:=4) (p:=76) rfl ?_);refine Classical.byContradiction (fun hng=>?_))
   refine hng ?_;clear hng;refine store_event (t:=4) (p:=76) (v:=?vo8) (w1:=(wt.setCell ⟨gx,7,none⟩ (.bool false))) ?hg ?ho ?hn ?hr ?_
   (case ho=>rfl)
   (case hg=>rfl)
   (case hn=>rfl)
   (case hr=>first|(go_simp;done)|(go_simp;rfl))
   intro w4 hw;have hn:=HG.out.okS false;rw [←hw] at hn;clear hw f7 q0 q1 q2 q3 q4 q5 q6 q7;go_wp2;go_ret;exact ⟨rfl,hn.1,HCh.out.then_ hn.2⟩
  ·rw [if_neg c1] at h
   have HR_:=aK (Prod.mk.inj (Option.some.inj h));have d1:decide (o1>(s.ws.length:Int))=false:=decide_eq_false c1
   have HFI:=aK c1;clear c1 h H;go_wp2;refine sT 14 (S:=fun w'=>w'.cell? ⟨gx,1,none⟩=some (.slice (some ⟨gw,0,none⟩) s.ws.length cW)∧w'.cell? ⟨gx,4,none⟩=some (.int .i64 s.o)) (ds:=[]) ⟨(by go_simp),(by go_simp)⟩ (fun hHeld=>?_);replace HG:=aK (HG.out.below (below_drew1 (Below.refl w2.heap.size w2)));replace HCh:=aK (HCh.out.below (below_drew1 (Below.refl w2.heap.size w2)));generalize World.drew w2=wt at HG HCh hHeld ⊢;refine pS 0 60 (lA 14 1) ?_;refine pS 1 61 (lA 14 3) ?_;refine pS 2 62 (lA 14 7) ?_;refine pS 3 63 (lA 14 15) ?_;refine pS 5 65 (lA 14 47) ?_;refine pS 7 67 (lA 14 175) ?_;refine pS 8 68 (lA 14 431) ?_;refine pS 9 69 (lA 14 943) ?_;refine pS 10 70 (lA 14 1967) ?_;refine tS 4 64 (lA 14 1983) rfl rfl (by kernel_rfl) hHeld zz33 ?_;refine pS 6 66 (lA 14 2047) ?_;refine tS 11 71 (lA 14 4095) rfl rfl (by kernel_rfl) hHeld zz33 ?_;refine pS 12 72 (lA 14 8191) ?_;refine pS 13 73 (lA 14 16383) ?_;refine done_ (by kernel_rfl) ?_;clear hHeld q0 q1 q2 q3 q4 q5 q6 q7;go_wp2
   go_loopw [6] (fun v6 wr=> ∃(k_:Nat) (t:Xv),v6= .int .i64 (k_:Int)∧Aside0 (k_≤n.toNat∧t={s with ws:=cpyS s.ws s.o j k_})∧Aside0 (Xg w0.heap.size w0 gx gw AK l0.length cK cW AC cC (some ⟨gt,0,none⟩) cT wr t)∧Aside0 (Ch (S3 gx gw (some ⟨gt,0,none⟩)) w wr)) (fun v6 _=>n.toNat - (intOf v6).toNat)
   case atStart=>exact ⟨0,s,rfl,⟨Nat.zero_le _,rfl⟩,HG,HCh⟩
   case round=>
    clear HG HCh;obtain ⟨k_,t,rfl,HT0,HG,HCh⟩:=hrel;have q0:=(blk_cell HG.out.bx 0).trans rfl;have q1:=(blk_cell HG.out.bx 1).trans rfl;have q2:=(blk_cell HG.out.bx 2).trans rfl;have q3:=(blk_cell HG.out.bx 3).trans rfl;have q4:=(blk_cell HG.out.bx 4).trans rfl;have q5:=(blk_cell HG.out.bx 5).trans rfl;have q6:=(blk_cell HG.out.bx 6).trans rfl;have q7:=(blk_cell HG.out.bx 7).trans rfl;by_cases cx:(k_:Int)<n
    ·have d3 : decide ((k_ : Int) < n) = true := decide_eq_true cx
     have HK1:=aK (show k_<n.toNat by omega);have hlen:t.ws.length=s.ws.length:=by rw [HT0.out.2];exact cpyS_len _ _ _ _
     have ho:t.o=s.o:=by rw [HT0.out.2]
     have hy:=HY.out;have hx:=HX.out;have hj:=HJ.out;have hjv:=HJv.out;have hf:=HFI.out;have h1:=HO1.out;obtain ⟨a1,ha1⟩: ∃x,x=t.o+(k_:Int):=⟨_,rfl⟩;obtain ⟨a2,ha2⟩: ∃x,x=j+(k_:Int):=⟨_,rfl⟩;have v3:wrap64 (t.o+(k_:Int))=a1:=by rw [ha1,ho];unfold wrap64;omega
     have v4:wrap64 (j+(k_:Int))=a2:=by rw [ha2];unfold wrap64;omega
     have HT:=aK (show 0≤a1∧a1<(t.ws.length:Int) by omega);have HT2:=aK (show 0≤a2∧a2<(t.ws.length:Int) by omega);have i3:=eq_true HT.out.1;have i4:=eq_true HT.out.2;have i5:=eq_true HT2.out.1;have i6:=eq_true HT2.out.2;have HA:=aK (And.intro ha1 ha2);have HTo:=aK ho;obtain ⟨z,hz⟩: ∃z,z=rd t.ws a2:=⟨_,rfl⟩;have t0:wr.cell? ⟨gw,a2.toNat,none⟩=some (.int .i64 z):=by rw [hz];exact (Kd.R_cell (enc:=Value.int .i64) (h1:=fun _=>rfl) 0 HG.out.rw_ a2 HT2.out.1 HT2.out.2).1
     have HZ:=aK hz;have u3:IntKind.i64.wrap ((k_:Int)+1)=(k_:Int)+1:=IntWalk.i64_in _ (by omega)
     clear hlen ho hy hx hj hjv hf h1 ha1 ha2 hz cx;go_wp2;refine sT 25 (S:=fun w'=>w'.cell? ⟨gx,1,none⟩=some (.slice (some ⟨gw,0,none⟩) t.ws.length cW)∧w'.cell? ⟨gx,4,none⟩=some (.int .i64 t.o)∧w'.cell? ⟨gw,a2.toNat,none⟩=some (.int .i64 z)) (ds:=[24]) ⟨(by go_simp),(by go_simp),(by go_simp)⟩ (fun hHeld=>?_);replace HG:=aK (HG.out.below (below_drew1 (Below.refl wr.heap.size wr)));replace HCh:=aK (HCh.out.below (below_drew1 (Below.refl wr.heap.size wr)));generalize World.drew wr=wt at HG HCh hHeld ⊢;obtain ⟨xz,fz⟩:=Kd.R_cell (enc:=Value.int .i64) (h1:=fun _=>rfl) 0 HG.out.rw_ a1 HT.out.1 HT.out.2;refine pS 0 83 (lA 25 1) ?_;refine pS 1 84 (lA 25 3) ?_;refine pS 2 85 (lA 25 7) ?_;refine pS 3 86 (lA 25 15) ?_;refine pS 5 88 (lA 25 47) ?_;refine pS 6 89 (lA 25 111) ?_;refine pS 7 90 (lA 25 239) ?_;refine pS 8 91 (lA 25 495) ?_;refine pS 10 93 (lA 25 1519) ?_;refine pS 12 95 (lA 25 5615) ?_;refine pS 13 96 (lA 25 13807) ?_;refine pS 14 97 (lA 25 30191) ?_;refine pS 15 98 (lA 25 62959) ?_;refine pS 17 100 (lA 25 194031) ?_;refine pS 18 101 (lA 25 456175) ?_;refine pS 19 102 (lA 25 980463) ?_;refine pS 20 103 (lA 25 2029039) ?_;refine tS 4 87 (lA 25 2029055) rfl rfl (by kernel_rfl) hHeld zz35 ?_;refine tS 9 92 (lA 25 2029567) rfl rfl (by kernel_rfl) hHeld zz35 ?_;refine pS 11 94 (lA 25 2031615) ?_;refine tS 16 99 (lA 25 2097151) rfl rfl (by kernel_rfl) hHeld zz35 ?_;refine pS 21 104 (lA 25 4194303) ?_;refine tS 22 105 (lA 25 8388607) rfl rfl (by kernel_rfl) hHeld zz35 ?_;refine pS 23 106 (lA 25 16777215) ?_;refine last_ (i:=24) (N:=none) (lA 25 33554431) rfl rfl (by kernel_rfl) (by decide) (fun K hK=>?_);refine skip_ (w1:=?_) (by rfl) rfl ?_ ?_;rotate_left
     ·go_simp
      rfl
     refine hK.out _ _ ?_;clear hK K;refine done_ (by kernel_rfl) ?_;have hn:=HG.out.word a1 z;clear hHeld xz fz t0 q0 q1 q2 q3 q4 q5 q6 q7;generalize hw5:wt.setCell ⟨gw,a1.toNat,none⟩ (.int .i64 z)=w5 at hn ⊢;clear hw5;go_wp2
     go_roundw
     case rel=>exact ⟨k_+1,_,rfl,⟨HK1.out,by rw [HZ.out,HA.out.1,HA.out.2,HTo.out,HT0.out.2];rfl⟩,⟨hn.1⟩,⟨HCh.out.then_ hn.2⟩⟩
     case measure=>have:=HK1.out;simp only [intOf];omega
    ·have d3 : decide ((k_ : Int) < n) = false := decide_eq_false cx
     have hk:k_=n.toNat:=by have:=HT0.out.1;omega
     have ho:t.o=s.o:=by rw [HT0.out.2]
     have hto:t.nw=s.nw:=by rw [HT0.out.2]
     have hx:=HX.out;have hy:=HY.out;have h1:=HO1.out;obtain ⟨o2,ho2⟩: ∃x,x=t.o+1:=⟨_,rfl⟩;have v3:wrap64 (t.o+1)=o2:=by rw [ho2,ho];unfold wrap64;omega
     have u3:IntKind.i64.wrap (t.o+n)=o1:=by rw [ho,h1];exact IntWalk.i64_in _ (by omega)
     have v4:wrap64 (t.o+n)=o1:=by rw [ho,h1];unfold wrap64;omega
     have HJ2:=aK (show 0≤j∧j<(t.nw.length:Int) by rw [hto];exact HJ.out);have i3:=eq_true HJ2.out.2;have HO2:=aK ho2;have HTo:=aK ho;have HK:=aK hk;clear cx hx hy h1 ho2 ho hto hk;go_wp2;refine sT 14 (S:=fun w'=>w'.cell? ⟨gx,4,none⟩=some (.int .i64 t.o)∧w'.cell? ⟨gx,6,none⟩=some (.slice (some ⟨gt,0,none⟩) t.nw.length cT)) (ds:=[13]) ⟨(by go_simp),(by go_simp)⟩ (fun hHeld=>?_);replace HG:=aK (HG.out.below (below_drew1 (Below.refl wr.heap.size wr)));replace HCh:=aK (HCh.out.below (below_drew1 (Below.refl wr.heap.size wr)));generalize World.drew wr=wt at HG HCh hHeld ⊢;obtain ⟨xz,fz⟩:=Kd.R_cell (enc:=Value.int .i64) (h1:=fun _=>rfl) 0 HG.out.rt j HJ2.out.1 HJ2.out.2;refine pS 0 107 (lA 14 1) ?_;refine pS 1 108 (lA 14 3) ?_;refine pS 2 109 (lA 14 7) ?_;refine pS 4 111 (lA 14 23) ?_;refine pS 5 112 (lA 14 55) ?_;refine pS 6 113 (lA 14 119) ?_;refine pS 7 114 (lA 14 247) ?_;refine pS 8 115 (lA 14 503) ?_;refine pS 9 116 (lA 14 1015) ?_;refine tS 3 110 (lA 14 1023) rfl rfl (by kernel_rfl) hHeld zz33 ?_;refine tS 10 117 (lA 14 2047) rfl rfl (by kernel_rfl) hHeld zz33 ?_;refine pS 11 118 (lA 14 4095) ?_;refine pS 12 119 (lA 14 8191) ?_;refine last_ (i:=13) (N:=none) (lA 14 16383) rfl rfl (by kernel_rfl) (by decide) (fun K hK=>?_);refine skip_ (w1:=?_) (by rfl) rfl ?_ ?_;rotate_left
     ·go_simp
      rfl
     refine hK.out _ _ ?_;clear hK K;refine done_ (by kernel_rfl) ?_;have hn:=HG.out.told j o2;clear hHeld xz fz i3 q0 q1 q2 q3 q4 q5 q6 q7;generalize wt.setCell ⟨gt,j.toNat,none⟩ (.int .i64 o2)=w5 at hn ⊢;have HG5:=aK hn.1;replace HCh:=aK (HCh.out.then_ hn.2);clear hn HG;have q4:w5.cell? ⟨gx,4,none⟩=some (.int .i64 t.o):=(blk_cell HG5.out.bx 4).trans rfl
     have f4:=blk_frozen HG5.out.bx 4
     go_wp2_with ((with_reducible refine gate_store (t:=3) (p:=130) rfl ?_);refine Classical.byContradiction (fun hng=>?_))
     refine hng ?_;clear hng;refine store_event (t:=3) (p:=130) (v:=?vo9) (w1:=(w5.setCell ⟨gx,4,none⟩ (.int .i64 o1))) ?hg ?ho ?hn ?hr ?_
     (case ho=>rfl)
     (case hg=>rfl)
     (case hn=>rfl)
     (case hr=>first|(go_simp;done)|(go_simp;rfl))
     intro w6 hw;have hn:=HG5.out.oldS o1;rw [←hw] at hn;clear hw f4 q4;have HG:=aK hn.1;replace HCh:=aK (HCh.out.then_ hn.2);clear hn HG5;have q6:w6.cell? ⟨gx,6,none⟩=some (.slice (some ⟨gt,0,none⟩) (t.nw.set j.toNat o2).length cT):=(blk_cell HG.out.bx 6).trans rfl
     have i3:=eq_true (show j<((t.nw.set j.toNat o2).length:Int) by rw [List.length_set];exact HJ2.out.2)
     have t0:w6.cell? ⟨gt,j.toNat,none⟩=some (.int .i64 o2):=by
      have h_:=(Kd.R_cell (enc:=Value.int .i64) (h1:=fun _=>rfl) 0 HG.out.rt j HJ2.out.1 (of_eq_true i3)).1;have e_:rdOf 0 (t.nw.set j.toNat o2) j=o2:=by have hj:=HJ2.out;unfold rdOf;rw [List.getD_eq_getElem?_getD,List.getElem?_set_self (by omega)];rfl
      exact h_.trans (congrArg (fun z=>some (Value.int .i64 z)) e_)
     have i4:=eq_true HJ2.out.2;go_wp2;go_ret;have e2:({t with nw:=t.nw.set j.toNat o2,o:=o1}:Xv)=s':=by rw [←HR_.out.2,HO2.out,HTo.out,HO1.out,HT0.out.2,HK.out]
     exact ⟨by rw [←HR_.out.1,HO2.out,HTo.out];rfl,by rw [←e2];exact HG.out,HCh.out⟩
def wantS (s:Xv) (refs:List Bool) (i:Int) (cards:Bool) (k:Nat):Option Bool:=
  if rdOf false refs k=false then some false else if cards=false then some true
  else if 0≤Int.tdiv (i+k - s.y) 4∧Int.tdiv (i+k - s.y) 4<s.cd.length∧(-2000000≤s.y∧s.y≤2000000)∧s.cd.length≤2000000 then some (rdOf false s.cd (Int.tdiv (i+k - s.y) 4)) else none
def thingS (kf:Nat) (l0:List S53) (refs:List Bool) (i:Int) (cards:Bool):Nat→Nat→Xv→Option Xv
  |0,_,s=>some s
  | d + 1, k, s => (wantS s refs i cards k).bind fun b => if b = true then
      (if i+k<s.ws.length∧s.ws.length≤2000000 then (moveS kf l0 s (rd s.ws (i+k))).bind fun p=>if i+k<p.2.ws.length then thingS kf l0 refs i cards d (k+1) {p.2 with ws:=p.2.ws.set (i+k).toNat p.1} else none else none)
      else thingS kf l0 refs i cards d (k+1) s
def thingF (kf:Nat) (l0:List S53) (s:Xv) (i:Int) (cards:Bool):Option Xv:=
  if 0≤i∧i≤2000000 then (spec_l21Refs.f kf l0 s.ws i).bind fun refs=>if refs.length≤4000000 then thingS kf l0 refs i cards refs.length 0 s else none else none
set_option maxHeartbeats 16000000 in
set_option maxRecDepth 100000 in
theorem l22Move_thing.calls (k b:Nat) (w0:World) (gx gw:Nat) (AK:Option Addr) (cK cW:Nat) (l0:List S53) (AC:Option Addr) (cC:Nat) (AT:Option Addr) (cT:Nat) (s s':Xv) (i:Int) (cards:Bool) (w:World) (hc0:Kd.C k53 w0 AK l0.length l0) (hcl:l0.length≤cK) (hb0:b=w0.heap.size) (hg:Xg b w0 gx gw AK l0.length cK cW AC cC AT cT w s) (h:thingF k l0 s i cards=some s'):
  Calls Try.prog 47 #[.pointer (some ⟨gx,0,none⟩),.int .i64 i,.bool cards] w fun e w'=>e= .returned (.tuple #[])∧Xg b w0 gx gw AK l0.length cK cW AC cC AT cT w' s'∧Ch (S3 gx gw AT) w w':=by
 subst hb0;unfold thingF at h
 split at h
 case isFalse=>simp at h
 case isTrue hi0=>
 obtain ⟨refs,hn,h⟩:=Option.bind_eq_some_iff.mp h
 split at h
 case isFalse=>simp at h
 case isTrue hrl=>
 have HI:=aK hi0;have HRL:=aK hrl;have HN:=aK hn;have H:=aK h;have HG:=aK hg;have HC0:=aK hc0;have HCl:=aK hcl;have HCh:=aK (Ch.refl (S3 gx gw AT) w);have q0:=(blk_cell HG.out.bx 0).trans rfl;have q1:=(blk_cell HG.out.bx 1).trans rfl;have q2:=(blk_cell HG.out.bx 2).trans rfl;have q3:=(blk_cell HG.out.bx 3).trans rfl;have q4:=(blk_cell HG.out.bx 4).trans rfl;have q5:=(blk_cell HG.out.bx 5).trans rfl;have q6:=(blk_cell HG.out.bx 6).trans rfl;have q7:=(blk_cell HG.out.bx 7).trans rfl;clear hg hc0 hcl h hn hi0 hrl;go_enter Try.func47,Try.ntmps47;go_wp2;refine sT 12 (S:=fun w'=>w'.cell? ⟨gx,0,none⟩=some (.slice AK l0.length cK)∧w'.cell? ⟨gx,1,none⟩=some (.slice (some ⟨gw,0,none⟩) s.ws.length cW)) (ds:=[10]) ⟨(by go_simp),(by go_simp)⟩ (fun hHeld=>?_);replace HG:=aK (HG.out.below (below_drew1 (Below.refl w.heap.size w)));replace HCh:=aK (HCh.out.below (below_drew1 (Below.refl w.heap.size w)));generalize World.drew w=wt at HG HCh hHeld ⊢;refine pS 0 9 (lA 12 1) ?_;refine pS 1 10 (lA 12 3) ?_;refine pS 2 11 (lA 12 7) ?_;refine pS 4 13 (lA 12 23) ?_;refine pS 5 14 (lA 12 55) ?_;refine pS 6 15 (lA 12 119) ?_;refine pS 7 16 (lA 12 247) ?_;refine pS 9 18 (lA 12 759) ?_;refine tS 3 12 (lA 12 767) rfl rfl (by kernel_rfl) hHeld zz33 ?_;refine tS 8 17 (lA 12 1023) rfl rfl (by kernel_rfl) hHeld zz33 ?_;refine last_ (i:=10) (N:=some 19) (lA 12 2047) rfl rfl (by kernel_rfl) (by decide) (fun K hK=>?_);refine gO Try.func74 #[.slice AK l0.length cK,.slice (some ⟨gw,0,none⟩) s.ws.length cW,.int .i64 i] ?_;(with_reducible refine (spec_l21Refs.calls k AK cK l0 (some ⟨gw,0,none⟩) cW s.ws i refs _ (Kd.C_below HC0.out HG.out.be) HCl.out (Kd.R_reads' HG.out.rw_).2.2 (Kd.R_reads' HG.out.rw_).2.1 HN.out).mono ?_);rintro e w2 ⟨vf,rfl,hf,hb⟩;have HRf:=aK (show Kd.R Kd.bool 4 w2 w0.heap.size (fun k_=> ¬S3 gx gw AT k_) vf refs from HG.out.fresh hf);replace HG:=aK (HG.out.below hb);replace HCh:=aK (HCh.out.below hb);clear hb hf;obtain ⟨AF,cF,rfl⟩:=Kd.R_slice HRf.out;refine ⟨_,rfl,?_⟩;refine hK.out _ _ ?_;clear hK K;refine nS 19 ?_;refine pS 11 6 (lA 12 4095) ?_;refine done_ (by kernel_rfl) ?_;clear hHeld q0 q1 q2 q3 q4 q5 q6 q7;go_wp2
 go_loopw [7] (fun v7 wr=> ∃(k_:Nat) (t:Xv),v7= .int .i64 (k_:Int)∧Aside0 (k_≤refs.length∧thingS k l0 refs i cards (refs.length - k_) k_ t=some s')∧Aside0 (Xg w0.heap.size w0 gx gw AK l0.length cK cW AC cC AT cT wr t)∧Aside0 (Kd.R Kd.bool 4 wr w0.heap.size (fun k_=> ¬S3 gx gw AT k_) (.slice AF refs.length cF) refs)∧Aside0 (Ch (S3 gx gw AT) w wr)) (fun v7 _=>refs.length - (intOf v7).toNat)
 case atStart=>exact ⟨0,s,rfl,⟨Nat.zero_le _,H.out⟩,HG,HRf,HCh⟩
 case round =>
  clear HG HCh HRf H;obtain ⟨k_,t,rfl,HT0,HG,HRf,HCh⟩:=hrel;by_cases cx:(k_:Int)<(refs.length:Int)
  ·have d3 : decide ((k_ : Int) < (refs.length : Int)) = true := decide_eq_true cx
   have d3b:=eq_true (show k_<refs.length by omega);have HK1:=aK (show k_<refs.length by omega);have h:=HT0.out.2;obtain ⟨d,hd⟩: ∃d,refs.length - k_=d+1:=⟨refs.length - k_ - 1,by omega⟩;have hd2:refs.length - (k_+1)=d:=by omega
   rw [hd] at h;unfold thingS at h;obtain ⟨bw,hw,h⟩:=Option.bind_eq_some_iff.mp h;have HD:=aK hd2;have H:=aK h;have u3:IntKind.i64.wrap ((k_:Int)+1)=(k_:Int)+1:=IntWalk.i64_in _ (by have:=HRL.out;omega)
   obtain ⟨af,e0,hcell⟩:=Kd.at_bool (Kd.R_reads' HRf.out).2.2 k_ (by omega) (by omega)
   cases e0
   rw [Int.toNat_natCast] at hcell;have i1:=eq_true (show 0≤(k_:Int) by omega);have i2:=eq_true cx;unfold wantS at hw;clear h hd hd2 cx HT0
   cases hrb:rdOf false refs (k_:Int) with
   |false=>
    rw [hrb] at hw hcell;rw [if_pos rfl] at hw;obtain rfl:=Option.some.inj hw;clear hw hrb;go_wp2;refine sT 27 (S:=fun w'=>w'.cell? (af.add k_)=some (.bool false)) (ds:=[]) ((by go_simp)) (fun hHeld=>?_);replace HG:=aK (HG.out.below (below_drew1 (Below.refl wr.heap.size wr)));replace HCh:=aK (HCh.out.below (below_drew1 (Below.refl wr.heap.size wr)));replace HRf:=aK (Kd.R_below HRf.out (below_drew1 (Below.refl wr.heap.size wr)));generalize World.drew wr=wt at HG HCh HRf hHeld ⊢;refine pS 0 26 (lA 27 1) ?_;refine pS 1 27 (lA 27 3) ?_;refine pS 2 28 (lA 27 7) ?_;refine tS 3 29 (lA 27 15) rfl rfl (by kernel_rfl) hHeld (by intro w' s0;go_simp;with_reducible rfl) ?_;refine pS 4 30 (lA 27 31) ?_;refine pU 5 31 (lA 27 63) ?_;refine pU 6 32 (lA 27 127) ?_;refine pU 7 33 (lA 27 255) ?_;refine pU 8 34 (lA 27 511) ?_;refine pU 9 35 (lA 27 1023) ?_;refine pU 10 36 (lA 27 2047) ?_;refine pU 11 37 (lA 27 4095) ?_;refine pU 12 38 (lA 27 8191) ?_;refine pU 13 39 (lA 27 16383) ?_;refine pU 14 40 (lA 27 32767) ?_;refine pU 15 41 (lA 27 65535) ?_;refine pU 16 42 (lA 27 131071) ?_;refine pU 17 43 (lA 27 262143) ?_;refine pU 18 44 (lA 27 524287) ?_;refine pU 19 45 (lA 27 1048575) ?_;refine pU 20 46 (lA 27 2097151) ?_;refine pU 21 47 (lA 27 4194303) ?_;refine pU 22 48 (lA 27 8388607) ?_;refine pU 23 49 (lA 27 16777215) ?_;refine pU 24 50 (lA 27 33554431) ?_;refine pU 25 51 (lA 27 67108863) ?_;refine pS 26 52 (lA 27 134217727) ?_;refine done_ (by kernel_rfl) ?_;clear hHeld hcell;have h:=H.out;rw [if_neg (by simp)] at h;replace H:=aK h;clear h;go_wp2
    go_roundw
    case rel=>exact ⟨k_+1,_,rfl,⟨HK1.out,by rw [HD.out];exact H.out⟩,HG,HRf,HCh⟩
    case measure=>have:=HK1.out;simp only [intOf];omega
   | true =>
    rw [hrb] at hw hcell;rw [if_neg (by simp)] at hw;clear hrb
    cases cards with
    |false=>
     rw [if_pos rfl] at hw;obtain rfl:=Option.some.inj hw;clear hw;go_wp2;refine sT 27 (S:=fun w'=>w'.cell? (af.add k_)=some (.bool true)) (ds:=[]) ((by go_simp)) (fun hHeld=>?_);replace HG:=aK (HG.out.below (below_drew1 (Below.refl wr.heap.size wr)));replace HCh:=aK (HCh.out.below (below_drew1 (Below.refl wr.heap.size wr)));replace HRf:=aK (Kd.R_below HRf.out (below_drew1 (Below.refl wr.heap.size wr)));generalize World.drew wr=wt at HG HCh HRf hHeld ⊢;refine pS 0 26 (lA 27 1) ?_;refine pS 1 27 (lA 27 3) ?_;refine pS 2 28 (lA 27 7) ?_;refine tS 3 29 (lA 27 15) rfl rfl (by kernel_rfl) hHeld (by intro w' s0;go_simp;with_reducible rfl) ?_;refine pS 4 30 (lA 27 31) ?_;refine pS 5 31 (lA 27 63) ?_;refine pS 6 32 (lA 27 127) ?_;refine pS 7 33 (lA 27 255) ?_;refine pU 8 34 (lA 27 511) ?_;refine pU 9 35 (lA 27 1023) ?_;refine pU 10 36 (lA 27 2047) ?_;refine pU 11 37 (lA 27 4095) ?_;refine pU 12 38 (lA 27 8191) ?_;refine pU 13 39 (lA 27 16383) ?_;refine pU 14 40 (lA 27 32767) ?_;refine pU 15 41 (lA 27 65535) ?_;refine pU 16 42 (lA 27 131071) ?_;refine pU 17 43 (lA 27 262143) ?_;refine pU 18 44 (lA 27 524287) ?_;refine pU 19 45 (lA 27 1048575) ?_;refine pU 20 46 (lA 27 2097151) ?_;refine pU 21 47 (lA 27 4194303) ?_;refine pU 22 48 (lA 27 8388607) ?_;refine pU 23 49 (lA 27 16777215) ?_;refine pU 24 50 (lA 27 33554431) ?_;refine pS 25 51 (lA 27 67108863) ?_;refine pS 26 52 (lA 27 134217727) ?_;refine done_ (by kernel_rfl) ?_;clear hHeld hcell;have h:=H.out;first|rw [if_pos rfl] at h|rw [if_pos trivial] at h
     split at h
     case isFalse=>simp at h
     case isTrue hx=>
     obtain ⟨⟨v,t1⟩,hm,h⟩:=Option.bind_eq_some_iff.mp h;dsimp only at h
     split at h
     case isFalse=>simp at h
     case isTrue hx2=>
     have HM:=aK hm;replace H:=aK h;obtain ⟨a1,ha1⟩: ∃x,x=i+(k_:Int):=⟨_,rfl⟩;have u4:IntKind.i64.wrap (i+(k_:Int))=a1:=by rw [ha1];exact IntWalk.i64_in _ (by have:=HI.out;omega)
     have HA:=aK ha1;have HT:=aK (show 0≤a1∧a1<(t.ws.length:Int) by have:=HI.out;omega);have HT2:=aK (show 0≤a1∧a1<(t1.ws.length:Int) by have:=HI.out;omega);obtain ⟨z,hz⟩: ∃z,z=rd t.ws (i+(k_:Int)):=⟨_,rfl⟩;rw [←hz] at HM;have t0:wt.cell? ⟨gw,a1.toNat,none⟩=some (.int .i64 z):=by rw [hz,←ha1];exact (Kd.R_cell (enc:=Value.int .i64) (h1:=fun _=>rfl) 0 HG.out.rw_ a1 HT.out.1 HT.out.2).1
     have q1:=(blk_cell HG.out.bx 1).trans rfl;have i3:=eq_true HT.out.1;have i4:=eq_true HT.out.2;clear h hm hx hx2 ha1 hz
     go_wp2_with (go_at_call 46;refine Classical.byContradiction (fun hng=>?_))
     refine hng ?_;clear hng;refine (l22Move_move.calls k _ w0 gx gw AK cK cW l0 AC cC AT cT t t1 z v _ HC0.out HCl.out rfl HG.out HM.out).mono ?_;rintro e w5 ⟨rfl,hg,hc⟩;replace HG:=aK hg;replace HCh:=aK (HCh.out.then_ hc);replace HRf:=aK (hc.R HRf.out (fun _ h=>h));clear hg hc q1 t0 i4;have q1:=(blk_cell HG.out.bx 1).trans rfl;have i4:=eq_true HT2.out.2;obtain ⟨xz,fz⟩:=Kd.R_cell (enc:=Value.int .i64) (h1:=fun _=>rfl) 0 HG.out.rw_ a1 HT2.out.1 HT2.out.2
     go_wp2_with ((with_reducible refine gate_store (t:=3) (p:=74) rfl ?_);refine Classical.byContradiction (fun hng=>?_))
     refine hng ?_;clear hng;refine store_event (t:=3) (p:=74) (v:=?vo9) (w1:=(w5.setCell ⟨gw,a1.toNat,none⟩ (.int .i64 v))) ?hg ?ho ?hn ?hr ?_
     (case ho=>rfl)
     (case hg=>rfl)
     (case hn=>rfl)
     (case hr=>first|(go_simp;done)|(go_simp;rfl))
     intro w6 hw;have hn:=HG.out.word a1 v;rw [←hw] at hn;clear hw xz fz q1;have HF6:=aK (hn.2.R HRf.out (fun _ h=>h));go_wp2
     go_roundw
     case rel=>exact ⟨k_+1,({t1 with ws:=t1.ws.set a1.toNat v}:Xv),rfl,⟨HK1.out,by rw [HD.out,HA.out];exact H.out⟩,⟨hn.1⟩,HF6,⟨HCh.out.then_ hn.2⟩⟩
     case measure=>have:=HK1.out;simp only [intOf];omega
    | true =>
     rw [if_neg (by simp)] at hw
     split at hw
     case isFalse=>simp at hw
     case isTrue hq=>
     obtain ⟨j,hj⟩: ∃j,j=i+(k_:Int) - t.y:=⟨_,rfl⟩;obtain ⟨q,hqq⟩: ∃q,q=Int.tdiv j 4:=⟨_,rfl⟩;rw [←hj,←hqq] at hw hq;have v0:wrap64 (i+(k_:Int))=i+(k_:Int):=by unfold wrap64;have:=HI.out;have:=HRL.out;have:=HK1.out;omega
     have v1:wrap64 (i+(k_:Int) - t.y)=j:=by rw [hj];unfold wrap64;have:=HI.out;have:=HRL.out;have:=HK1.out;omega
     have v2:wrap64 (Int.tdiv j 4)=q:=by rw [←hqq];unfold wrap64;have:=HI.out;have:=HRL.out;have:=HK1.out;omega
     obtain ⟨ac,e0,hc2⟩:=Kd.at_bool (Kd.R_reads' HG.out.rc).2.2 q hq.1 hq.2.1
     cases e0
     rw [Option.some.inj hw] at hc2;obtain ⟨bc,hbc⟩: ∃bc,bc=bw:=⟨_,rfl⟩;rw [←hbc] at hc2 H;have i5:=eq_true hq.1;have i6:=eq_true hq.2.1;have q2:=(blk_cell HG.out.bx 2).trans rfl;have q5:=(blk_cell HG.out.bx 5).trans rfl;clear hw hq hj hqq hbc;go_wp2;refine sT 27 (S:=fun w'=>w'.cell? ⟨gx,2,none⟩=some (.int .i64 t.y)∧w'.cell? ⟨gx,5,none⟩=some (.slice (some ac) t.cd.length cC)∧w'.cell? (af.add k_)=some (.bool true)∧w'.cell? (ac.add q.toNat)=some (.bool bc)) (ds:=[]) ⟨(by go_simp),(by go_simp),(by go_simp),(by go_simp)⟩ (fun hHeld=>?_);replace HG:=aK (HG.out.below (below_drew1 (Below.refl wr.heap.size wr)));replace HCh:=aK (HCh.out.below (below_drew1 (Below.refl wr.heap.size wr)));replace HRf:=aK (Kd.R_below HRf.out (below_drew1 (Below.refl wr.heap.size wr)));generalize World.drew wr=wt at HG HCh HRf hHeld ⊢;refine pS 0 26 (lA 27 1) ?_;refine pS 1 27 (lA 27 3) ?_;refine pS 2 28 (lA 27 7) ?_;refine tS 3 29 (lA 27 15) rfl rfl (by kernel_rfl) hHeld zz12 ?_;refine pS 4 30 (lA 27 31) ?_;refine pS 5 31 (lA 27 63) ?_;refine pS 6 32 (lA 27 127) ?_;refine pS 7 33 (lA 27 255) ?_;refine pS 8 34 (lA 27 511) ?_;refine pS 9 35 (lA 27 1023) ?_;refine pS 10 36 (lA 27 2047) ?_;refine pS 11 37 (lA 27 4095) ?_;refine pS 13 39 (lA 27 12287) ?_;refine pS 14 40 (lA 27 28671) ?_;refine pS 15 41 (lA 27 61439) ?_;refine pS 16 42 (lA 27 126975) ?_;refine pS 17 43 (lA 27 258047) ?_;refine pS 18 44 (lA 27 520191) ?_;refine pS 19 45 (lA 27 1044479) ?_;refine tS 12 38 (lA 27 1048575) rfl rfl (by kernel_rfl) hHeld zz12 ?_;refine tS 20 46 (lA 27 2097151) rfl rfl (by kernel_rfl) hHeld zz12 ?_;refine pS 21 47 (lA 27 4194303) ?_;refine pS 22 48 (lA 27 8388607) ?_;refine pS 23 49 (lA 27 16777215) ?_;refine tS 24 50 (lA 27 33554431) rfl rfl (by kernel_rfl) hHeld zz12 ?_;refine pS 25 51 (lA 27 67108863) ?_;refine pS 26 52 (lA 27 134217727) ?_;refine done_ (by kernel_rfl) ?_;clear hHeld hcell hc2 i5 i6 q2 q5
     cases bc with
     |false=>
      have h:=H.out;rw [if_neg (by simp)] at h;replace H:=aK h;clear h;go_wp2
      go_roundw
      case rel=>exact ⟨k_+1,_,rfl,⟨HK1.out,by rw [HD.out];exact H.out⟩,HG,HRf,HCh⟩
      case measure=>have:=HK1.out;simp only [intOf];omega
     |true=>
      have h:=H.out;first|rw [if_pos rfl] at h|rw [if_pos trivial] at h
      split at h
      case isFalse=>simp at h
      case isTrue hx=>
      obtain ⟨⟨v,t1⟩,hm,h⟩:=Option.bind_eq_some_iff.mp h;dsimp only at h
      split at h
      case isFalse=>simp at h
      case isTrue hx2=>
      have HM:=aK hm;replace H:=aK h;obtain ⟨a1,ha1⟩: ∃x,x=i+(k_:Int):=⟨_,rfl⟩;have u4:IntKind.i64.wrap (i+(k_:Int))=a1:=by rw [ha1];exact IntWalk.i64_in _ (by have:=HI.out;omega)
      have HA:=aK ha1;have HT:=aK (show 0≤a1∧a1<(t.ws.length:Int) by have:=HI.out;omega);have HT2:=aK (show 0≤a1∧a1<(t1.ws.length:Int) by have:=HI.out;omega);obtain ⟨z,hz⟩: ∃z,z=rd t.ws (i+(k_:Int)):=⟨_,rfl⟩;rw [←hz] at HM;have t0:wt.cell? ⟨gw,a1.toNat,none⟩=some (.int .i64 z):=by rw [hz,←ha1];exact (Kd.R_cell (enc:=Value.int .i64) (h1:=fun _=>rfl) 0 HG.out.rw_ a1 HT.out.1 HT.out.2).1
      have q1:=(blk_cell HG.out.bx 1).trans rfl;have i3:=eq_true HT.out.1;have i4:=eq_true HT.out.2;clear h hm hx hx2 ha1 hz
      go_wp2_with (go_at_call 46;refine Classical.byContradiction (fun hng=>?_))
      refine hng ?_;clear hng;refine (l22Move_move.calls k _ w0 gx gw AK cK cW l0 (some ac) cC AT cT t t1 z v _ HC0.out HCl.out rfl HG.out HM.out).mono ?_;rintro e w5 ⟨rfl,hg,hc⟩;replace HG:=aK hg;replace HCh:=aK (HCh.out.then_ hc);replace HRf:=aK (hc.R HRf.out (fun _ h=>h));clear hg hc q1 t0 i4;have q1:=(blk_cell HG.out.bx 1).trans rfl;have i4:=eq_true HT2.out.2;obtain ⟨xz,fz⟩:=Kd.R_cell (enc:=Value.int .i64) (h1:=fun _=>rfl) 0 HG.out.rw_ a1 HT2.out.1 HT2.out.2
      go_wp2_with ((with_reducible refine gate_store (t:=3) (p:=74) rfl ?_);refine Classical.byContradiction (fun hng=>?_))
      refine hng ?_;clear hng;refine store_event (t:=3) (p:=74) (v:=?vo9) (w1:=(w5.setCell ⟨gw,a1.toNat,none⟩ (.int .i64 v))) ?hg ?ho ?hn ?hr ?_
      (case ho=>rfl)
      (case hg=>rfl)
      (case hn=>rfl)
      (case hr=>first|(go_simp;done)|(go_simp;rfl))
      intro w6 hw;have hn:=HG.out.word a1 v;rw [←hw] at hn;clear hw xz fz q1;have HF6:=aK (hn.2.R HRf.out (fun _ h=>h));go_wp2
      go_roundw
      case rel=>exact ⟨k_+1,({t1 with ws:=t1.ws.set a1.toNat v}:Xv),rfl,⟨HK1.out,by rw [HD.out,HA.out];exact H.out⟩,⟨hn.1⟩,HF6,⟨HCh.out.then_ hn.2⟩⟩
      case measure=>have:=HK1.out;simp only [intOf];omega
  ·have d3 : decide ((k_ : Int) < (refs.length : Int)) = false := decide_eq_false cx
   have d3b:=eq_false (show¬k_<refs.length by omega);have h:=HT0.out.2;rw [show refs.length - k_=0 by omega] at h;unfold thingS at h;obtain rfl:=Option.some.inj h;clear h cx;go_wp2
   go_end0
   exact ⟨rfl,HG.out,HCh.out⟩
mutual
def spec_l22Clean.l0:Nat→Int→List Int→Int→Int→Int→List Bool→Option (List Int×Int×Int×Int×List Bool)
 |0,_,_,_,_,_,_=>none
 |k+1,x3,x242000,x242001,x242002,x242003,x242004=>if x3<x242001 then (if 0≤x3 then (if x3<(x242000.length:Int) then (spec_l22Clean.l0 k (wrap64 (x3+1)) (x242000.set (x3:Int).toNat 0) x242001 x242002 x242003 x242004) else (none)) else (none)) else (spec_l22Clean.l1 k 0 x242000 x242001 x242002 x242003 x242004)
def spec_l22Clean.l1:Nat→Int→List Int→Int→Int→Int→List Bool→Option (List Int×Int×Int×Int×List Bool)
 |0,_,_,_,_,_,_=>none
 |k+1,x4,x242000,x242001,x242002,x242003,x242004=>if x4<(x242004.length:Int) then (if 0≤x4 then (spec_l22Clean.l1 k (wrap64 (x4+1)) x242000 x242001 x242002 x242003 (x242004.set (x4:Int).toNat false)) else (none)) else (some (x242000,x242001,0,x242003,x242004))
end
def spec_l22Clean.f (k:Nat) (l0_0:List Int) (a0_1:Int) (a0_2:Int) (a0_3:Int) (l0_4:List Bool):Option (List Int×Int×Int×Int×List Bool):=spec_l22Clean.l0 k 0 l0_0 a0_1 a0_2 a0_3 l0_4
set_option maxHeartbeats 8000000 in
set_option maxRecDepth 100000 in
theorem spec_l22Clean.calls (k : Nat) (P0_0_ : Nat → Prop) (u9000_ : Value) (l0_0 : List Int) (a0_1 : Int) (a0_2 : Int) (a0_3 : Int) (P0_4_ : Nat → Prop) (u9001_ : Value) (l0_4 : List Bool) (r1 : List Int) (r2 : Int) (r3 : Int) (r4 : Int) (r5 : List Bool) (w0 w : World) (hB : Below w0.heap.size w0 w) (ho0_0 : Kd.R (Kd.int .i64) 3 w w0.heap.size P0_0_ u9000_ l0_0) (ho0_4 : Kd.R Kd.bool 4 w w0.heap.size P0_4_ u9001_ l0_4) (h : spec_l22Clean.f k l0_0 a0_1 a0_2 a0_3 l0_4 = some (r1, r2, r3, r4, r5)) :
  Calls Try.prog 49 #[.agg #[u9000_,.int .i64 a0_1,.int .i64 a0_2,.int .i64 a0_3,u9001_]] w fun e w'=> ∃v0_ v4_:Value,e= .returned (.agg #[v0_,.int .i64 r2,.int .i64 r3,.int .i64 r4,v4_])∧Kd.R (Kd.int .i64) 3 w' w0.heap.size (fun k_=>((P0_0_ k_∨P0_4_ k_)∨w.heap.size≤k_)) v0_ r1∧Kd.R Kd.bool 4 w' w0.heap.size (fun k_=>((P0_0_ k_∨P0_4_ k_)∨w.heap.size≤k_)) v4_ r5∧Below w0.heap.size w0 w'∧Kept w w' (fun k_=>P0_0_ k_∨P0_4_ k_):=by
 have hu29:=Try.underlying29;have HO0_0:=aK (show Kd.R (Kd.int .i64) 3 w w0.heap.size (fun k_=>((P0_0_ k_∨P0_4_ k_)∨w.heap.size≤k_)) u9000_ l0_0 from Kd.R_mono ho0_0 (fun k_ hk=>(.inl (.inl hk))));have HO0_4:=aK (show Kd.R Kd.bool 4 w w0.heap.size (fun k_=>((P0_0_ k_∨P0_4_ k_)∨w.heap.size≤k_)) u9001_ l0_4 from Kd.R_mono ho0_4 (fun k_ hk=>(.inl (.inr hk))));have HK:=aK (Kept.refl w (fun k_=>P0_0_ k_∨P0_4_ k_));have HW0:=aK hB.size;have HB:=aK hB;clear hB;have H:(spec_l22Clean.l0 k 0 l0_0 a0_1 a0_2 a0_3 l0_4)=some (r1,r2,r3,r4,r5):=h
 clear h;have H':=aK H;clear H;obtain ⟨Ao2,co2,eo2⟩:=Kd.R_slice HO0_0.out;subst eo2;obtain ⟨Ao3,co3,eo3⟩:=Kd.R_slice HO0_4.out;subst eo3;go_enter Try.func49,Try.ntmps49
 go_wp2_with (first|((with_reducible refine gate_dst (N:=1) rfl ?_);refine box_event ?hg (N:=1) ?hd (cs:= #[.slice Ao2 l0_0.length co2,.int .i64 a0_1,.int .i64 a0_2,.int .i64 a0_3,.slice Ao3 l0_4.length co3]) (t:=29) ?hr ?_;(case hd=>rfl);(case hg=>rfl);(case hr=>first|(go_simp;done)|(go_simp;rfl));intro gb241 hg w4 hbox hb;have BK241:=aK (hbox);have GW241:=aK ((by rw [hg];exact (by first|exact HK.out.1|exact (show Kept w _ (fun k_=>P0_0_ k_∨P0_4_ k_) from by repeat (first|(with_reducible first|exact HK.out|apply Kept.alloc|apply Kept.drewN|apply Kept.drew)|exact HK.out)).1):w.heap.size≤gb241));have GE241:=aK ((by rw [hg];exact (below_size zz1):w0.heap.size≤gb241));replace HO0_0:=aK (Kd.R_below (by (with_reducible repeat (first|apply Kd.R_alloc|apply Kd.R_drewN|apply Kd.R_drew));exact HO0_0.out) hb);replace HO0_4:=aK (Kd.R_below (by (with_reducible repeat (first|apply Kd.R_alloc|apply Kd.R_drewN|apply Kd.R_drew));exact HO0_4.out) hb);replace HK:=aK (Kept.below (S:=(fun k_=>P0_0_ k_∨P0_4_ k_)) zz55 hb);replace HB:=aK (below_step zz1 hb);clear hb hbox hg)|((with_reducible refine gate_dst (N:=2) rfl ?_);refine box_event ?hg (N:=2) ?hd (cs:= #[.slice none 0 0,.int .i64 0,.int .i64 0,.int .i64 0,.slice none 0 0]) (t:=29) ?hr ?_;(case hd=>rfl);(case hg=>rfl);(case hr=>first|(go_simp;done)|(go_simp;rfl));intro gb242 hg w5 hbox hb;have BK242:=aK (hbox);have GW242:=aK ((by rw [hg];exact (by first|exact HK.out.1|exact (show Kept w _ (fun k_=>P0_0_ k_∨P0_4_ k_) from by repeat (first|(with_reducible first|exact HK.out|apply Kept.alloc|apply Kept.drewN|apply Kept.drew|refine Kept.setCell ?_ (.inr GW241.out) _)|exact HK.out)).1):w.heap.size≤gb242));have GE242:=aK ((by rw [hg];exact (below_size (by repeat (first|(with_reducible first|exact HB.out|apply below_alloc|apply pw_below_drewN|apply below_drew1|refine below_set ?_ GE241.out)|exact HB.out))):w0.heap.size≤gb242));have NB241_242:=aK ((by rw [hg];exact Nat.ne_of_lt (blk_lt (g:=gb241) (o:= .cells #[.slice Ao2 l0_0.length co2,.int .i64 a0_1,.int .i64 a0_2,.int .i64 a0_3,.slice Ao3 l0_4.length co3] 29 (0,0)) zz47):gb241≠gb242));have NB242_241:=aK ((by rw [hg];exact Nat.ne_of_gt (blk_lt (g:=gb241) (o:= .cells #[.slice Ao2 l0_0.length co2,.int .i64 a0_1,.int .i64 a0_2,.int .i64 a0_3,.slice Ao3 l0_4.length co3] 29 (0,0)) zz47):gb242≠gb241));replace HO0_0:=aK (Kd.R_below (by (with_reducible repeat (first|apply Kd.R_alloc|apply Kd.R_drewN|apply Kd.R_drew));exact HO0_0.out) hb);replace HO0_4:=aK (Kd.R_below (by (with_reducible repeat (first|apply Kd.R_alloc|apply Kd.R_drewN|apply Kd.R_drew));exact HO0_4.out) hb);replace BK241:=aK (blk_below (g:=gb241) (o:= .cells #[.slice Ao2 l0_0.length co2,.int .i64 a0_1,.int .i64 a0_2,.int .i64 a0_3,.slice Ao3 l0_4.length co3] 29 (0,0)) zz47 hb);replace HK:=aK (Kept.below (S:=(fun k_=>P0_0_ k_∨P0_4_ k_)) (by repeat (first|(with_reducible first|exact HK.out|apply Kept.alloc|apply Kept.drewN|apply Kept.drew|refine Kept.setCell ?_ (.inr GW241.out) _)|exact HK.out)) hb);replace HB:=aK (below_step (by repeat (first|(with_reducible first|exact HB.out|apply below_alloc|apply pw_below_drewN|apply below_drew1|refine below_set ?_ GE241.out)|exact HB.out)) hb);clear hb hbox hg))
 go_loopg [3] k (fun kq v3 w'=> ∃(x3_1:Int) (x242000_1:List Int) (u242000:Value),v3= .int .i64 x3_1∧Aside0 (spec_l22Clean.l0 kq x3_1 x242000_1 a0_1 a0_2 a0_3 l0_4=some (r1,r2,r3,r4,r5))∧Aside0 (kq≤k)∧Aside0 (Kd.R (Kd.int .i64) 3 w' w0.heap.size (fun k_=>((P0_0_ k_∨P0_4_ k_)∨w.heap.size≤k_)) u242000 x242000_1)∧Aside0 (Kd.R Kd.bool 4 w' w0.heap.size (fun k_=>((P0_0_ k_∨P0_4_ k_)∨w.heap.size≤k_)) (.slice Ao3 l0_4.length co3) l0_4)∧Aside0 (w'.heap[gb241]? =some (.cells #[u242000,.int .i64 a0_1,.int .i64 a0_2,.int .i64 a0_3,(.slice Ao3 l0_4.length co3)] 29 (0,0)))∧Aside0 (w'.heap[gb242]? =some (.cells #[(.slice none 0 0),.int .i64 0,.int .i64 0,.int .i64 0,(.slice none 0 0)] 29 (0,0)))∧Aside0 (Kept w w' (fun k_=>P0_0_ k_∨P0_4_ k_))∧Aside0 (Below w0.heap.size w0 w'))
 case atStart=>exact ⟨(0),(l0_0),(.slice Ao2 l0_0.length co2),zz5,H',⟨Nat.le_refl _⟩,⟨by (with_reducible repeat (first|apply Kd.R_alloc|apply Kd.R_drewN|apply Kd.R_drew));exact HO0_0.out⟩,⟨by (with_reducible repeat (first|apply Kd.R_alloc|apply Kd.R_drewN|apply Kd.R_drew));exact HO0_4.out⟩,⟨by (with_reducible repeat (first|refine blk_drewN ?_ _|refine blk_drew ?_|refine blk_alloc ?_ _));exact BK241.out⟩,⟨by (with_reducible repeat (first|refine blk_drewN ?_ _|refine blk_drew ?_|refine blk_alloc ?_ _));exact BK242.out⟩,⟨by repeat (first|(with_reducible first|exact HK.out|apply Kept.alloc|apply Kept.drewN|apply Kept.drew|refine Kept.setCell ?_ (.inr GW241.out) _|refine Kept.setCell ?_ (.inr GW242.out) _)|exact HK.out)⟩,⟨by repeat (first|(with_reducible first|exact HB.out|apply below_alloc|apply pw_below_drewN|apply below_drew1|refine below_set ?_ GE241.out|refine below_set ?_ GE242.out)|exact HB.out)⟩⟩
 case round =>
  clear H';(try clear p2);(try clear c4);obtain ⟨x3_1,x242000_1,u242000,rfl,HA,HK1,HO_242000,HO_242004,BK241,BK242,HK,HB⟩:=hrel
  cases gk with
  |zero=>exact absurd HA.out (by simp [spec_l22Clean.l0])
  | succ k1 =>
   have H:=HA.out;clear HA;simp only [spec_l22Clean.l0] at H;by_cases c6:x3_1<a0_1
   ·rw [if_pos c6] at H
    have c6b0:decide (x3_1<a0_1)=true:=decide_eq_true c6
    clear c6;by_cases c7:0≤x3_1
    ·rw [if_pos c7] at H
     have c7b0:decide (0≤x3_1)=true:=decide_eq_true c7
     clear c7;by_cases c8:x3_1<(x242000_1.length:Int)
     ·rw [if_pos c8] at H
      have c8b0:decide (x3_1<(x242000_1.length:Int))=true:=decide_eq_true c8
      clear c8;obtain ⟨y243,hy243⟩: ∃y_:List Int,y_=(x242000_1.set (x3_1:Int).toNat 0):=⟨_,rfl⟩;replace H:(spec_l22Clean.l0 k1 (wrap64 (x3_1+1)) y243 a0_1 a0_2 a0_3 l0_4)=some (r1,r2,r3,r4,r5):=by first|(rw [hy243];with_reducible exact H)|(have H2_:=(Option.bind_some _ _).symm.trans H;rw [hy243];with_reducible exact H2_)|(have H2_:=(Option.bind_some _ _).symm.trans H;with_reducible exact H2_)|with_reducible exact H|(rw [hy243];exact H)|exact H
      have Ny243:=aK hy243;clear hy243;have H':=aK H;clear H;have hnb10:=NB241_242.out;have hnc10:=NB242_241.out;obtain ⟨hcz11_0,hcz11_1,hcz11_2,hcz11_3,hcz11_4,hfz11_0,hfz11_1,hfz11_2,hfz11_3,hfz11_4⟩:=cbf5 BK241;have p9:0≤(x3_1:Int):=of_decide_eq_true zz3
      have q9:(x3_1:Int)<((x242000_1.length:Int):Int):=of_decide_eq_true zz3
      obtain ⟨go9,co9,eo9,gb9,gl9,cl9,HG9⟩:=Kd.R_form HO_242000.out (by omega)
      (first|cases eo9|(injection eo9 with ea_ en_ ec_;(first|subst ea_|(injection ea_ with ea_;subst ea_));subst ec_;clear en_))
      have GB9:=aK gb9;have GG9:=aK HG9;clear gb9 gl9 HG9;have HMgo9:=aK (show ((P0_0_ go9∨P0_4_ go9)∨w.heap.size≤go9) from (HO_242000.out.1 _ rfl));obtain ⟨hx9_0,hf9_0⟩:=Kd.R_celln 0 HO_242000.out (x3_1:Int) p9 q9;replace p9:=eq_true p9;replace q9:=eq_true q9;have HP12:=Kd.R_putg HO_242000.out (x3_1:Int) 0
      go_wp2_with (first|((with_reducible refine gate_store (t:=3) (p:=14) rfl ?_);refine store_event (t:=3) (p:=14) (v:=?vo_w13) (w1:=(wr.setCell ⟨go9,(x3_1:Int).toNat,none⟩ (.int .i64 0))) ?hg ?ho ?hn ?hr ?_;(case ho=>rfl);(case hg=>rfl);(case hn=>rfl);(case hr=>first|(go_simp;done)|(go_simp;rfl)|((try (first|(obtain ⟨_,_,rfl⟩:=Kd.R_slice HO_242000.out)|(obtain ⟨_,_,rfl⟩:=Kd.S_slice HO_242000.out)));(try (first|(obtain ⟨_,_,rfl⟩:=Kd.R_slice HO_242004.out)|(obtain ⟨_,_,rfl⟩:=Kd.S_slice HO_242004.out)));first|(go_simp;done)|(go_simp;rfl)));intro w13 hw;have hg:wr.grownBy w13 (some go9):=(by rw [hw];exact HP12.2);have hp_:Kd.R (Kd.int .i64) 3 w13 w0.heap.size (fun k_=>((P0_0_ k_∨P0_4_ k_)∨w.heap.size≤k_)) (.slice (some ⟨go9,0,none⟩) x242000_1.length co9) y243:=(by rw [hw,Ny243.out];exact HP12.1);clear HP12;replace HO_242004:=aK (Kd.R_over' (v:=(.slice (some ⟨go9,0,none⟩) x242000_1.length co9)) (by (with_reducible repeat (first|apply Kd.R_alloc|apply Kd.R_drewN|apply Kd.R_drew));exact HO_242004.out) (Kd.R_typed HO_242000.out) (by decide) hg);replace BK241:=aK (blk_grown (g:=gb241) (o:= .cells #[.slice (some ⟨go9,0,none⟩) x242000_1.length co9,.int .i64 a0_1,.int .i64 a0_2,.int .i64 a0_3,.slice Ao3 l0_4.length co3] 29 (0,0)) zz47 hg (Kd.R_ne HO_242000.out BK241.out (by decide)));replace BK242:=aK (blk_grown (g:=gb242) (o:= .cells #[.slice none 0 0,.int .i64 0,.int .i64 0,.int .i64 0,.slice none 0 0] 29 (0,0)) (by (with_reducible repeat (first|refine blk_drewN ?_ _|refine blk_drew ?_|refine blk_alloc ?_ _));exact BK242.out) hg (Kd.R_ne HO_242000.out BK242.out (by decide)));replace HB:=aK ((by rw [hw];exact below_set (HB.out) GB9.out:Below w0.heap.size w0 w13));replace HK:=aK (Kept.of_grown (S:=(fun k_=>P0_0_ k_∨P0_4_ k_)) hg (by repeat (first|(with_reducible first|exact HK.out|apply Kept.alloc|apply Kept.drewN|apply Kept.drew|refine Kept.setCell ?_ (.inr GW241.out) _|refine Kept.setCell ?_ (.inr GW242.out) _)|exact HK.out)) (fun k_ e_=>(HO_242000.out.1 k_ e_)));replace HO_242000:=aK (hp_);clear hg hw hp_))
      go_roundg k1
      case measure=>have:=HK1.out;omega
      case rel=>exact ⟨(wrap64 (x3_1+1)),(y243),(.slice (some ⟨go9,0,none⟩) x242000_1.length co9),zz5,H',⟨by have:=HK1.out;omega⟩,⟨by (with_reducible repeat (first|apply Kd.R_alloc|apply Kd.R_drewN|apply Kd.R_drew));exact HO_242000.out⟩,⟨by (with_reducible repeat (first|apply Kd.R_alloc|apply Kd.R_drewN|apply Kd.R_drew));exact HO_242004.out⟩,⟨by (with_reducible repeat (first|refine blk_drewN ?_ _|refine blk_drew ?_|refine blk_alloc ?_ _));exact BK241.out⟩,⟨by (with_reducible repeat (first|refine blk_drewN ?_ _|refine blk_drew ?_|refine blk_alloc ?_ _));exact BK242.out⟩,⟨by repeat (first|(with_reducible first|exact HK.out|apply Kept.alloc|apply Kept.drewN|apply Kept.drew|refine Kept.setCell ?_ (.inr GW241.out) _|refine Kept.setCell ?_ (.inr GW242.out) _)|exact HK.out)⟩,⟨by repeat (first|(with_reducible first|exact HB.out|apply below_alloc|apply pw_below_drewN|apply below_drew1|refine below_set ?_ GE241.out|refine below_set ?_ GE242.out)|exact HB.out)⟩⟩
     ·rw [if_neg c8] at H
      exact absurd H (by simp)
    ·rw [if_neg c7] at H
     exact absurd H (by simp)
   ·rw [if_neg c6] at H
    have c6b0:decide (x3_1<a0_1)=false:=decide_eq_false c6
    clear c6;have H':=aK H;clear H;have hnb14:=NB241_242.out;have hnc14:=NB242_241.out;obtain ⟨hcz15_0,hcz15_1,hcz15_2,hcz15_3,hcz15_4,hfz15_0,hfz15_1,hfz15_2,hfz15_3,hfz15_4⟩:=cbf5 BK241;go_wp2
    go_loopg [4] k1 (fun kq v4 w'=> ∃(x4_2:Int) (x242004_2:List Bool) (u242004:Value),v4= .int .i64 x4_2∧Aside0 (spec_l22Clean.l1 kq x4_2 x242000_1 a0_1 a0_2 a0_3 x242004_2=some (r1,r2,r3,r4,r5))∧Aside0 (kq≤k1)∧Aside0 (Kd.R (Kd.int .i64) 3 w' w0.heap.size (fun k_=>((P0_0_ k_∨P0_4_ k_)∨w.heap.size≤k_)) u242000 x242000_1)∧Aside0 (Kd.R Kd.bool 4 w' w0.heap.size (fun k_=>((P0_0_ k_∨P0_4_ k_)∨w.heap.size≤k_)) u242004 x242004_2)∧Aside0 (w'.heap[gb241]? =some (.cells #[u242000,.int .i64 a0_1,.int .i64 a0_2,.int .i64 a0_3,u242004] 29 (0,0)))∧Aside0 (w'.heap[gb242]? =some (.cells #[(.slice none 0 0),.int .i64 0,.int .i64 0,.int .i64 0,(.slice none 0 0)] 29 (0,0)))∧Aside0 (Kept w w' (fun k_=>P0_0_ k_∨P0_4_ k_))∧Aside0 (Below w0.heap.size w0 w'))
    case atStart=>exact ⟨(0),(l0_4),(.slice Ao3 l0_4.length co3),zz5,H',⟨Nat.le_refl _⟩,⟨by (with_reducible repeat (first|apply Kd.R_alloc|apply Kd.R_drewN|apply Kd.R_drew));exact HO_242000.out⟩,⟨by (with_reducible repeat (first|apply Kd.R_alloc|apply Kd.R_drewN|apply Kd.R_drew));exact HO_242004.out⟩,⟨by (with_reducible repeat (first|refine blk_drewN ?_ _|refine blk_drew ?_|refine blk_alloc ?_ _));exact BK241.out⟩,⟨by (with_reducible repeat (first|refine blk_drewN ?_ _|refine blk_drew ?_|refine blk_alloc ?_ _));exact BK242.out⟩,⟨by repeat (first|(with_reducible first|exact HK.out|apply Kept.alloc|apply Kept.drewN|apply Kept.drew|refine Kept.setCell ?_ (.inr GW241.out) _|refine Kept.setCell ?_ (.inr GW242.out) _)|exact HK.out)⟩,⟨by repeat (first|(with_reducible first|exact HB.out|apply below_alloc|apply pw_below_drewN|apply below_drew1|refine below_set ?_ GE241.out|refine below_set ?_ GE242.out)|exact HB.out)⟩⟩
    case round=>
     clear H';(try clear c1);(try clear p2);(try clear c4);(try clear c6);(try clear c6b0);(try clear p6);(try clear c7);(try clear c7b0);(try clear c8);(try clear c8b0);(try clear p9);(try clear q9);(try clear hx9);(try clear hf9);(try clear c10);(try clear c14);(try clear hcz11_0);(try clear hcz11_1);(try clear hcz11_2);(try clear hcz11_3);(try clear hcz11_4);(try clear hcz15_0);(try clear hcz15_1);(try clear hcz15_2);(try clear hcz15_3);(try clear hcz15_4);(try clear hfz11_0);(try clear hfz11_1);(try clear hfz11_2);(try clear hfz11_3);(try clear hfz11_4);(try clear hfz15_0);(try clear hfz15_1);(try clear hfz15_2);(try clear hfz15_3);(try clear hfz15_4);(try clear hx9_0);(try clear p2);(try clear p9);(try clear q9);obtain ⟨x4_2,x242004_2,u242004,rfl,HA,HK2,HO_242000,HO_242004,BK241,BK242,HK,HB⟩:=hrel
     cases gk with
     |zero=>exact absurd HA.out (by simp [spec_l22Clean.l1])
     | succ k2 =>
      have H:=HA.out;clear HA;simp only [spec_l22Clean.l1] at H;by_cases c16:x4_2<(x242004_2.length:Int)
      ·rw [if_pos c16] at H
       have c16b0:decide (x4_2<(x242004_2.length:Int))=true:=decide_eq_true c16
       clear c16;by_cases c17:0≤x4_2
       ·rw [if_pos c17] at H
        have c17b0:decide (0≤x4_2)=true:=decide_eq_true c17
        clear c17;obtain ⟨y244,hy244⟩: ∃y_:List Bool,y_=(x242004_2.set (x4_2:Int).toNat false):=⟨_,rfl⟩;replace H:(spec_l22Clean.l1 k2 (wrap64 (x4_2+1)) x242000_1 a0_1 a0_2 a0_3 y244)=some (r1,r2,r3,r4,r5):=by first|(rw [hy244];with_reducible exact H)|(have H2_:=(Option.bind_some _ _).symm.trans H;rw [hy244];with_reducible exact H2_)|(have H2_:=(Option.bind_some _ _).symm.trans H;with_reducible exact H2_)|with_reducible exact H|(rw [hy244];exact H)|exact H
        have Ny244:=aK hy244;clear hy244;have H':=aK H;clear H;have hnb19:=NB241_242.out;have hnc19:=NB242_241.out;obtain ⟨hcz20_0,hcz20_1,hcz20_2,hcz20_3,hcz20_4,hfz20_0,hfz20_1,hfz20_2,hfz20_3,hfz20_4⟩:=cbf5 BK241;obtain ⟨Ao21,co21,eo21⟩:=Kd.R_slice HO_242004.out;subst eo21;have p18:0≤(x4_2:Int):=of_decide_eq_true zz3
        have q18:(x4_2:Int)<((x242004_2.length:Int):Int):=of_decide_eq_true zz3
        obtain ⟨go18,co18,eo18,gb18,gl18,cl18,HG18⟩:=Kd.R_form HO_242004.out (by omega)
        (first|cases eo18|(injection eo18 with ea_ en_ ec_;(first|subst ea_|(injection ea_ with ea_;subst ea_));subst ec_;clear en_))
        have GB18:=aK gb18;have GG18:=aK HG18;clear gb18 gl18 HG18;have HMgo18:=aK (show ((P0_0_ go18∨P0_4_ go18)∨w.heap.size≤go18) from (HO_242004.out.1 _ rfl));obtain ⟨hx18_0,hf18_0⟩:=Kd.R_celln false HO_242004.out (x4_2:Int) p18 q18;replace p18:=eq_true p18;replace q18:=eq_true q18;have HP22:=Kd.R_putg HO_242004.out (x4_2:Int) false
        go_wp2_with (first|((with_reducible refine gate_store (t:=4) (p:=25) rfl ?_);refine store_event (t:=4) (p:=25) (v:=?vo_w23) (w1:=(wr.setCell ⟨go18,(x4_2:Int).toNat,none⟩ (.bool false))) ?hg ?ho ?hn ?hr ?_;(case ho=>rfl);(case hg=>rfl);(case hn=>rfl);(case hr=>first|(go_simp;done)|(go_simp;rfl)|((try (first|(obtain ⟨_,_,rfl⟩:=Kd.R_slice HO_242000.out)|(obtain ⟨_,_,rfl⟩:=Kd.S_slice HO_242000.out)));(try (first|(obtain ⟨_,_,rfl⟩:=Kd.R_slice HO_242004.out)|(obtain ⟨_,_,rfl⟩:=Kd.S_slice HO_242004.out)));first|(go_simp;done)|(go_simp;rfl)));intro w23 hw;have hg:wr.grownBy w23 (some go18):=(by rw [hw];exact HP22.2);have hp_:Kd.R Kd.bool 4 w23 w0.heap.size (fun k_=>((P0_0_ k_∨P0_4_ k_)∨w.heap.size≤k_)) (.slice (some ⟨go18,0,none⟩) x242004_2.length co21) y244:=(by rw [hw,Ny244.out];exact HP22.1);clear HP22;replace HO_242000:=aK (Kd.R_over' (v:=(.slice (some ⟨go18,0,none⟩) x242004_2.length co21)) (by (with_reducible repeat (first|apply Kd.R_alloc|apply Kd.R_drewN|apply Kd.R_drew));exact HO_242000.out) (Kd.R_typed HO_242004.out) (by decide) hg);replace BK241:=aK (blk_grown (g:=gb241) (o:= .cells #[u242000,.int .i64 a0_1,.int .i64 a0_2,.int .i64 a0_3,.slice (some ⟨go18,0,none⟩) x242004_2.length co21] 29 (0,0)) zz47 hg (Kd.R_ne HO_242004.out BK241.out (by decide)));replace BK242:=aK (blk_grown (g:=gb242) (o:= .cells #[.slice none 0 0,.int .i64 0,.int .i64 0,.int .i64 0,.slice none 0 0] 29 (0,0)) (by (with_reducible repeat (first|refine blk_drewN ?_ _|refine blk_drew ?_|refine blk_alloc ?_ _));exact BK242.out) hg (Kd.R_ne HO_242004.out BK242.out (by decide)));replace HB:=aK ((by rw [hw];exact below_set (HB.out) GB18.out:Below w0.heap.size w0 w23));replace HK:=aK (Kept.of_grown (S:=(fun k_=>P0_0_ k_∨P0_4_ k_)) hg (by repeat (first|(with_reducible first|exact HK.out|apply Kept.alloc|apply Kept.drewN|apply Kept.drew|refine Kept.setCell ?_ (.inr GW241.out) _|refine Kept.setCell ?_ (.inr GW242.out) _)|exact HK.out)) (fun k_ e_=>(HO_242004.out.1 k_ e_)));replace HO_242004:=aK (hp_);clear hg hw hp_))
        go_roundg k2
        case measure=>have:=HK1.out;have:=HK2.out;omega
        case rel=>exact ⟨(wrap64 (x4_2+1)),(y244),(.slice (some ⟨go18,0,none⟩) x242004_2.length co21),zz5,H',⟨by have:=HK1.out;have:=HK2.out;omega⟩,⟨by (with_reducible repeat (first|apply Kd.R_alloc|apply Kd.R_drewN|apply Kd.R_drew));exact HO_242000.out⟩,⟨by (with_reducible repeat (first|apply Kd.R_alloc|apply Kd.R_drewN|apply Kd.R_drew));exact HO_242004.out⟩,⟨by (with_reducible repeat (first|refine blk_drewN ?_ _|refine blk_drew ?_|refine blk_alloc ?_ _));exact BK241.out⟩,⟨by (with_reducible repeat (first|refine blk_drewN ?_ _|refine blk_drew ?_|refine blk_alloc ?_ _));exact BK242.out⟩,⟨by repeat (first|(with_reducible first|exact HK.out|apply Kept.alloc|apply Kept.drewN|apply Kept.drew|refine Kept.setCell ?_ (.inr GW241.out) _|refine Kept.setCell ?_ (.inr GW242.out) _)|exact HK.out)⟩,⟨by repeat (first|(with_reducible first|exact HB.out|apply below_alloc|apply pw_below_drewN|apply below_drew1|refine below_set ?_ GE241.out|refine below_set ?_ GE242.out)|exact HB.out)⟩⟩
       ·rw [if_neg c17] at H
        exact absurd H (by simp)
      ·rw [if_neg c16] at H
       have c16b0:decide (x4_2<(x242004_2.length:Int))=false:=decide_eq_false c16
       clear c16;simp only [Option.some.injEq,Prod.mk.injEq] at H;obtain ⟨rfl,rfl,rfl,rfl,rfl⟩:=H;have hnb24:=NB241_242.out;have hnc24:=NB242_241.out;obtain ⟨hcz25_0,hcz25_1,hcz25_2,hcz25_3,hcz25_4,hfz25_0,hfz25_1,hfz25_2,hfz25_3,hfz25_4⟩:=cbf5 BK241;obtain ⟨Ao26,co26,eo26⟩:=Kd.R_slice HO_242004.out;subst eo26;obtain ⟨Ao27,co27,eo27⟩:=Kd.R_slice HO_242000.out;subst eo27;obtain ⟨hcz28_0,hcz28_1,hcz28_2,hcz28_3,hcz28_4,hfz28_0,hfz28_1,hfz28_2,hfz28_3,hfz28_4⟩:=cbf5 BK242;go_wp2;refine bodyPost_ret (results_cell_row rfl _ _ gb242 29 #[.slice Ao27 x242000_1.length co27,.int .i64 a0_1,.int .i64 0,.int .i64 a0_3,.slice Ao26 x242004_2.length co26] (0,0) _ rfl (by (with_reducible repeat (first|refine blk_drewN ?_ _|refine blk_drew ?_|refine blk_alloc ?_ _));refine blk_put (cs:= #[.slice Ao27 x242000_1.length co27,.int .i64 a0_1,.int .i64 0,.int .i64 a0_3,.slice none 0 0]) ?_ 4 _ rfl;(with_reducible repeat (first|refine blk_drewN ?_ _|refine blk_drew ?_|refine blk_alloc ?_ _));refine blk_put (cs:= #[.slice Ao27 x242000_1.length co27,.int .i64 a0_1,.int .i64 0,.int .i64 0,.slice none 0 0]) ?_ 3 _ rfl;(with_reducible repeat (first|refine blk_drewN ?_ _|refine blk_drew ?_|refine blk_alloc ?_ _));refine blk_put (cs:= #[.slice Ao27 x242000_1.length co27,.int .i64 a0_1,.int .i64 0,.int .i64 0,.slice none 0 0]) ?_ 2 _ rfl;(with_reducible repeat (first|refine blk_drewN ?_ _|refine blk_drew ?_|refine blk_alloc ?_ _));refine blk_put (cs:= #[.slice Ao27 x242000_1.length co27,.int .i64 0,.int .i64 0,.int .i64 0,.slice none 0 0]) ?_ 1 _ rfl;(with_reducible repeat (first|refine blk_drewN ?_ _|refine blk_drew ?_|refine blk_alloc ?_ _));refine blk_put (cs:= #[.slice none 0 0,.int .i64 0,.int .i64 0,.int .i64 0,.slice none 0 0]) ?_ 0 _ rfl;(with_reducible repeat (first|refine blk_drewN ?_ _|refine blk_drew ?_|refine blk_alloc ?_ _));refine blk_far ?_ NB242_241.out _;(with_reducible repeat (first|refine blk_drewN ?_ _|refine blk_drew ?_|refine blk_alloc ?_ _));exact BK242.out) Try.underlying29 rfl (by kernel_rfl)) rfl ?_
       exact ⟨_,_,by first|rfl|(simp [errW_none,errW_some]<;>rfl)|(simp [*,errW_none,errW_some]<;>rfl),by (with_reducible repeat (first|apply Kd.R_alloc|apply Kd.R_drewN|apply Kd.R_drew));exact Kd.R_mono (Kd.R_far (p:=⟨gb242,4,none⟩) (Kd.R_far (p:=⟨gb242,3,none⟩) (Kd.R_far (p:=⟨gb242,2,none⟩) (Kd.R_far (p:=⟨gb242,1,none⟩) (Kd.R_far (p:=⟨gb242,0,none⟩) (Kd.R_far (p:=⟨gb241,2,none⟩) (Kd.R_types (Kd.R_types HO_242000.out BK241.out (by decide)) BK242.out (by decide)) (fun _ hk=>hk.1.2) (.int .i64 0)) (fun _ hk=>hk.2) (.slice Ao27 x242000_1.length co27)) (fun _ hk=>hk.2) (.int .i64 a0_1)) (fun _ hk=>hk.2) (.int .i64 0)) (fun _ hk=>hk.2) (.int .i64 a0_3)) (fun _ hk=>hk.2) (.slice Ao26 x242004_2.length co26)) (fun _ hk=>hk.1.1),by (with_reducible repeat (first|apply Kd.R_alloc|apply Kd.R_drewN|apply Kd.R_drew));exact Kd.R_mono (Kd.R_far (p:=⟨gb242,4,none⟩) (Kd.R_far (p:=⟨gb242,3,none⟩) (Kd.R_far (p:=⟨gb242,2,none⟩) (Kd.R_far (p:=⟨gb242,1,none⟩) (Kd.R_far (p:=⟨gb242,0,none⟩) (Kd.R_far (p:=⟨gb241,2,none⟩) (Kd.R_types (Kd.R_types HO_242004.out BK241.out (by decide)) BK242.out (by decide)) (fun _ hk=>hk.1.2) (.int .i64 0)) (fun _ hk=>hk.2) (.slice Ao27 x242000_1.length co27)) (fun _ hk=>hk.2) (.int .i64 a0_1)) (fun _ hk=>hk.2) (.int .i64 0)) (fun _ hk=>hk.2) (.int .i64 a0_3)) (fun _ hk=>hk.2) (.slice Ao26 x242004_2.length co26)) (fun _ hk=>hk.1.1),by repeat (first|(with_reducible first|exact HB.out|apply below_alloc|apply pw_below_drewN|apply below_drew1|refine below_set ?_ GE241.out|refine below_set ?_ GE242.out)|exact HB.out),by repeat (first|(with_reducible first|exact HK.out|apply Kept.alloc|apply Kept.drewN|apply Kept.drew|refine Kept.setCell ?_ (.inr GW241.out) _|refine Kept.setCell ?_ (.inr GW242.out) _)|exact HK.out)⟩
end Go.Proofs.Ytbaklikaoleplaa.K
