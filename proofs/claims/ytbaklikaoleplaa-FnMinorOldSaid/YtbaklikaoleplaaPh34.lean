import Derived.Test.YtbaklikaoleplaaPh24
import Derived.Test.YtbaklikaoleplaaPh26
import Derived.Test.YtbaklikaoleplaaPh29
import Derived.Test.YtbaklikaoleplaaPh33
import Derived.Test.YtbaklikaoleplaaPh28
import Derived.Test.YtbaklikaoleplaaPh25
import Derived.Test.YtbaklikaoleplaaPh27
import Derived.Test.YtbaklikaoleplaaPh32
import Derived.Test.YtbaklikaoleplaaPh31
namespace Go.Proofs.Ytbaklikaoleplaa.Pure
open Go.RowKit Go.Proofs.Ytbaklikaoleplaa.K Go.Proofs.YtbaklikaoleplaaW.PrintWords Go.Proofs.YtbaklikaoleplaaW.PrintLast Go.Proofs.YtbaklikaoleplaaW.PrintMore
set_option linter.unusedVariables false
set_option linter.unusedSimpArgs false
structure Am where
 mv:List (Int×Int)
 o:Int
 full:Bool
def ld (cs:Cs) (ws:List Int) (x r:Int):Bool:=decide (tL (rd ws x)≤r)&&bDj cs (rd ws x) (r - tL (rd ws x))
def bGp (cs:Cs) (ws:List Int) (y:Int) (cards:List Bool) (cd:Bool) (x r:Int):Bool:=ld cs ws x r&&(!cd||kK false cards ((x+r - y)/4))
def bAd (cs:Cs) (ws:List Int) (y:Int) (s:Am) (v:Int):Am:=
 if v=0 then s else if v>y then s else if (nO s.mv v).isSome=true∨s.full=true then s
 else if mZ cs ws (v - 1)>(ws.length:Int) - s.o then {s with full:=true}
 else ⟨s.mv++[(v,s.o+1)],s.o+mZ cs ws (v - 1),false⟩
def bOy (cs:Cs) (ws:List Int) (y:Int) (cards:List Bool) (x:Int) (cd:Bool):Nat→Int→Am→Am
  |0,_,s=>s
  |d+1,r,s=>bOy cs ws y cards x cd d (r+1) (if bGp cs ws y cards cd x r=true then bAd cs ws y s (rd ws (x+r)) else s)
def bIi (cs:Cs) (ws:List Int) (y:Int) (cards:List Bool) (cd:Bool) (s:Am) (x:Int):Am:=bOy cs ws y cards x cd (mZ cs ws x).toNat 0 s
def bMu (cs:Cs) (ws:List Int) (y:Int) (cards:List Bool):Nat→Nat→Am→Am
  |0,_,s=>s
  |d+1,i,s=>if s.mv.length≤i then s else bMu cs ws y cards d (i+1) (bIi cs ws y cards false s (rd (s.mv.map Prod.fst) i - 1))
def qI (cs:Cs) (ws:List Int) (y o:Int):List Int:=(pw ws (gI cs) o (o - y).toNat y).1
def bKv (o:Int):Am:=⟨[],o,false⟩
def mJ (cs:Cs) (ws:List Int) (y o:Int) (cards:List Bool) (roots:List Int):Am:=
  bMu cs ws y cards 201 0 ((qI cs ws y o).foldl (bIi cs ws y cards true) (roots.foldl (bAd cs ws y) (bKv o)))
def Kn (y:Int) (s:Am) (v:Int):Prop:=v=0∨v>y∨(nO s.mv v).isSome=true
def bAa (P:List Int) (mv:List (Int×Int)):List (Int×Int):=P.map (fun x=>(x,x))++mv.map (fun p=>(p.2 - 1,p.1 - 1))
def bMt (sz:Int→Int):Int→List (Int×Int)→Int→Prop
  |b,[],e=>b=e
  |b,p::r,e=>p.1=b∧bMt sz (b+sz p.2) r e
theorem bMt.add {sz:Int→Int}: ∀{l:List (Int×Int)} {b e c:Int},bMt sz b l e→∀q:List (Int×Int),bMt sz e q c→bMt sz b (l++q) c
 |[],b,e,c,h,q,hq=>by
  have h:b=e:=h
  rw [h];exact hq
 |p::r,b,e,c,h,q,hq=>⟨h.1,bMt.add h.2 q hq⟩
theorem bMt.mem {sz:Int→Int}: ∀{l:List (Int×Int)} {b e:Int},bMt sz b l e→(∀p∈l,0<sz p.2)→b≤e∧∀p∈l,b≤p.1∧p.1+sz p.2≤e
 |[],b,e,h,_=>by
  have h:b=e:=h
  exact ⟨by omega,fun p hp=>by simp at hp⟩
 |p::r,b,e,h,hp=>by
  obtain ⟨h1,h2⟩:=h;have hz:=hp p (gG ..);obtain ⟨i1,i2⟩:=bMt.mem h2 (fun q hq=>hp q (fC _ hq));refine ⟨by omega,fun q hq=>?_⟩;rcases List.mem_cons.mp hq with rfl|hq
  ·omega
  ·have:=i2 q hq;omega
theorem bMt.cover {sz:Int→Int} {j:Int}: ∀{l:List (Int×Int)} {b e:Int},bMt sz b l e→b≤j→j<e→∃p∈l,p.1≤j∧j<p.1+sz p.2
 |[],b,e,h,h1,h2=>by
  have h:b=e:=h
  omega
 | p :: r, b, e, h, h1, h2 => by
  obtain ⟨q1,q2⟩:=h;by_cases c:j<b+sz p.2
  ·exact ⟨p,gG ..,by omega,by omega⟩
  ·obtain ⟨q, hq, z⟩ := bMt.cover q2 (by omega) h2
   exact ⟨q,fC _ hq,z⟩
theorem bMt.one {sz:Int→Int} {j:Int}: ∀{l:List (Int×Int)} {b e:Int},bMt sz b l e→(∀p∈l,0<sz p.2)→∀p∈l,∀q∈l,p.1≤j→j<p.1+sz p.2→q.1≤j→j<q.1+sz q.2→p=q
 |[],b,e,h,_,p,hp,q,hq=>by simp at hp
 | a :: r, b, e, h, hz, p, hp, q, hq => by
  obtain ⟨h1,h2⟩:=h;have i:=bMt.mem h2 (fun q hq=>hz q (fC _ hq));intro a1 a2 b1 b2;rcases List.mem_cons.mp hp with e1|hp2
  ·rcases List.mem_cons.mp hq with e2 | hq2
   ·rw [e1,e2]
   ·have:=i.2 q hq2;rw [e1] at a1 a2;omega
  ·rcases List.mem_cons.mp hq with e2 | hq2
   ·have:=i.2 p hp2;rw [e2] at b1 b2;omega
   ·exact bMt.one h2 (fun q hq=>hz q (fC _ hq)) p hp2 q hq2 a1 a2 b1 b2
theorem yK {mv:List (Int×Int)} {a b:Int} (h:nO mv a=some b):(a,b)∈mv:=by
 unfold nO at h;obtain ⟨p,hp,rfl⟩:=hY.mp h;have h1:=List.find?_some hp;have h2:=List.mem_of_find?_eq_some hp;have h1:p.1=a:=by simpa using h1
 rw [←h1];exact h2
theorem bHn {mv:List (Int×Int)} {a:Int} (h:nO mv a=none): ∀p∈mv,p.1≠a:=by
 intro p hp e;unfold nO at h;rw [Option.map_eq_none_iff,List.find?_eq_none] at h;exact h p hp (by simp [e])
theorem bRq {mv:List (Int×Int)} (hn:(mv.map Prod.fst).Nodup) {p:Int×Int} (hp:p∈mv):nO mv p.1=some p.2:=by
 cases h:nO mv p.1 with
 |none=>exact absurd rfl (bHn h p hp)
 | some b =>
  have hm:=yK h
  induction mv with
  |nil=>simp at hp
  | cons q r ih =>
   rw [gU,List.nodup_cons] at hn;unfold nO at h;rw [List.find?_cons] at h;by_cases c:q.1=p.1
   ·rw [show (q.1 == p.1) = true by simp [c]] at h
    have h:some q.2=some b:=h
    rcases List.mem_cons.mp hp with e|hp2
    ·rw [e,h]
    ·exact absurd (by rw [c];exact List.mem_map.mpr ⟨p,hp2,rfl⟩) hn.1
   ·rw [show (q.1 == p.1) = false by simp [c]] at h
    have hp2:p∈r:=(List.mem_cons.mp hp).resolve_left (fun e=>c (by rw [e]))
    exact ih hn.2 hp2 h (yK h)
theorem bJd {mv l:List (Int×Int)} {a b:Int} (h:nO mv a=some b):nO (mv++l) a=some b:=by
 unfold nO at h ⊢;obtain ⟨p,hp,e⟩:=hY.mp h;rw [List.find?_append,hp];exact gF some e
structure Ext (s s':Am):Prop where
 pre: ∃l,s'.mv=s.mv++l
 ful:s.full=true→s'=s
 up:s.o≤s'.o
theorem Ext.refl (s:Am):Ext s s:=⟨⟨[],by simp⟩,fun _=>rfl,vW _⟩
theorem Ext.trans {a b c:Am} (h:Ext a b) (k:Ext b c):Ext a c:=by
 obtain ⟨l,hl⟩:=h.pre;obtain ⟨q,hq⟩:=k.pre;refine ⟨⟨l++q,by rw [hq,hl,vL]⟩,fun f=>?_,Int.le_trans h.up k.up⟩;have e:=h.ful f;rw [k.ful (by rw [e];exact f),e]
theorem Ext.nf {a b:Am} (h:Ext a b) (f:b.full=false):a.full=false:=by
 cases c:a.full with
 |false=>rfl
 |true=>rw [h.ful c,c] at f;cases f
theorem Ext.kn {y:Int} {a b:Am} (h:Ext a b) {v:Int} (k:Kn y a v):Kn y b v:=by
 rcases k with k|k|k
 ·exact .inl k
 ·exact .inr (.inl k)
 ·obtain ⟨l, hl⟩ := h.pre
  obtain ⟨p,hp⟩:=Option.isSome_iff_exists.mp k;exact .inr (.inr (by rw [hl,bJd hp];rfl))
structure AI (cs:Cs) (ws:List Int) (y o:Int) (W:List Int) (s:Am):Prop where
 chn:bMt (mZ cs ws) y (bAa (qI cs ws y o) s.mv) s.o
 key: ∀p∈s.mv,1≤p.1∧p.1≤y∧p.1 - 1∈W
 nod:(s.mv.map Prod.fst).Nodup
 top:s.o≤ws.length
section
variable {cs:Cs} {ws:List Int} {y t o:Int} {cards:List Bool} {W:List Int}
theorem bMh {sz:Int→Int} {e:Int}: ∀(L:List Int) (i:Int),Chn sz e i L→bMt sz i (L.map fun x=>(x,x)) e
 |[],i,h=>h
 |x::r,i,h=>by
  obtain ⟨h1,h2⟩:=h;subst h1;exact ⟨rfl,bMh r _ h2⟩
theorem Opn.old (H:Opn cs ws y t o cards W) {x:Int} (hx:x∈qI cs ws y o):x∈W∧y≤x:=by
  refine ⟨by rw [H.w];exact mK _ hx,?_⟩;exact (yV ws (gI cs) o (o - y).toNat y x hx).1
theorem Opn.old_iff (H:Opn cs ws y t o cards W) {x:Int}:x∈qI cs ws y o↔x∈W∧y≤x:=by
 refine ⟨H.old,fun h=>?_⟩;have hp:=Opn.part H h.1;have t1:=H.b.t1;rcases hp with hp|hp
 ·omega
 ·exact hp.2.2.2
theorem Opn.sz0 (H:Opn cs ws y t o cards W) {x:Int} (hx:x∈W):0<mZ cs ws x:=by
  rcases H.part hx with h|h<;>exact h.2.2.1
theorem Opn.start0 (H:Opn cs ws y t o cards W):AI cs ws y o W (bKv o):=by
 have n0:=H.b.n0;have o0:=H.b.o0;have o1:=H.b.o1;refine ⟨?_,fun p hp=>by simp [bKv] at hp,by simp [bKv],o1⟩;unfold bAa qI bKv;rw [mP,tX];exact bMh _ _ (bNd ws (gI cs) o ws.length (by omega) (o - y).toNat y (by omega) (by omega) H.w2)
theorem AI.pos (H:Opn cs ws y t o cards W) {s:Am} (h:AI cs ws y o W s): ∀p∈bAa (qI cs ws y o) s.mv,p.2∈W∧0<mZ cs ws p.2:=by
 intro p hp
 have hw:p.2∈W:=by
  rcases List.mem_append.mp hp with q|q
  ·obtain ⟨x, hx, rfl⟩ := List.mem_map.mp q
   exact (H.old hx).1
  ·obtain ⟨x, hx, rfl⟩ := List.mem_map.mp q
   exact (h.key x hx).2.2
 exact ⟨hw,H.sz0 hw⟩
theorem bKj (s:Am) (v:Int):(bAd cs ws y s v=s∧(Kn y s v∨s.full=true))∨
  (s.full=false∧v≠0∧v≤y∧nO s.mv v=none∧mZ cs ws (v - 1)>(ws.length:Int) - s.o∧bAd cs ws y s v={s with full:=true})∨
  (s.full=false∧v≠0∧v≤y∧nO s.mv v=none∧mZ cs ws (v - 1)≤(ws.length:Int) - s.o∧bAd cs ws y s v=⟨s.mv++[(v,s.o+1)],s.o+mZ cs ws (v - 1),false⟩):=by
 unfold bAd;by_cases c0:v=0
 ·exact .inl ⟨by rw [if_pos c0],.inl (.inl c0)⟩
 by_cases c1:v>y
 ·exact .inl ⟨by rw [if_neg c0,if_pos c1],.inl (.inr (.inl c1))⟩
 rw [if_neg c0,if_neg c1]
 cases c2:s.full with
 |true=>exact .inl ⟨by rw [if_pos (.inr rfl)],.inr rfl⟩
 |false=>
 cases c3:nO s.mv v with
 |some b=>exact .inl ⟨by rw [if_pos (.inl rfl)],.inl (.inr (.inr (by rw [c3];rfl)))⟩
 |none=>
 rw [if_neg (by simp)];by_cases c4:mZ cs ws (v - 1)>(ws.length:Int) - s.o
 ·exact .inr (.inl ⟨rfl,c0,by omega,rfl,c4,by rw [if_pos c4]⟩)
 ·exact .inr (.inr ⟨rfl,c0,by omega,rfl,by omega,by rw [if_neg c4]⟩)
theorem bGt (H:Opn cs ws y t o cards W) {s:Am} {v:Int} (hv:v=0∨v - 1∈W):Ext s (bAd cs ws y s v)∧(Kn y (bAd cs ws y s v) v∨(bAd cs ws y s v).full=true):=by
 rcases bKj (cs:=cs) (ws:=ws) (y:=y) s v with ⟨e,k⟩|⟨f,v0,vy,hn,hz,e⟩|⟨f,v0,vy,hn,hz,e⟩
 ·rw [e];exact ⟨Ext.refl s,k⟩
 ·rw [e];exact ⟨⟨⟨[],by simp⟩,fun q=>(by rw [f] at q;cases q),vW _⟩,.inr rfl⟩
 ·have := H.sz0 (hv.resolve_left v0)
  rw [e];exact ⟨⟨⟨_,rfl⟩,fun q=>(by rw [f] at q;cases q),by dsimp only;omega⟩,.inl (.inr (.inr (by rw [bAu hn,if_pos rfl];rfl)))⟩
theorem AI.come (H:Opn cs ws y t o cards W) {s:Am} (h:AI cs ws y o W s) {v:Int} (hv:v=0∨v - 1∈W):AI cs ws y o W (bAd cs ws y s v):=by
 rcases bKj (cs:=cs) (ws:=ws) (y:=y) s v with ⟨e,k⟩|⟨f,v0,vy,hn,hz,e⟩|⟨f,v0,vy,hn,hz,e⟩
 ·rw [e];exact h
 ·rw [e];exact ⟨h.chn,h.key,h.nod,h.top⟩
 ·have hw := hv.resolve_left v0
  have hr:=rW H.wlk hw;rw [e];refine ⟨?_,fun p hp=>?_,?_,by dsimp only;omega⟩
  ·unfold bAa
   dsimp only
   rw [nA,←vL];refine bMt.add h.chn _ ?_;exact ⟨by dsimp only;omega,by dsimp only;rfl⟩
  ·rcases List.mem_append.mp hp with q | q
   ·exact h.key p q
   ·rw [nU] at q
    subst q;exact ⟨by dsimp only;omega,vy,hw⟩
  ·dsimp only
   rw [nA,List.nodup_append];refine ⟨h.nod,by simp,fun a ha b hb=>?_⟩;simp only [gU,mP,nU] at hb;subst hb;obtain ⟨p,hp,rfl⟩:=List.mem_map.mp ha;exact bHn hn p hp
theorem Opn.lead (H:Opn cs ws y t o cards W) {x:Int} (hx:x∈W) {r:Int} (r1:r<mZ cs ws x) (hl:ld cs ws x r=true):tL (rd ws x)≤r∧bDj cs (rd ws x) (r - tL (rd ws x))=true∧(rd ws (x+r)=0∨rd ws (x+r) - 1∈W)∧
  (x≥y→1≤rd ws (x+r)→rd ws (x+r)≤y→kK false cards ((x+r - y)/4)=true):=by
 unfold ld at hl;rw [dY,tM] at hl;have hd:=H.d x hx (r - tL (rd ws x)) (by omega) (by omega);unfold Wd VOk at hd;rw [if_pos hl.2,show x+tL (rd ws x)+(r - tL (rd ws x))=x+r by omega] at hd;exact ⟨hl.1,hl.2,hd.1,fun a b c=>hd.2 hl.2 a b c⟩
theorem bJu (H:Opn cs ws y t o cards W) {x:Int} (hx:x∈W) (cd:Bool): ∀(d:Nat) (r:Int) (s:Am),r+d=mZ cs ws x→Ext s (bOy cs ws y cards x cd d r s)∧(AI cs ws y o W s→AI cs ws y o W (bOy cs ws y cards x cd d r s))∧
  ∀i,r≤i→i<mZ cs ws x→bGp cs ws y cards cd x i=true→Kn y (bOy cs ws y cards x cd d r s) (rd ws (x+i))∨(bOy cs ws y cards x cd d r s).full=true
 |0,r,s,hd=>⟨Ext.refl s,id,fun i h1 h2=>by omega⟩
 | d + 1, r, s, hd => by
  rw [bOy];by_cases c:bGp cs ws y cards cd x r=true
  ·rw [if_pos c]
   have hl:ld cs ws x r=true:=by unfold bGp at c;rw [dY] at c;exact c.1
   have hv:=(H.lead hx (show r<mZ cs ws x by omega) hl).2.2.1;obtain ⟨e1,k1⟩:=bGt H (s:=s) hv;obtain ⟨e2,a2,k2⟩:=bJu H hx cd d (r+1) (bAd cs ws y s (rd ws (x+r))) (by omega);refine ⟨e1.trans e2,fun a=>a2 (a.come H hv),fun i h1 h2 h3=>?_⟩;by_cases ci:i=r
   ·subst ci
    rcases k1 with k1|k1
    ·exact .inl (e2.kn k1)
    ·exact .inr (by rw [e2.ful k1];exact k1)
   ·exact k2 i (by omega) h2 h3
  ·rw [if_neg c]
   obtain ⟨e2,a2,k2⟩:=bJu H hx cd d (r+1) s (by omega);refine ⟨e2,a2,fun i h1 h2 h3=>?_⟩;by_cases ci:i=r
   ·subst ci;exact absurd h3 c
   ·exact k2 i (by omega) h2 h3
theorem bCh (H:Opn cs ws y t o cards W) {x:Int} (hx:x∈W) (cd:Bool) (s:Am):Ext s (bIi cs ws y cards cd s x)∧(AI cs ws y o W s→AI cs ws y o W (bIi cs ws y cards cd s x))∧
  ∀i,0≤i→i<mZ cs ws x→bGp cs ws y cards cd x i=true→Kn y (bIi cs ws y cards cd s x) (rd ws (x+i))∨(bIi cs ws y cards cd s x).full=true:=by
 have:=H.sz0 hx
 exact bJu H hx cd _ 0 s (by omega)
theorem yJ (H:Opn cs ws y t o cards W): ∀(roots:List Int) (s:Am),(∀v∈roots,v=0∨v - 1∈W)→Ext s (roots.foldl (bAd cs ws y) s)∧(AI cs ws y o W s→AI cs ws y o W (roots.foldl (bAd cs ws y) s))∧∀v∈roots,Kn y (roots.foldl (bAd cs ws y) s) v∨(roots.foldl (bAd cs ws y) s).full=true
 |[],s,_=>⟨Ext.refl s,id,fun v h=>by simp at h⟩
 | a :: r, s, h => by
  rw [List.foldl_cons];have ha:=h a (gG ..);obtain ⟨e1,k1⟩:=bGt H (s:=s) ha;obtain ⟨e2,a2,k2⟩:=yJ H r (bAd cs ws y s a) (fun v hv=>h v (fC _ hv));refine ⟨e1.trans e2,fun q=>a2 (q.come H ha),fun v hv=>?_⟩;rcases List.mem_cons.mp hv with rfl|hv
  ·rcases k1 with k1 | k1
   ·exact .inl (e2.kn k1)
   ·exact .inr (by rw [e2.ful k1];exact k1)
  ·exact k2 v hv
theorem bEr (H:Opn cs ws y t o cards W) (cd:Bool): ∀(L:List Int) (s:Am),(∀x∈L,x∈W)→Ext s (L.foldl (bIi cs ws y cards cd) s)∧(AI cs ws y o W s→AI cs ws y o W (L.foldl (bIi cs ws y cards cd) s))∧
  ∀x∈L,∀i,0≤i→i<mZ cs ws x→bGp cs ws y cards cd x i=true→Kn y (L.foldl (bIi cs ws y cards cd) s) (rd ws (x+i))∨(L.foldl (bIi cs ws y cards cd) s).full=true
 |[],s,_=>⟨Ext.refl s,id,fun v h=>by simp at h⟩
 | a :: r, s, h => by
  rw [List.foldl_cons];have ha:=h a (gG ..);obtain ⟨e1,a1,k1⟩:=bCh H ha cd s;obtain ⟨e2,a2,k2⟩:=bEr H cd r (bIi cs ws y cards cd s a) (fun v hv=>h v (fC _ hv));refine ⟨e1.trans e2,fun q=>a2 (a1 q),fun v hv i i0 i1 hw=>?_⟩;rcases List.mem_cons.mp hv with rfl|hv
  ·rcases k1 i i0 i1 hw with k1 | k1
   ·exact .inl (e2.kn k1)
   ·exact .inr (by rw [e2.ful k1];exact k1)
  ·exact k2 v hv i i0 i1 hw
theorem AI.len (H:Opn cs ws y t o cards W) {s:Am} (h:AI cs ws y o W s):s.mv.length≤200:=by
 have h1:(s.mv.map Prod.fst).length≤(W.map (· +1)).length:=by
  refine List.Nodup.length_le_of_subset h.nod (fun a ha=>?_);obtain ⟨p,hp,rfl⟩:=List.mem_map.mp ha;exact List.mem_map.mpr ⟨p.1 - 1,(h.key p hp).2.2,by omega⟩
 rw [dP,dP] at h1;have:=H.wlk.len
 omega
theorem bRf {s:Am} {i:Nat} (h:i<s.mv.length):rd (s.mv.map Prod.fst) i=s.mv[i].1:=by
  rw [xL (by rw [dP];exact h),List.getElem_map]
def Cld (cs:Cs) (ws:List Int) (y:Int) (cards:List Bool) (n:Nat) (s:Am):Prop:= ∀j (h:j<s.mv.length),j<n→∀i,0≤i→i<mZ cs ws (s.mv[j].1 - 1)→bGp cs ws y cards false (s.mv[j].1 - 1) i=true→Kn y s (rd ws (s.mv[j].1 - 1+i))∨s.full=true
theorem Cld.ext {n:Nat} {s s':Am} (h:Cld cs ws y cards n s) (hn:n≤s.mv.length) (e:Ext s s'):Cld cs ws y cards n s':=by
 intro j hj hjn i i0 i1 hw;obtain ⟨l,hl⟩:=e.pre;have e2:s'.mv[j]=s.mv[j]'(by omega):=by simp only [hl];exact List.getElem_append_left (by omega)
 rw [e2] at i1 hw ⊢;rcases h j (by omega) hjn i i0 i1 hw with k|k
 ·exact .inl (e.kn k)
 ·exact .inr (by rw [e.ful k];exact k)
theorem bKm (H:Opn cs ws y t o cards W): ∀(d i:Nat) (s:Am),201≤d+i→AI cs ws y o W s→i≤s.mv.length→Cld cs ws y cards i s→Ext s (bMu cs ws y cards d i s)∧AI cs ws y o W (bMu cs ws y cards d i s)∧Cld cs ws y cards (bMu cs ws y cards d i s).mv.length (bMu cs ws y cards d i s)
 |0,i,s,hd,ha,hi,hc=>by have:=ha.len H;omega
 | d + 1, i, s, hd, ha, hi, hc => by
  rw [bMu];by_cases c:s.mv.length≤i
  ·rw [if_pos c]
   exact ⟨Ext.refl s,ha,fun j hj h2=>hc j hj (by omega)⟩
  ·rw [if_neg c]
   have hlt:i<s.mv.length:=by omega
   rw [bRf hlt];have hk:=ha.key s.mv[i] (jZ hlt);obtain ⟨e1,a1,k1⟩:=bCh H hk.2.2 false s;obtain ⟨l,hl⟩:=e1.pre;have hl2:i+1≤(bIi cs ws y cards false s (s.mv[i].1 - 1)).mv.length:=by rw [hl,cH];omega
   obtain ⟨e2,a2,c2⟩:=bKm H d (i+1) _ (by omega) (a1 ha) hl2 (fun j hj hjn=>by
    by_cases cj:j=i
    ·subst cj
     have e3:(bIi cs ws y cards false s (s.mv[j].1 - 1)).mv[j]=s.mv[j]:=by simp only [hl];exact List.getElem_append_left hlt
     rw [e3];exact k1
    ·exact hc.ext (by omega) e1 j hj (by omega))
   exact ⟨e1.trans e2,a2,c2⟩
theorem bLf (x:Int) (cd:Bool): ∀(d:Nat) (r:Int) (s:Am),s.full=true→bOy cs ws y cards x cd d r s=s
 |0,_,s,_=>rfl
 | d + 1, r, s, h => by
  rw [bOy]
  have e:bAd cs ws y s (rd ws (x+r))=s:=by
   unfold bAd
   split
   ·rfl
   ·split
    ·rfl
    ·rw [if_pos (.inr h)]
  rw [e,ite_self];exact bLf x cd d (r+1) s h
theorem bMi: ∀(d i:Nat) (s:Am),s.full=true→bMu cs ws y cards d i s=s
 |0,_,s,_=>rfl
 | d + 1, i, s, h => by
  rw [bMu]
  split
  ·rfl
  ·unfold bIi
   rw [bLf _ _ _ _ _ h];exact bMi d (i+1) s h
end
def bGo (cs:Cs) (ws:List Int) (y o:Int) (s:Am) (i x:Int):Prop:=(i,x)∈bAa (qI cs ws y o) s.mv
def WV (y:Int) (s:Am) (D:Int→Prop) (j v u:Int):Prop:=(D j→u=qC s.mv v∧Kn y s v)∧(¬D j→u=v)
structure WI (cs:Cs) (ws:List Int) (y o:Int) (s:Am) (D:Int→Prop) (tw:List Int):Prop where
 len:tw.length=ws.length
 out: ∀j,0≤j→(j<y∨s.o≤j)→rd tw j=rd ws j
 inn: ∀i x,bGo cs ws y o s i x→∀r,0≤r→r<mZ cs ws x→WV y s D (i+r) (rd ws (x+r)) (rd tw (i+r))
 dn: ∀j,D j→j<s.o
def DL (cs:Cs) (ws:List Int) (y o:Int) (s:Am) (D:Int→Prop):Prop:= ∀i x r,bGo cs ws y o s i x→0≤r→r<mZ cs ws x→D (i+r)→ld cs ws x r=true
def bQg (cs:Cs) (ws:List Int) (y o:Int) (s:Am):Prop:= ∀i x r,bGo cs ws y o s i x→0≤r→r<mZ cs ws x→ld cs ws x r=true→Kn y s (rd ws (x+r))
theorem bRd {a b:List Int} (hl:a.length=b.length) (h: ∀j:Int,0≤j→j<a.length→rd a j=rd b j):a=b:=by
 refine List.ext_getElem hl (fun i h1 h2=>?_);have:=h i (by omega) (by omega)
 rw [xL h1,xL h2] at this;exact this
theorem rd_out {a:List Int} {j:Int} (h:(a.length:Int)≤j):rd a j=0:=by
  unfold rd;rw [bP,jW (by omega)];rfl
section
variable {cs:Cs} {ws:List Int} {y t o:Int} {cards:List Bool} {W:List Int} {s s':Am} {D:Int→Prop} {tw:List Int}
theorem tA (a:AI cs ws y o W s) {v:Int} (h:v=0∨v>y):qC s.mv v=v:=by
 unfold qC
 cases c:nO s.mv v with
 |none=>rfl
 |some b=>
  have:=a.key _ (yK c)
  dsimp only at this;omega
theorem bEs (a:AI cs ws y o W s) (b:AI cs ws y o W s') (e:Ext s s') {v:Int} (k:Kn y s v):qC s'.mv v=qC s.mv v:=by
 rcases k with k|k|k
 ·rw [tA a (.inl k),tA b (.inl k)]
 ·rw [tA a (.inr k),tA b (.inr k)]
 ·obtain ⟨l, hl⟩ := e.pre
  obtain ⟨p,hp⟩:=Option.isSome_iff_exists.mp k;unfold qC;rw [hl,hp,bJd hp]
theorem AI.atL (H:Opn cs ws y t o cards W) (a:AI cs ws y o W s) {i x:Int} (h:bGo cs ws y o s i x):x∈W∧0<mZ cs ws x∧y≤i∧i+mZ cs ws x≤s.o:=by
 have h1:=a.pos H _ h;have h2:=(bMt.mem a.chn (fun p hp=>(a.pos H p hp).2)).2 _ h;exact ⟨h1.1,h1.2,h2.1,h2.2⟩
theorem AI.lo (H:Opn cs ws y t o cards W) (a:AI cs ws y o W s):y≤s.o:=(bMt.mem a.chn (fun p hp=>(a.pos H p hp).2)).1
theorem AI.one (H:Opn cs ws y t o cards W) (a:AI cs ws y o W s) {i x i' x' j:Int} (h:bGo cs ws y o s i x) (h':bGo cs ws y o s i' x') (h1:i≤j) (h2:j<i+mZ cs ws x) (h3:i'≤j) (h4:j<i'+mZ cs ws x'):i=i'∧x=x':=by
  have:=bMt.one a.chn (fun p hp=>(a.pos H p hp).2) _ h _ h' h1 h2 h3 h4
  exact ⟨gF Prod.fst this,gF Prod.snd this⟩
theorem AI.cover (a:AI cs ws y o W s) {j:Int} (h1:y≤j) (h2:j<s.o): ∃i x r,bGo cs ws y o s i x∧0≤r∧r<mZ cs ws x∧j=i+r:=by
  obtain ⟨p,hp,h3,h4⟩:=bMt.cover a.chn h1 h2;exact ⟨p.1,p.2,j - p.1,hp,by omega,by omega,by omega⟩
theorem yE {x:Int} (h:x∈qI cs ws y o):bGo cs ws y o s x x:=vU _ (List.mem_map.mpr ⟨x,h,rfl⟩)
theorem bAc {p:Int×Int} (h:p∈s.mv):bGo cs ws y o s (p.2 - 1) (p.1 - 1):=mK _ (List.mem_map.mpr ⟨p,h,rfl⟩)
theorem bGo.or {i x:Int} (h:bGo cs ws y o s i x):(i=x∧x∈qI cs ws y o)∨∃p∈s.mv,i=p.2 - 1∧x=p.1 - 1:=by
 rcases List.mem_append.mp h with q|q
 ·obtain ⟨z, hz, e⟩ := List.mem_map.mp q
  cases e
  exact .inl ⟨rfl,hz⟩
 ·obtain ⟨p, hp, e⟩ := List.mem_map.mp q
  cases e
  exact .inr ⟨p,hp,rfl,rfl⟩
theorem bGo.ext (e:Ext s s') {i x:Int} (h:bGo cs ws y o s i x):bGo cs ws y o s' i x:=by
 obtain ⟨l,hl⟩:=e.pre;rcases h.or with ⟨rfl,q⟩|⟨p,hp,rfl,rfl⟩
 ·exact yE q
 ·exact bAc (by rw [hl];exact vU _ hp)
theorem WI.start (H:Opn cs ws y t o cards W):WI cs ws y o (bKv o) (fun _=>False) ws:=
 ⟨rfl, fun _ _ _ => rfl, fun i x h r _ _ => ⟨fun q => q.elim, fun _ => by
  rcases h.or with ⟨rfl,_⟩|⟨p,hp,_⟩
  ·rfl
  ·simp [bKv] at hp⟩,fun _ q=>q.elim⟩
theorem WI.ful (h:WI cs ws y o s D tw):WI cs ws y o {s with full:=true} D tw:=⟨h.len,h.out,h.inn,h.dn⟩
theorem WI.move (H:Opn cs ws y t o cards W) (a:AI cs ws y o W s) (h:WI cs ws y o s D tw) {v:Int} (a':AI cs ws y o W ⟨s.mv++[(v,s.o+1)],s.o+mZ cs ws (v - 1),false⟩) (f:s.full=false) (z0:0<mZ cs ws (v - 1)) {tw':List Int} (hl:tw'.length=ws.length)
  (h1: ∀r,0≤r→r<mZ cs ws (v - 1)→rd tw' (s.o+r)=rd ws (v - 1+r)) (h2: ∀j,0≤j→(j<s.o∨s.o+mZ cs ws (v - 1)≤j)→rd tw' j=rd tw j):WI cs ws y o ⟨s.mv++[(v,s.o+1)],s.o+mZ cs ws (v - 1),false⟩ D tw':=by
 have lo:=a.lo H;have y0:=H.b.y0;have e:Ext s ⟨s.mv++[(v,s.o+1)],s.o+mZ cs ws (v - 1),false⟩:=⟨⟨_,rfl⟩,fun q=>(by rw [f] at q;cases q),by dsimp only;omega⟩
 refine ⟨hl,fun j h0 hj=>?_,fun i x ha r r0 r1=>?_,fun j hj=>?_⟩
 ·dsimp only at hj
  rw [h2 j h0 (by omega)];exact h.out j h0 (by omega)
 ·rcases ha.or with ⟨rfl, q⟩ | ⟨p, hp, rfl, rfl⟩
  ·have q2 := a.atL H (yE (s := s) q)
   rw [h2 _ (by omega) (by omega)];have hv:=h.inn i i (yE q) r r0 r1;exact ⟨fun d=>by rw [(hv.1 d).1,bEs a a' e (hv.1 d).2];exact ⟨rfl,e.kn (hv.1 d).2⟩,hv.2⟩
  ·rcases List.mem_append.mp hp with hp | hp
   ·have q2 := a.atL H (bAc (s := s) hp)
    rw [h2 _ (by omega) (by omega)];have hv:=h.inn _ _ (bAc hp) r r0 r1;exact ⟨fun d=>by rw [(hv.1 d).1,bEs a a' e (hv.1 d).2];exact ⟨rfl,e.kn (hv.1 d).2⟩,hv.2⟩
   ·rw [nU] at hp
    subst hp;dsimp only at r1 ⊢;rw [show s.o+1 - 1+r=s.o+r by omega];exact ⟨fun d=>by have:=h.dn _ d;omega,fun _=>h1 r r0 r1⟩
 ·have := h.dn j hj
  dsimp only
  omega
theorem WI.congr {D':Int→Prop} (h:WI cs ws y o s D tw) (e: ∀j,D j↔D' j):WI cs ws y o s D' tw:=by
  have:D=D':=funext fun j=>propext (e j)
  rw [←this];exact h
theorem WI.write (H:Opn cs ws y t o cards W) (a:AI cs ws y o W s) (h:WI cs ws y o s D tw) {i x r:Int} (ha:bGo cs ws y o s i x) (r0:0≤r) (r1:r<mZ cs ws x) (k:Kn y s (rd ws (x+r))):
  WI cs ws y o s (fun j=>D j∨j=i+r) (tw.set (i+r).toNat (qC s.mv (rd ws (x+r)))):=by
 have q:=a.atL H ha;have tp:=a.top;have y0:=H.b.y0;have hl:=h.len;refine ⟨by rw [dV];exact hl,fun j h0 hj=>?_,fun i' x' ha' r' r0' r1'=>?_,fun j hj=>?_⟩
 ·rw [bAi _ (by omega) h0 (by omega)]
  exact h.out j h0 hj
 ·have q' := a.atL H ha'
  by_cases c:i'+r'=i+r
  ·obtain ⟨e1, e2⟩ := a.one H ha ha' (j := i + r) (by omega) (by omega) (by omega) (by omega)
   subst e1 e2;obtain rfl:r'=r:=by omega
   rw [bCk _ (by omega) (by omega)];exact ⟨fun _=>⟨rfl,k⟩,fun z=>absurd (.inr rfl) z⟩
  ·rw [bAi _ (by omega) (by omega) c]
   have hv:=h.inn i' x' ha' r' r0' r1';exact ⟨fun d=>hv.1 (d.resolve_right c),fun d=>hv.2 (fun z=>d (.inl z))⟩
 ·rcases hj with hj | hj
  ·exact h.dn j hj
  ·omega
theorem WI.same (H:Opn cs ws y t o cards W) (a:AI cs ws y o W s) {D':Int→Prop} {tw':List Int} (h:WI cs ws y o s D tw) (h':WI cs ws y o s D' tw') (hd: ∀i x r,bGo cs ws y o s i x→0≤r→r<mZ cs ws x→(D (i+r)↔D' (i+r))∨qC s.mv (rd ws (x+r))=rd ws (x+r)):tw=tw':=by
 refine bRd (by rw [h.len,h'.len]) (fun j j0 j1=>?_);by_cases c:y≤j∧j<s.o
 ·obtain ⟨i, x, r, ha, r0, r1, rfl⟩ := a.cover c.1 c.2
  have v:=h.inn i x ha r r0 r1;have v':=h'.inn i x ha r r0 r1;by_cases d:D (i+r)<;>by_cases d':D' (i+r)
  ·rw [(v.1 d).1,(v'.1 d').1]
  ·rcases hd i x r ha r0 r1 with e | e
   ·exact absurd (e.mp d) d'
   ·rw [(v.1 d).1,v'.2 d',e]
  ·rcases hd i x r ha r0 r1 with e | e
   ·exact absurd (e.mpr d') d
   ·rw [(v'.1 d').1,v.2 d,e]
  ·rw [v.2 d,v'.2 d']
 ·rw [h.out j j0 (by omega),h'.out j j0 (by omega)]
theorem bNi {ws':List Int} {i x e:Int} (h0:rd ws' i=rd ws x) (h1:rd ws x<0→rd ws' (i+1)=rd ws (x+1)) (hz:0<mZ cs ws x) (he:i+mZ cs ws x≤e):jV ws' (gI cs) e i=mZ cs ws x:=by
 unfold mZ jV at*;rw [h0];by_cases c0:rd ws x<0
 ·rw [if_pos c0] at hz he ⊢
  rw [if_pos c0,h1 c0];by_cases c1:x+1<(ws.length:Int)
  ·rw [if_pos c1] at hz he ⊢
   by_cases c2:jJ (gI cs) (rd ws x) (rd ws (x+1))≤(ws.length:Int) - x
   ·rw [if_pos c2] at hz he ⊢
    have:1<jJ (gI cs) (rd ws x) (rd ws (x+1)):=by
     unfold jJ at hz ⊢;by_cases c3:rd ws x= -1∨rd ws x= -2
     ·rw [if_pos c3] at hz ⊢
      by_cases c4:0≤rd ws (x+1)∧rd ws (x+1)≤6
      ·rw [if_pos c4];omega
      ·rw [if_neg c4] at hz;omega
     ·rw [if_neg c3,if_neg (by omega)] at hz;omega
    rw [if_pos (by omega),if_pos (by omega)]
   ·rw [if_neg c2] at hz;omega
  ·rw [if_neg c1] at hz;omega
 ·rw [if_neg c0] at hz he ⊢
  rw [if_neg c0];by_cases c2:jJ (gI cs) (rd ws x) 0≤(ws.length:Int) - x
  ·rw [if_pos c2] at hz he ⊢
   rw [if_pos (by omega)]
  ·rw [if_neg c2] at hz;omega
theorem WI.head (H:Opn cs ws y t o cards W) (a:AI cs ws y o W s) (h:WI cs ws y o s D tw) (hd:DL cs ws y o s D) {i x:Int} (ha:bGo cs ws y o s i x):rd tw i=rd ws x∧(rd ws x<0→rd tw (i+1)=rd ws (x+1)):=by
 have q:=a.atL H ha;have k:=H.know q.1;have n1: ∀r,r<tL (rd ws x)→ld cs ws x r=false:=fun r hr=>by unfold ld;rw [bM (by omega)];rfl
 constructor
 ·have := (h.inn i x ha 0 (by omega) q.2.1).2 (fun z => by have e := hd i x 0 ha (by omega) q.2.1 z; rw [n1 0 (by omega)] at e; cases e)
  rw [Int.add_zero,Int.add_zero] at this;exact this
 ·intro c
  have c2:=k.2.2.2.2.2.2 c;exact (h.inn i x ha 1 (by omega) (by omega)).2 (fun z=>by have e:=hd i x 1 ha (by omega) (by omega) z;rw [n1 1 (by omega)] at e;cases e)
theorem AI.cls (H:Opn cs ws y t o cards W) (a:AI cs ws y o W s) (f:s.full=false) (hc:Cld cs ws y cards s.mv.length s) (ho: ∀x∈qI cs ws y o,∀i,0≤i→i<mZ cs ws x→bGp cs ws y cards true x i=true→Kn y s (rd ws (x+i))∨s.full=true):bQg cs ws y o s:=by
 intro i x r ha r0 r1 hl;rcases ha.or with ⟨rfl,q⟩|⟨p,hp,rfl,rfl⟩
 ·obtain ⟨hw, hy⟩ := H.old q
  obtain ⟨_,_,hv,hk⟩:=H.lead hw r1 hl;by_cases c:kK false cards ((i+r - y)/4)=true
  ·exact (ho i q r r0 r1 (by unfold bGp;rw [hl,c];rfl)).resolve_right (by rw [f];simp)
  ·rcases hv with hv | hv
   ·exact .inl hv
   ·have := rW H.wlk hv
    refine .inr (.inl ?_);refine bF (fun z=>c (hk hy (by omega) (by omega)))
 ·obtain ⟨j, hj, e⟩ := qX hp
  subst e;exact (hc j hj hj r r0 r1 (by unfold bGp;rw [hl];rfl)).resolve_right (by rw [f];simp)
end
structure MI (cs:Cs) (ws:List Int) (y t o:Int) (cards:List Bool) (D:Int→Prop) (s:Mv) (A:Am):Prop where
 hy:s.y=y
 ht:s.t=t
 ho:s.o=A.o
 hc:s.tc=cards
 hm:s.mv=A.mv
 hf:s.full=A.full
 w:WI cs ws y o A D s.tw
def bGm (cs:Cs) (ws:List Int) (x:Int):Nat→Int→List Int
  |0,_=>[]
  |d+1,r=>if ld cs ws x r=true then (x+r)::bGm cs ws x d (r+1) else bGm cs ws x d (r+1)
def bPs (cs:Cs) (ws:List Int) (x:Int):List Int:=bGm cs ws x (mZ cs ws x).toNat 0
theorem bOg {tw ys:List Int} {o j:Int} (h0:0≤o) (h1:o+ys.length≤tw.length) (j0:0≤j):rd (bPb tw o.toNat ys) j=if o≤j∧j<o+ys.length then rd ys (j - o) else rd tw j:=by
 unfold bPb rd;simp only [bP]
 by_cases c:j<o
 ·rw [if_neg (by omega),vL,jE (by rw [dB];omega),fL,if_pos (by omega)]
 ·by_cases c2 : j < o + ys.length
  ·rw [if_pos (by omega), jE (by rw [cH, dB]; omega), jL (by rw [dB]; omega), dB]
   congr 2
   omega
  ·rw [if_neg (by omega), jL (by rw [cH, dB]; omega), cH, dB, jI]
   congr 2
   omega
theorem bQz {tw ys:List Int} {o:Int} (h0:0≤o) (h1:o+ys.length≤tw.length):(bPb tw o.toNat ys).length=tw.length:=by
 unfold bPb;rw [cH,cH,dB,dJ];omega
theorem rd_cut {ws:List Int} {a z r:Int} (a0:0≤a) (r0:0≤r) (r1:r<z):rd ((ws.take (a+z).toNat).drop a.toNat) r=rd ws (a+r):=by
 unfold rd;rw [bP,bP,jI,fL,if_pos (by omega)]
 congr 2
 omega
theorem cut_len {ws:List Int} {a z:Int} (a0:0≤a) (z0:0≤z) (h:a+z≤ws.length):(((ws.take (a+z).toNat).drop a.toNat).length:Int)=z:=by
  rw [dJ,dB];omega
section
variable {cs:Cs} {ws:List Int} {y t o:Int} {cards:List Bool} {W:List Int} {s:Mv} {A:Am}
theorem Opn.val (H:Opn cs ws y t o cards W) {v:Int} (hv:v=0∨v - 1∈W):0≤v∧v≤ws.length:=by
 rcases hv with h|h
 ·omega
 ·have:=rW H.wlk h;omega
theorem bIr (H:Opn cs ws y t o cards W) {x:Int} (hx:x∈W):tY (qW cs ws y t o cards W) (x+1)=some (mZ cs ws x):=by
 have n0:=H.b.n0;have n1:=H.b.n1;have y0:=H.b.y0;have y1:=H.b.y1;obtain ⟨h0,h1,h2,h3,h4,h5,_,hco,hfi,_⟩:=tF (t:=t) (o:=o) (cards:=cards) H.b H.wlk hx;unfold tY;rw [hfi,bC,hco,bC,dZ (by omega) (by omega)]
 congr 1
 omega
theorem bMg (H:Opn cs ws y t o cards W) {D:Int→Prop} (a:AI cs ws y o W A) (h:MI cs ws y t o cards D s A) {v:Int} (hv:v=0∨v - 1∈W): ∃s',bDk (qW cs ws y t o cards W) s v=some s'∧MI cs ws y t o cards D s' (bAd cs ws y A v):=by
 have n0:=H.b.n0;have n1:=H.b.n1;have y0:=H.b.y0;have y1:=H.b.y1;have lo:=a.lo H;have tp:=a.top;have hr:=H.val hv;have hl:=a.len H;obtain ⟨tw,y',t',o',tc,mv,full⟩:=s;obtain ⟨hy,ht,ho,hc,hm,hf,w⟩:=h;dsimp only at hy ht ho hc hm hf w;subst hy ht ho hc hm hf;have wl:=w.len;unfold bDk
 dsimp only
 rw [if_pos ⟨by omega,by omega,by omega⟩];unfold bOo;rw [show (qW cs ws y' t' o tc W).young=y' from rfl];rcases bKj (cs:=cs) (ws:=ws) (y:=y') A v with ⟨e,k⟩|⟨f,v0,vy,hn,hz,e⟩|⟨f,v0,vy,hn,hz,e⟩
 ·rw [e]
  refine ⟨⟨tw,y',t',A.o,tc,A.mv,A.full⟩,?_,⟨rfl,rfl,rfl,rfl,rfl,rfl,w⟩⟩;by_cases c0:v=0
  ·rw [if_pos c0]
  by_cases c1:v>y'
  ·rw [if_neg c0,if_pos c1]
  rw [if_neg c0,if_neg c1];unfold bJb;rw [if_pos];rcases k with (k|k|k)|k
  ·exact absurd k c0
  ·exact absurd k c1
  ·exact .inl k
  ·exact .inr k
 ·have hs := bIr H (hv.resolve_left v0)
  rw [show v - 1+1=v by omega] at hs;rw [e];refine ⟨⟨tw,y',t',A.o,tc,A.mv,true⟩,?_,⟨rfl,rfl,rfl,rfl,rfl,rfl,w.ful⟩⟩;rw [if_neg v0,if_neg (by omega)];unfold bJb
  dsimp only
  rw [hn,f,if_neg (by simp),hs,bC,if_pos (by omega)]
 ·have hw := hv.resolve_left v0
  have hs:=bIr H hw;rw [show v - 1+1=v by omega] at hs;have z0:=H.sz0 hw;have a2:=a.come H hv;have kw:=H.know hw;rw [e] at a2 ⊢;have cl:=cut_len (ws:=ws) (a:=v - 1) (z:=mZ cs ws (v - 1)) (by omega) (by omega) (by omega);refine ⟨⟨bPb tw A.o.toNat ((ws.take (v - 1+mZ cs ws (v - 1)).toNat).drop (v - 1).toNat),y',t',A.o+mZ cs ws (v - 1),tc,A.mv++[(v,A.o+1)],false⟩,?_,⟨rfl,rfl,rfl,rfl,rfl,rfl,?_⟩⟩
  ·rw [if_neg v0, if_neg (by omega)]
   unfold bJb
   dsimp only
   rw [hn,f,if_neg (by simp),hs,bC,if_neg (by omega),if_pos ⟨by omega,z0,by show v - 1+mZ cs ws (v - 1)≤(ws.length:Int);omega,by omega,by show ws.length≤2000000;omega,by omega,by omega⟩];rfl
  ·refine w.move H a a2 f z0 (by rw [bQz (by omega) (by rw [cl]; omega), wl]) (fun r r0 r1 => ?_) (fun j j0 hj => ?_)
   ·rw [bOg (by omega) (by rw [cl]; omega) (by omega), if_pos (by rw [cl]; omega), show A.o + r - A.o = r by omega]
    exact rd_cut (by omega) r0 r1
   ·rw [bOg (by omega) (by rw [cl];omega) j0,if_neg (by rw [cl];omega)]
theorem bLw (x:Int): ∀(n:Nat) (d:Nat) (r:Int),(∀i,r≤i→i<r+n→ld cs ws x i=false)→bGm cs ws x (d+n) r=bGm cs ws x d (r+n)
 |0,d,r,_=>by rw [show r+((0:Nat):Int)=r by omega];rfl
 |n+1,d,r,h=>by
  rw [show d+(n+1)=(d+n)+1 by omega,bGm,if_neg (by rw [h r (by omega) (by omega)];simp),bLw x n d (r+1) (fun i h1 h2=>h i (by omega) (by omega))]
  congr 1
  omega
theorem bOj (H:Opn cs ws y t o cards W) {x:Int} (hx:x∈W): ∀(d:Nat) (k:Int),0≤k→k+d=mZ cs ws x - tL (rd ws x)→bNn (qW cs ws y t o cards W) (x+1) (x+tL (rd ws x)) d k=some (bGm cs ws x d (tL (rd ws x)+k))
 |0,k,k0,hk=>rfl
 |d+1,k,k0,hk=>by
  have n0:=H.b.n0;have n1:=H.b.n1;have y0:=H.b.y0;have y1:=H.b.y1;obtain ⟨h0,h1,h2,h3,h4,h5,_,hco,hfi,hle,_⟩:=tF (t:=t) (o:=o) (cards:=cards) H.b H.wlk hx;have e:ld cs ws x (tL (rd ws x)+k)=bDj cs (rd ws x) k:=by unfold ld;rw [bD (by omega),jQ,show tL (rd ws x)+k - tL (rd ws x)=k by omega]
  rw [bNn,hle k k0 (by omega),bC,bOj H hx d (k+1) (by omega) (by omega),bC,bGm,e,dZ (by omega) (by omega),show x+tL (rd ws x)+k=x+(tL (rd ws x)+k) by omega,show tL (rd ws x)+(k+1)=tL (rd ws x)+k+1 by omega]
theorem bGr (H:Opn cs ws y t o cards W) {x:Int} (hx:x∈W):bKd (qW cs ws y t o cards W) (x+1)=some (bPs cs ws x):=by
 obtain ⟨h0,h1,h2,h3,h4,h5,_,hco,hfi,hle,_⟩:=tF (t:=t) (o:=o) (cards:=cards) H.b H.wlk hx;unfold bKd;rw [hco,bC,if_pos (by omega),hfi,bC,bOj H hx _ 0 (by omega) (by omega)];unfold bPs;have:=bLw (cs:=cs) (ws:=ws) x (tL (rd ws x)).toNat (mZ cs ws x - tL (rd ws x)).toNat 0 (fun i i0 i1=>by unfold ld;rw [bM (by omega)];rfl)
 rw [show (mZ cs ws x - tL (rd ws x)).toNat+(tL (rd ws x)).toNat=(mZ cs ws x).toNat by omega] at this;rw [this]
 congr 2
 omega
theorem bEz (H:Opn cs ws y t o cards W) {D:Int→Prop} {x:Int} (hx:x∈W) (cd:Bool) {f:Mv→Int→Option Mv}
  (hs: ∀s A r,AI cs ws y o W A→MI cs ws y t o cards D s A→0≤r→r<mZ cs ws x→ld cs ws x r=true→∃s',f s (x+r)=some s'∧MI cs ws y t o cards D s' (if bGp cs ws y cards cd x r=true then bAd cs ws y A (rd ws (x+r)) else A)):
  ∀(d:Nat) (r:Int) (s:Mv) (A:Am),0≤r→r+d=mZ cs ws x→AI cs ws y o W A→MI cs ws y t o cards D s A→∃s',sK f s (bGm cs ws x d r)=some s'∧MI cs ws y t o cards D s' (bOy cs ws y cards x cd d r A)
 |0,r,s,A,_,_,_,h=>⟨s,rfl,h⟩
 | d + 1, r, s, A, r0, hd, a, h => by
  rw [bGm,bOy];by_cases c:ld cs ws x r=true
  ·rw [if_pos c, sK]
   obtain ⟨s1,e1,h1⟩:=hs s A r a h r0 (by omega) c;rw [e1,bC];refine bEz H hx cd hs d (r+1) s1 _ (by omega) (by omega) ?_ h1
   split
   ·exact a.come H (H.lead hx (by omega) c).2.2.1
   ·exact a
  ·rw [if_neg c]
   have e:bGp cs ws y cards cd x r=false:=by unfold bGp;rw [Bool.eq_false_iff.mpr c];rfl
   rw [e,if_neg (by simp)];exact bEz H hx cd hs d (r+1) s A (by omega) (by omega) a h
theorem bIp (H:Opn cs ws y t o cards W) {D:Int→Prop} {x:Int} (hx:x∈W): ∀s A r,AI cs ws y o W A→MI cs ws y t o cards D s A→0≤r→r<mZ cs ws x→ld cs ws x r=true→∃s',bEi (qW cs ws y t o cards W) s (x+r)=some s'∧MI cs ws y t o cards D s' (bAd cs ws y A (rd ws (x+r))):=by
 intro s A r a h r0 r1 c;have kw:=H.know hx;unfold bEi;rw [show (qW cs ws y t o cards W).words=ws from rfl,if_pos (by omega)];exact bMg H a h (H.lead hx r1 c).2.2.1
theorem bOz (H:Opn cs ws y t o cards W) {D:Int→Prop} {x:Int} (hx:x∈W) (hy:y≤x): ∀s A r,AI cs ws y o W A→MI cs ws y t o cards D s A→0≤r→r<mZ cs ws x→ld cs ws x r=true→∃s',bEj (qW cs ws y t o cards W) s (x+r)=some s'∧MI cs ws y t o cards D s' (if bGp cs ws y cards true x r=true then bAd cs ws y A (rd ws (x+r)) else A):=by
 intro s A r a h r0 r1 c;have kw:=H.know hx;have n0:=H.b.n0;have n1:=H.b.n1;have y0:=H.b.y0;have y1:=H.b.y1;have hcd:=H.b.cd;have e:bGp cs ws y cards true x r=kK false cards ((x+r - y)/4):=by unfold bGp;rw [c];rfl
 have e2:bJz (qW cs ws y t o cards W) (x+r)=some (kK false cards ((x+r - y)/4)):=by
  unfold bJz;show (if (-2000000≤x+r - y∧x+r - y≤2000000)∧0≤Int.tdiv (x+r - y) 4∧Int.tdiv (x+r - y) 4<(cards.length:Int)∧cards.length≤2000000 then some (kK false cards (Int.tdiv (x+r - y) 4)) else none)=_
  rw [jB (by omega),if_pos ⟨by omega,by omega,by omega,by omega⟩]
 unfold bEj;rw [e2,bC,e]
 split
 ·exact bIp H hx s A r a h r0 r1 c
 ·exact ⟨s,rfl,h⟩
theorem bLn (H:Opn cs ws y t o cards W) {D:Int→Prop}: ∀(L:List Int) (s:Mv) (A:Am),(∀x∈L,x∈W∧y≤x)→AI cs ws y o W A→MI cs ws y t o cards D s A→∃s',bGb (qW cs ws y t o cards W) (bEj (qW cs ws y t o cards W)) s (L.map (· +1))=some s'∧MI cs ws y t o cards D s' (L.foldl (bIi cs ws y cards true) A)
 |[],s,A,_,_,h=>⟨s,rfl,h⟩
 |x::r,s,A,hL,a,h=>by
  have hx:=hL x (gG ..);have z0:=H.sz0 hx.1;obtain ⟨s1,e1,h1⟩:=bEz H hx.1 true (bOz H hx.1 hx.2) (mZ cs ws x).toNat 0 s A (by omega) (by omega) a h;obtain ⟨s2,e2,h2⟩:=bLn H r s1 (bIi cs ws y cards true A x) (fun z hz=>hL z (fC _ hz)) ((bCh H hx.1 true A).2.1 a) h1;refine ⟨s2,?_,h2⟩;rw [gU,bGb,bGr H hx.1,bC];unfold bPs;rw [e1,bC,e2]
theorem bJm (H:Opn cs ws y t o cards W) {D:Int→Prop}: ∀(d i k:Nat) (s:Mv) (A:Am),201≤d+i→d<k→i≤A.mv.length→AI cs ws y o W A→MI cs ws y t o cards D s A→∃s',bHw (qW cs ws y t o cards W) k i s=some s'∧MI cs ws y t o cards D s' (bMu cs ws y cards d i A)
 |0,i,k,s,A,hd,_,hi,a,_=>by have:=a.len H;omega
 | d + 1, i, k, s, A, hd, hk, hi, a, h => by
  obtain ⟨k,rfl⟩: ∃m,k=m+1:=⟨k - 1,by omega⟩;rw [bHw,h.hf,h.hm];by_cases c:A.full=true∨A.mv.length≤i
  ·rw [if_pos c]
   refine ⟨s,rfl,?_⟩;rcases c with c|c
   ·rw [bMi _ _ _ c];exact h
   ·rw [bMu,if_pos c];exact h
  ·rw [if_neg c, bMu, if_neg (fun q => c (.inr q))]
   have hlt:i<A.mv.length:=by omega
   have hk2:=(a.key _ (jZ hlt)).2.2;rw [bRf hlt];obtain ⟨B,hB⟩: ∃B,B=A.mv[i]:=⟨_,rfl⟩;rw [←hB] at hk2 ⊢;have z0:=H.sz0 hk2
   obtain ⟨s1,e1,h1⟩:=bEz H hk2 false (f:=bEi (qW cs ws y t o cards W)) (fun s A r a h r0 r1 c=>by
    have e:bGp cs ws y cards false (B.1 - 1) r=true:=by unfold bGp;rw [c];rfl
    rw [if_pos e]
    exact bIp H hk2 s A r a h r0 r1 c) (mZ cs ws (B.1 - 1)).toNat 0 s A (by omega) (by omega) a h
   obtain ⟨e2,a2,_⟩:=bCh H hk2 false A;obtain ⟨l,hl⟩:=e2.pre;obtain ⟨s2,e3,h3⟩:=bJm H d (i+1) k s1 (bIi cs ws y cards false A (B.1 - 1)) (by omega) (by omega) (by rw [hl,cH];omega) (a2 a) h1;refine ⟨s2,?_,h3⟩;have e4:=bGr H hk2;rw [show B.1 - 1+1=B.1 by omega] at e4;rw [e4,bC];unfold bPs;rw [e1,bC,e3]
end
def DA (cs:Cs) (ws:List Int) (y o:Int) (s:Am) (j:Int):Prop:= ∃i x q,bGo cs ws y o s i x∧0≤q∧q<mZ cs ws x∧ld cs ws x q=true∧j=i+q
section
variable {cs:Cs} {ws:List Int} {y t o:Int} {cards:List Bool} {W:List Int} {A:Am}
theorem bAs (H:Opn cs ws y t o cards W) {roots:List Int} (hr: ∀v∈roots,v=0∨v - 1∈W):AI cs ws y o W (mJ cs ws y o cards roots)∧
  ((mJ cs ws y o cards roots).full=false→bQg cs ws y o (mJ cs ws y o cards roots)∧∀v∈roots,Kn y (mJ cs ws y o cards roots) v):=by
 have a0:=H.start0;obtain ⟨e1,a1,k1⟩:=yJ H roots (bKv o) hr;obtain ⟨e2,a2,k2⟩:=bEr H true (qI cs ws y o) (roots.foldl (bAd cs ws y) (bKv o)) (fun x hx=>(H.old hx).1);obtain ⟨e3,a3,c3⟩:=bKm H 201 0 _ (by omega) (a2 (a1 a0)) (by omega) (fun j hj h=>by omega);unfold mJ;refine ⟨a3,fun f=>⟨a3.cls H f c3 (fun x hx i i0 i1 hw=>?_),fun v hv=>?_⟩⟩
 ·rcases k2 x hx i i0 i1 hw with k | k
  ·exact .inl (e3.kn k)
  ·exact .inr (by rw [e3.ful k];exact k)
 ·rcases k1 v hv with k | k
  ·exact (e2.trans e3).kn k
  ·have := (e2.trans e3).nf f
   rw [this] at k;cases k
theorem bEu (H:Opn cs ws y t o cards W) (a:AI cs ws y o W A) (hc:bQg cs ws y o A) {i x:Int} (ha:bGo cs ws y o A i x) {f:Mv→Int→Option Mv}
  (hs: ∀(s:Mv) (D:Int→Prop) (r:Int),MI cs ws y t o cards D s A→0≤r→r<mZ cs ws x→ld cs ws x r=true→f s (x+r)=some {s with tw:=s.tw.set (i+r).toNat (qC s.mv (rd ws (x+r)))}):
  ∀(d:Nat) (r:Int) (s:Mv) (D:Int→Prop),0≤r→r+d=mZ cs ws x→MI cs ws y t o cards D s A→∃s' D',sK f s (bGm cs ws x d r)=some s'∧MI cs ws y t o cards D' s' A∧∀j,D' j↔D j∨∃q,r≤q∧q<mZ cs ws x∧ld cs ws x q=true∧j=i+q
 |0,r,s,D,r0,hd,h=>⟨s,D,rfl,h,fun j=>⟨.inl,fun q=>q.elim id (fun ⟨q,h1,h2,_⟩=>by omega)⟩⟩
 | d + 1, r, s, D, r0, hd, h => by
  rw [bGm];by_cases c:ld cs ws x r=true
  ·rw [if_pos c, sK, hs s D r h r0 (by omega) c, bC]
   have w:=h.w.write H a ha r0 (by omega) (hc i x r ha r0 (by omega) c);rw [←h.hm] at w;obtain ⟨s',D',e,h',hD⟩:=bEu H a hc ha hs d (r+1) {s with tw:=s.tw.set (i+r).toNat (qC s.mv (rd ws (x+r)))} _ (by omega) (by omega) ⟨h.hy,h.ht,h.ho,h.hc,h.hm,h.hf,w⟩;refine ⟨s',D',e,h',fun j=>?_⟩;rw [hD j]
   constructor
   ·rintro ((z | z) | ⟨q, q1, q2, q3, q4⟩)
    ·exact .inl z
    ·exact .inr ⟨r,by omega,by omega,c,z⟩
    ·exact .inr ⟨q,by omega,q2,q3,q4⟩
   ·rintro (z | ⟨q, q1, q2, q3, q4⟩)
    ·exact .inl (.inl z)
    ·by_cases cq : q = r
     ·subst cq;exact .inl (.inr q4)
     ·exact .inr ⟨q,by omega,q2,q3,q4⟩
  ·rw [if_neg c]
   obtain ⟨s',D',e,h',hD⟩:=bEu H a hc ha hs d (r+1) s D (by omega) (by omega) h;refine ⟨s',D',e,h',fun j=>?_⟩;rw [hD j]
   constructor
   ·rintro (z | ⟨q, q1, q2, q3, q4⟩)
    ·exact .inl z
    ·exact .inr ⟨q,by omega,q2,q3,q4⟩
   ·rintro (z | ⟨q, q1, q2, q3, q4⟩)
    ·exact .inl z
    ·by_cases cq : q = r
     ·subst cq;exact absurd q3 c
     ·exact .inr ⟨q,by omega,q2,q3,q4⟩
theorem bJh (H:Opn cs ws y t o cards W) (a:AI cs ws y o W A) (hc:bQg cs ws y o A): ∀(L:List Int) (s:Mv) (D:Int→Prop),(∀x∈L,x∈qI cs ws y o)→MI cs ws y t o cards D s A→∃s' D',yX (qW cs ws y t o cards W) s (L.map (· +1))=some s'∧MI cs ws y t o cards D' s' A∧
  ∀j,D' j↔D j∨∃x∈L,∃q,0≤q∧q<mZ cs ws x∧ld cs ws x q=true∧j=x+q
 |[],s,D,_,h=>⟨s,D,rfl,h,fun j=>⟨.inl,fun q=>q.elim id (fun ⟨x,hx,_⟩=>by simp at hx)⟩⟩
 | x :: r, s, D, hL, h => by
  have n0:=H.b.n0;have n1:=H.b.n1;have y0:=H.b.y0;have y1:=H.b.y1;have hx:=hL x (gG ..);have hw:=(H.old hx).1;have z0:=H.sz0 hw;have kw:=H.know hw
  obtain ⟨s1,D1,e1,h1,hD1⟩:=bEu H a hc (yE hx) (f:=bBy (qW cs ws y t o cards W)) (fun s D r h r0 r1 c=>by
   have hv:=H.val (H.lead hw r1 c).2.2.1;have wl:=h.w.len;unfold bBy;rw [if_pos ⟨by omega,by show x+r<(ws.length:Int);omega,by omega,by omega,by show -2000000≤rd ws (x+r)∧rd ws (x+r)≤2000000;omega⟩]
   rfl) (mZ cs ws x).toNat 0 s D (by omega) (by omega) h
  obtain ⟨s2,D2,e2,h2,hD2⟩:=bJh H a hc r s1 D1 (fun z hz=>hL z (fC _ hz)) h1;refine ⟨s2,D2,?_,h2,fun j=>?_⟩
  ·rw [gU, yX, bGr H hw, bC]
   unfold bPs;rw [e1,bC,e2]
  ·rw [hD2 j, hD1 j]
   constructor
   ·rintro ((z | z) | ⟨x', hx', z⟩)
    ·exact .inl z
    ·exact .inr ⟨x,gG ..,z⟩
    ·exact .inr ⟨x',fC _ hx',z⟩
   ·rintro (z | ⟨x', hx', z⟩)
    ·exact .inl (.inl z)
    ·rcases List.mem_cons.mp hx' with rfl | hx'
     ·exact .inl (.inr z)
     ·exact .inr ⟨x',hx',z⟩
theorem bJg (H:Opn cs ws y t o cards W) (a:AI cs ws y o W A) (hc:bQg cs ws y o A): ∀(L:List (Int×Int)) (s:Mv) (D:Int→Prop),(∀p∈L,p∈A.mv)→MI cs ws y t o cards D s A→∃s' D',bBw (qW cs ws y t o cards W) s (L.map Prod.fst)=some s'∧MI cs ws y t o cards D' s' A∧
  ∀j,D' j↔D j∨∃p∈L,∃q,0≤q∧q<mZ cs ws (p.1 - 1)∧ld cs ws (p.1 - 1) q=true∧j=p.2 - 1+q
 |[],s,D,_,h=>⟨s,D,rfl,h,fun j=>⟨.inl,fun q=>q.elim id (fun ⟨x,hx,_⟩=>by simp at hx)⟩⟩
 | p :: r, s, D, hL, h => by
  have n0:=H.b.n0;have n1:=H.b.n1;have y0:=H.b.y0;have y1:=H.b.y1;have hx:=hL p (gG ..);have ha:=bAc (cs:=cs) (ws:=ws) (y:=y) (o:=o) hx;have hq:=a.atL H ha;have hw:=hq.1;have tp:=a.top;have kw:=H.know hw;have hlk:(nO s.mv p.1).getD 0=p.2:=by rw [h.hm,bRq a.nod hx];rfl
  have he:=bGr H hw;rw [show p.1 - 1+1=p.1 by omega] at he
  obtain ⟨s1,D1,e1,h1,hD1⟩:=bEu H a hc ha (f:=fun u z=>bBx (qW cs ws y t o cards W) u (p.2 - p.1) z) (fun s D r h r0 r1 c=>by
   have hv:=H.val (H.lead hw r1 c).2.2.1;have wl:=h.w.len;unfold bBx;rw [if_pos ⟨by omega,by show p.1 - 1+r<(ws.length:Int);omega,by omega,by omega,by show -2000000≤rd ws (p.1 - 1+r)∧rd ws (p.1 - 1+r)≤2000000;omega,by omega⟩,show p.1 - 1+r+(p.2 - p.1)=p.2 - 1+r by omega]
   rfl) (mZ cs ws (p.1 - 1)).toNat 0 s D (by omega) (by omega) h
  obtain ⟨s2,D2,e2,h2,hD2⟩:=bJg H a hc r s1 D1 (fun z hz=>hL z (fC _ hz)) h1;refine ⟨s2,D2,?_,h2,fun j=>?_⟩
  ·rw [gU, bBw, hlk, if_pos ⟨by omega, by omega⟩, he, bC]
   unfold bPs;rw [e1,bC,e2]
  ·rw [hD2 j, hD1 j]
   constructor
   ·rintro ((z | z) | ⟨x', hx', z⟩)
    ·exact .inl z
    ·exact .inr ⟨p,gG ..,z⟩
    ·exact .inr ⟨x',fC _ hx',z⟩
   ·rintro (z | ⟨x', hx', z⟩)
    ·exact .inl (.inl z)
    ·rcases List.mem_cons.mp hx' with rfl | hx'
     ·exact .inl (.inr z)
     ·exact .inr ⟨x',hx',z⟩
theorem bRr (H:Opn cs ws y t o cards W) (a:AI cs ws y o W A) (hc:bQg cs ws y o A) {s:Mv} (h:MI cs ws y t o cards (fun _=>False) s A): ∃s',bJf (qW cs ws y t o cards W) s ((qI cs ws y o).map (· +1))=some s'∧MI cs ws y t o cards (DA cs ws y o A) s' A:=by
 have hlen:(qI cs ws y o).length≤200:=by
  have e:W.length=_:=gF List.length H.w
  rw [cH] at e;have:=H.wlk.len
  unfold qI;omega
 obtain ⟨s1,D1,e1,h1,hD1⟩:=bJh H a hc (qI cs ws y o) s _ (fun x hx=>hx) h;obtain ⟨s2,D2,e2,h2,hD2⟩:=bJg H a hc A.mv s1 D1 (fun x hx=>hx) h1;refine ⟨s2,?_,⟨h2.hy,h2.ht,h2.ho,h2.hc,h2.hm,h2.hf,h2.w.congr (fun j=>?_)⟩⟩
 ·have := a.len H
  unfold bJf;rw [if_pos ⟨by rw [dP];omega,by rw [h.hm];omega⟩,e1,bC,h1.hm,e2]
 ·rw [hD2 j, hD1 j]
  unfold DA
  constructor
  ·rintro ((z | ⟨x, hx, q, z⟩) | ⟨p, hp, q, z⟩)
   ·exact z.elim
   ·exact ⟨x,x,q,yE hx,z⟩
   ·exact ⟨_,_,q,bAc hp,z⟩
  ·rintro ⟨i, x, q, ha, z⟩
   rcases ha.or with ⟨rfl,hx⟩|⟨p,hp,rfl,rfl⟩
   ·exact .inl (.inr ⟨i,hx,q,z⟩)
   ·exact .inr ⟨p,hp,q,z⟩
theorem bRl (H:Opn cs ws y t o cards W) (k:Nat) (hk:300≤k):bLo k (qW cs ws y t o cards W)=some ((qI cs ws y o).map (· +1)):=by
 have n0:=H.b.n0;have n1:=H.b.n1;have y0:=H.b.y0;have y1:=H.b.y1;have t1:=H.b.t1;have hl:=H.wlk.len;obtain ⟨p,hp,h,q1,q2⟩:=bIs (bFy H.wlk.srt) (by rw [dP];omega) (y+1);obtain ⟨P,hP⟩: ∃P,P=(pw ws (gI cs) t t.toNat 0).1:=⟨_,rfl⟩;have hP2: ∀x∈P,x<t:=fun x hx=>by rw [hP] at hx;exact (yV ws (gI cs) t t.toNat 0 x hx).2.1
 have hw:W=P++qI cs ws y o:=by rw [hP];exact H.w
 have hlen:W.length=P.length+(qI cs ws y o).length:=by rw [hw,cH]
 rw [dP] at hp h
 have e:p=P.length:=by
  rcases Nat.lt_trichotomy p P.length with c|c|c
  ·have := q2 p (by rw [dP]; omega) (bV _)
   rw [List.getElem_map] at this;have e3:W[p]'(by omega)=P[p]:=by simp only [hw];exact List.getElem_append_left c
   rw [e3] at this;have:=hP2 _ (jZ c)
   omega
  ·exact c
  ·have := q1 P.length (by rw [dP]; omega) c
   rw [List.getElem_map] at this;have hlt:P.length<W.length:=by omega
   have e3:W[P.length]'hlt=(qI cs ws y o)[0]'(by omega):=by simp only [hw];rw [List.getElem_append_right (bV _)];simp
   rw [e3] at this;have:=(H.old (jZ (show 0<(qI cs ws y o).length by omega))).2
   omega
 unfold bLo;rw [show (qW cs ws y t o cards W).young=y from rfl,if_pos (by omega),show (qW cs ws y t o cards W).begins=W.map (· +1) from rfl,h k (by omega),bC,if_pos (by dsimp only;rw [dP];omega)]
 dsimp only
 rw [e,dF]
 congr 1
 rw [hw,nA];exact List.drop_left' (by rw [dP])
theorem bJk (H:Opn cs ws y t o cards W) {D:Int→Prop}: ∀(roots:List Int) (s:Mv) (A:Am),(∀v∈roots,v=0∨v - 1∈W)→AI cs ws y o W A→MI cs ws y t o cards D s A→∃s',sK (bDk (qW cs ws y t o cards W)) s roots=some s'∧MI cs ws y t o cards D s' (roots.foldl (bAd cs ws y) A)
 |[],s,A,_,_,h=>⟨s,rfl,h⟩
 |v::r,s,A,hr,a,h=>by
  have hv:=hr v (gG ..);obtain ⟨s1,e1,h1⟩:=bMg H a h hv;obtain ⟨s2,e2,h2⟩:=bJk H r s1 _ (fun z hz=>hr z (fC _ hz)) (a.come H hv) h1;exact ⟨s2,by rw [sK,e1,bC,e2],h2⟩
theorem bJc (H:Opn cs ws y t o cards W) {roots:List Int} (hr: ∀v∈roots,v=0∨v - 1∈W) (hl:roots.length≤4000000) (k:Nat) (hk:300≤k):
  ((mJ cs ws y o cards roots).full=true→bDy k (qW cs ws y t o cards W) roots=some none)∧
  ((mJ cs ws y o cards roots).full=false→∃tw,WI cs ws y o (mJ cs ws y o cards roots) (DA cs ws y o (mJ cs ws y o cards roots)) tw∧bDy k (qW cs ws y t o cards W) roots=some (some (⟨List.replicate y.toNat 0++tw.drop y.toNat,y,0,(mJ cs ws y o cards roots).o,List.replicate cards.length false,(mJ cs ws y o cards roots).mv,false⟩,roots.map (qC (mJ cs ws y o cards roots).mv)))):=by
 have n0:=H.b.n0;have n1:=H.b.n1;have y0:=H.b.y0;have y1:=H.b.y1;have t1:=H.b.t1;have hcd:=H.b.cd;have a0:=H.start0;obtain ⟨af,cf⟩:=bAs H hr;obtain ⟨s1,e1,h1⟩:=bJk H (D:=fun _=>False) roots (mv0 (qW cs ws y t o cards W)) (bKv o) hr a0 ⟨rfl,rfl,rfl,rfl,rfl,rfl,WI.start H⟩;have a1:=(yJ H roots (bKv o) hr).2.1 a0;obtain ⟨s2,e2,h2⟩:=bLn H (qI cs ws y o) s1 _ (fun x hx=>H.old hx) a1 h1;have a2:=(bEr H true (qI cs ws y o) (roots.foldl (bAd cs ws y) (bKv o)) (fun x hx=>(H.old hx).1)).2.1 a1;obtain ⟨s3,e3,h3⟩:=bJm H 201 0 k s2 _ (by omega) (by omega) (by omega) a2 h2
 have hlen:(qI cs ws y o).length≤200:=by
  have e:W.length=_:=gF List.length H.w
  rw [cH] at e;have:=H.wlk.len
  unfold qI;omega
 obtain ⟨A,hA⟩: ∃A,A=mJ cs ws y o cards roots:=⟨_,rfl⟩;rw [←hA] at af cf ⊢;replace h3:MI cs ws y t o cards (fun _=>False) s3 A:=by rw [hA];exact h3
 have eM:bDy k (qW cs ws y t o cards W) roots=if s3.full=true then some none else (bJf (qW cs ws y t o cards W) s3 ((qI cs ws y o).map (· +1))).bind fun s4=>if 0≤s4.y∧s4.y≤s4.tw.length then some (some ({s4 with tw:=List.replicate s4.y.toNat 0++s4.tw.drop s4.y.toNat,tc:=List.replicate s4.tc.length false,t:=0},roots.map (qC s4.mv))) else none:=by
  unfold bDy;rw [if_pos ⟨⟨by show 0<ws.length;omega,by show ws.length≤2000000;omega,by show cards.length≤2000000;omega,hl⟩,fun x hx=>by have:=H.val (hr x hx);omega⟩,e1,bC,bRl H k hk,bC,if_pos (by rw [dP];omega),e2,bC,e3,bC]
 rw [eM,h3.hf];refine ⟨fun f=>by rw [if_pos f],fun f=>?_⟩;obtain ⟨s4,e4,h4⟩:=bRr H af (cf f).1 h3;obtain ⟨tw,y',t',o',tc,mv,full⟩:=s4;obtain ⟨hy,ht,ho,hc,hm,hf,w⟩:=h4;dsimp only at hy ht ho hc hm hf w;have wl:=w.len;refine ⟨tw,w,?_⟩;rw [if_neg (by rw [f];simp),e4,bC]
 dsimp only
 rw [if_pos (by omega),hy,ho,hc,hm,hf,f]
end
theorem refs_eq {cs:Cs} {ws:List Int} {y t o:Int} {cards:List Bool} (hb:Bnd cs ws y t o cards) {c hd cnt x:Int} (hc:c=rd ws x) (h0:0≤x) (hhd:hd=1∨hd=2) (hcn:0≤cnt) (hcn8:cnt≤8) (hsz:x+hd+cnt≤ws.length) (hhe:jD c=some hd) (hl21: ∀k,20≤k→jN k cs ws x ws.length=some (hd+cnt)) (hcc:c= -1∨c= -2∨(0≤c∧c<cs.length∧hd=1∧cnt=(bIm cs c).length)):
  ∀k,200≤k→mQ k cs ws x=some (sZ cs c hd (hd+cnt)):=by
 intro k hk;unfold mQ;rw [hl21 k (by omega),bC,if_pos (by omega),if_pos (by omega),if_pos h0,if_pos (by omega),←hc,hhe,bC]
 have:=bJv hb.ok (c:=c) (hd:=hd) (s:=(hd+cnt).toNat) (by omega) hhd (by rcases hcc with z|z|z;exact .inl z;exact .inr (.inl z);exact .inr (.inr ⟨z.1,z.2.1,z.2.2.1,by omega⟩)) ((hd+cnt).toNat - hd.toNat) k hd.toNat (List.replicate (hd+cnt).toNat false) (by omega) (by omega) (by omega) (by simp) (fun i hi=>by
  rw [bP,zK,if_pos hi]
  rw [bM (by omega)];rfl)
 rw [show ((hd.toNat:Nat):Int)=hd by omega,show (((hd+cnt).toNat:Nat):Int)=hd+cnt by omega] at this;exact this
def DC (cs:Cs) (ws:List Int) (y o:Int) (cards:List Bool) (s:Am) (c j:Int):Prop:=j<c∧∃i x q,bGo cs ws y o s i x∧0≤q∧q<mZ cs ws x∧ld cs ws x q=true∧j=i+q∧(i<o→kK false cards ((j - y)/4)=true)
structure SI (cs:Cs) (ws:List Int) (y t o:Int) (cards:List Bool) (c:Int) (s:Xv) (A:Am):Prop where
 hy:s.y=y
 ht:s.t=t
 ho:s.o=A.o
 hc:s.cd=cards
 hk:s.ok=!A.full
 nl:(s.nw.length:Int)=y
 nw: ∀a,1≤a→a≤y→rd s.nw (a - 1)=(nO A.mv a).getD 0
 lo:c≤A.o
 w: ∃D,WI cs ws y o A D s.ws∧DL cs ws y o A D∧(A.full=false→∀j,D j↔DC cs ws y o cards A c j)
theorem bRe {ws:List Int} {o j:Int} (o0:0≤o) (j0:0≤j): ∀k:Nat,j+k≤o→o+k≤ws.length→(bIl ws o j k).length=ws.length∧∀i,0≤i→rd (bIl ws o j k) i=if o≤i∧i<o+k then rd ws (j+(i - o)) else rd ws i
 |0,_,_=>⟨rfl,fun i i0=>by rw [if_neg (by omega)];rfl⟩
 | k + 1, h1, h2 => by
  obtain ⟨hl,hr⟩:=bRe (ws:=ws) o0 j0 k (by omega) (by omega);refine ⟨by rw [bIl,dV,hl],fun i i0=>?_⟩;rw [bIl,hr (j+(k:Int)) (by omega),if_neg (by omega)];by_cases c:i=o+k
  ·rw [c, bCk _ (by omega) (by rw [hl]; omega), if_pos (by omega)]
   congr 1
   omega
  ·rw [bAi _ (by omega) i0 c, hr i i0]
   by_cases c2:o≤i∧i<o+(k:Int)
   ·rw [if_pos c2,if_pos (by omega)]
   ·rw [if_neg c2,if_neg (by omega)]
theorem bPe (cs:Cs) (c hd s:Int) {j:Int} (h0:0≤j) (h1:j<s):kK false (sZ cs c hd s) j=(decide (hd≤j)&&bDj cs c (j - hd)):=by
 unfold kK sZ;rw [bP,sD,xR (by omega)];show (decide (hd≤((j.toNat:Nat):Int))&&bDj cs c (((j.toNat:Nat):Int) - hd))=_
 rw [xS h0]
section
variable {cs:Cs} {ws:List Int} {y t o:Int} {cards:List Bool} {W:List Int} {s:Xv} {A:Am} {c:Int}
theorem bJa (H:Opn cs ws y t o cards W) (h:SI cs ws y t o cards c s A) (f:A.full=true) (k:Nat) (v:Int):bFw k cs s v=some (v,s):=by
 have hk:s.ok=false:=by rw [h.hk,f];rfl
 unfold bFw;rw [if_pos hk,ite_self,ite_self]
theorem bIz (H:Opn cs ws y t o cards W) (a:AI cs ws y o W A) (h:SI cs ws y t o cards c s A) (f:A.full=false) {v:Int} (hv:v=0∨v - 1∈W) (k:Nat) (hk:20≤k):
  ∃u s',bFw k cs s v=some (u,s')∧SI cs ws y t o cards c s' (bAd cs ws y A v)∧((bAd cs ws y A v).full=false→u=qC (bAd cs ws y A v).mv v)∧((bAd cs ws y A v).full=true→u=v∧s'.ws=s.ws):=by
 have n0:=H.b.n0;have n1:=H.b.n1;have y0:=H.b.y0;have y1:=H.b.y1;have t1:=H.b.t1;have lo:=a.lo H;have tp:=a.top;have hr:=Opn.val H hv;obtain ⟨ws',y',t',o',cd',nw',ok'⟩:=s;obtain ⟨hy,ht,ho,hc,hok,nl,nw,hlo,D,w,dl,dd⟩:=h;dsimp only at hy ht ho hc hok nl nw w;subst hy ht ho hc;rw [f] at hok;subst hok;have wl:=w.len;unfold bFw
 dsimp only
 rcases bKj (cs:=cs) (ws:=ws) (y:=y') A v with ⟨e,kn⟩|⟨_,v0,vy,hn,hz,e⟩|⟨_,v0,vy,hn,hz,e⟩
 ·rw [e, f]
  have kn:=kn.resolve_right (by rw [f];simp);have hS:SI cs ws y' t' o cd' c ⟨ws',y',t',A.o,cd',nw',!false⟩ A:=⟨rfl,rfl,rfl,rfl,by rw [f],nl,nw,hlo,D,w,dl,dd⟩
  by_cases c0:v=0
  ·exact ⟨v,_,by rw [if_pos c0],hS,fun _=>(tA a (.inl c0)).symm,fun q=>(by cases q)⟩
  by_cases c1:v>y'
  ·exact ⟨v,_,by rw [if_neg c0,if_pos c1],hS,fun _=>(tA a (.inr c1)).symm,fun q=>(by cases q)⟩
  have kn:=(kn.resolve_left c0).resolve_left c1;obtain ⟨b,hb⟩:=Option.isSome_iff_exists.mp kn;have hm:=yK hb;have hq:=a.atL H (bAc hm);have hnw:=nw v (by omega) (by omega);rw [hb] at hnw;have hnw:rd nw' (v - 1)=b:=hnw
  refine ⟨b,_,?_,hS,fun _=>by unfold qC;rw [hb];rfl,fun q=>(by cases q)⟩;rw [if_neg c0,if_neg c1,if_neg (by simp),if_pos ⟨by omega,⟨by omega,by omega⟩,by omega,by omega⟩,hnw,if_pos (by dsimp only at hq;omega)]
 all_goals
  have hw:=hv.resolve_left v0;have z0:=H.sz0 hw;have kw:=H.know hw
  have hp:v - 1+mZ cs ws (v - 1)≤t':=by
   rcases H.part hw with q|q
   ·exact q.2.1
   ·omega
  have hms:jV ws' (gI cs) y' (v - 1)=mZ cs ws (v - 1):=bNi (w.out _ (by omega) (by omega)) (fun q=>w.out _ (by omega) (by have:=kw.2.2.2.2.2.2 q;omega)) z0 (by omega)
  have hsz:jN k cs ws' (v - 1) y'=some (mZ cs ws (v - 1)):=by
   rw [vS H.b.ok (by omega) (by omega) (by omega) k hk,if_pos (by omega),hms]
  have hnw:=nw v (by omega) (by omega);rw [hn] at hnw;have hnw:rd nw' (v - 1)=0:=hnw
  rw [if_neg v0,if_neg (show¬v>y' by omega),if_neg (show¬(!false)=false by simp),if_pos ⟨⟨by omega,by omega⟩,⟨by omega,by omega⟩,by omega,by omega⟩,hnw,if_neg (by omega),hsz,bC,if_pos ⟨by omega,by omega,by omega⟩]
 ·rw [if_pos (by omega), e]
  exact ⟨v,_,rfl,⟨rfl,rfl,rfl,rfl,rfl,nl,nw,hlo,D,w.ful,dl,fun q=>(by cases q)⟩,fun q=>(by cases q),fun _=>⟨rfl,rfl⟩⟩
 ·have a2 := a.come H hv
  rw [e] at a2 ⊢;obtain ⟨cl,cr⟩:=bRe (ws:=ws') (o:=A.o) (j:=v - 1) (by omega) (by omega) (mZ cs ws (v - 1)).toNat (by omega) (by omega);have ex:Ext A ⟨A.mv++[(v,A.o+1)],A.o+mZ cs ws (v - 1),false⟩:=⟨⟨_,rfl⟩,fun q=>(by rw [f] at q;cases q),by dsimp only;omega⟩
  have nowv:qC (A.mv++[(v,A.o+1)]) v=A.o+1:=by unfold qC;rw [bAu hn,if_pos rfl];rfl
  rw [if_neg (by omega)];refine ⟨A.o+1,_,rfl,⟨rfl,rfl,rfl,rfl,rfl,by dsimp only;rw [dV];exact nl,fun z z1 z2=>?_,by dsimp only;omega,D,w.move H a a2 f z0 (by rw [cl,wl]) (fun r r0 r1=>?_) (fun j j0 hj=>?_),fun i x r ha r0 r1 hd=>?_,fun _ j=>?_⟩,fun _=>nowv.symm,fun q=>(by cases q)⟩
  ·dsimp only
   rw [bAu hn];by_cases cz:z=v
   ·rw [if_pos cz,cz,bCk _ (by omega) (by omega)];rfl
   ·rw [if_neg cz, bAi _ (by omega) (by omega) (by omega)]
    exact nw z z1 z2
  ·dsimp only
   rw [cr _ (by omega),if_pos (by omega),show v - 1+(A.o+r - A.o)=v - 1+r by omega];exact w.out _ (by omega) (by omega)
  ·dsimp only
   rw [cr _ j0,if_neg (by omega)]
  ·rcases ha.or with ⟨rfl, q⟩ | ⟨p, hp2, rfl, rfl⟩
   ·exact dl i i r (yE q) r0 r1 hd
   ·rcases List.mem_append.mp hp2 with hp2 | hp2
    ·exact dl _ _ r (bAc hp2) r0 r1 hd
    ·rw [nU] at hp2
     subst hp2;have:=w.dn _ hd
     dsimp only at this;omega
  ·rw [dd f j]
   unfold DC
   constructor
   ·rintro ⟨h1, i, x, q, ha, h2⟩
    exact ⟨h1,i,x,q,ha.ext ex,h2⟩
   ·rintro ⟨h1, i, x, q, ha, h2⟩
    refine ⟨h1,i,x,q,?_,h2⟩;rcases ha.or with ⟨rfl,q⟩|⟨p,hp2,rfl,rfl⟩
    ·exact yE q
    ·rcases List.mem_append.mp hp2 with hp2 | hp2
     ·exact bAc hp2
     ·rw [nU] at hp2
      subst hp2;dsimp only at h2;omega
theorem SI.pass (H:Opn cs ws y t o cards W) (a:AI cs ws y o W A) (h:SI cs ws y t o cards c s A) {c':Int} (hc:c≤c') (lo:c'≤A.o) (hn: ∀i x q,bGo cs ws y o A i x→0≤q→q<mZ cs ws x→c≤i+q→i+q<c'→ld cs ws x q=true→(i<o→kK false cards ((i+q - y)/4)=true)→False):SI cs ws y t o cards c' s A:=by
 obtain ⟨hy,ht,ho,hcc,hok,nl,nw,hlo,D,w,dl,dd⟩:=h;refine ⟨hy,ht,ho,hcc,hok,nl,nw,lo,D,w,dl,fun f j=>?_⟩;rw [dd f j];unfold DC
 constructor
 ·rintro ⟨h1, h2⟩
  exact ⟨by omega,h2⟩
 ·rintro ⟨h1, i, x, q, ha, q0, q1, hl, e, hcd⟩
  refine ⟨?_,i,x,q,ha,q0,q1,hl,e,hcd⟩;refine bF (fun z=>hn i x q ha q0 q1 (by omega) (by omega) hl (fun io=>by rw [←e];exact hcd io))
theorem bOw (H:Opn cs ws y t o cards W) (h:SI cs ws y t o cards c s A) {x i:Int} (hx:x∈W) {k:Nat} (k1:(k:Int)<mZ cs ws x) {cd:Bool} (hcd:cd=true→i=x∧y≤x) {R:List Bool} (hR: ∀j:Int,0≤j→j<mZ cs ws x→kK false R j=ld cs ws x j):bOd s R i cd k=some (bGp cs ws y cards cd x k):=by
 have n0:=H.b.n0;have n1:=H.b.n1;have y0:=H.b.y0;have y1:=H.b.y1;have hcl:=H.b.cd;have kw:=H.know hx;unfold bOd bGp;rw [hR k (by omega) k1,h.hy,h.hc]
 cases hl:ld cs ws x k with
 |false=>rw [if_pos rfl];rfl
 | true =>
  rw [if_neg (by simp)]
  cases cd with
  |false=>rw [if_pos rfl];rfl
  |true=>
   obtain ⟨e,hy⟩:=hcd rfl;subst e;rw [if_neg (by simp),jB (by omega),if_pos ⟨by omega,by omega,by omega,by omega⟩];rfl
theorem bLg {l:List Int} {j:Int} (j0:0≤j) (j1:j<l.length):l.set j.toNat (rd l j)=l:=by
 refine bRd dV (fun i i0 i1=>?_);by_cases e:i=j
 ·subst e
  rw [bCk _ j0 j1]
 ·rw [bAi _ j0 i0 e]
theorem bAq (H : Opn cs ws y t o cards W) {x i : Int} (hx : x ∈ W) {cd : Bool} (hcd : (cd = true ∧ i = x ∧ y ≤ x ∧ i < o) ∨ (cd = false ∧ o ≤ i)) {R : List Bool} (hR : ∀ j : Int, 0 ≤ j → j < mZ cs ws x → kK false R j = ld cs ws x j) (kf : Nat) (hkf : 20 ≤ kf) :
  ∀(d k:Nat) (s:Xv) (A:Am),((k:Int)+d=mZ cs ws x)→AI cs ws y o W A→bGo cs ws y o A i x→SI cs ws y t o cards (i+k) s A→∃s',bBm kf cs R i cd d k s=some s'∧SI cs ws y t o cards (i+mZ cs ws x) s' (bOy cs ws y cards x cd d k A)
 |0,k,s,A,hd,a,ha,h=>⟨s,rfl,by rw [show mZ cs ws x=(k:Int) by omega];exact h⟩
 | d + 1, k, s, A, hd, a, ha, h => by
  have n0:=H.b.n0;have n1:=H.b.n1;have y0:=H.b.y0;have y1:=H.b.y1;have hq:=a.atL H ha;have tp:=a.top;rw [bBm,bOy,bOw H h hx (by omega) (fun e=>by rcases hcd with q|q;exact ⟨q.2.1,q.2.2.1⟩;rw [q.1] at e;cases e) hR,bC];have cast:(((k+1:Nat)):Int)=(k:Int)+1:=by omega
  have hwl:s.ws.length=ws.length:=by obtain ⟨D,w,_⟩:=h.w;exact w.len
  by_cases c:bGp cs ws y cards cd x k=true
  ·rw [if_pos c, if_pos c, if_pos ⟨by omega, by omega⟩]
   have hl:ld cs ws x k=true:=by unfold bGp at c;rw [dY] at c;exact c.1
   have hv:=(H.lead hx (show (k:Int)<mZ cs ws x by omega) hl).2.2.1
   have hcard:i<o→kK false cards ((i+(k:Int) - y)/4)=true:=fun io=>by
    rcases hcd with q|q
    ·unfold bGp at c
     rw [q.1,dY] at c;rw [q.2.1]
     simpa using c.2
    ·omega
   cases f:A.full with
   | true =>
    have e:bAd cs ws y A (rd ws (x+k))=A:=by
     unfold bAd
     split
     ·rfl
     ·split
      ·rfl
      ·rw [if_pos (.inr f)]
    rw [bJa H h f,bC]
    dsimp only
    rw [if_pos (by omega),bLg (by omega) (by omega),e];obtain ⟨D,w,dl,dd⟩:=h.w;have:=bAq H hx hcd hR kf hkf d (k+1) s A (by omega) a ha ⟨h.hy,h.ht,h.ho,h.hc,h.hk,h.nl,h.nw,by omega,D,w,dl,fun q=>by rw [f] at q;cases q⟩
    rw [cast] at this;exact this
   | false =>
    obtain ⟨D0,w0,dl0,dd0⟩:=h.w;have hnd: ¬D0 (i+k):=fun q=>by have:=((dd0 f _).mp q).1;omega
    have hrd:rd s.ws (i+k)=rd ws (x+k):=(w0.inn i x ha k (by omega) (by omega)).2 hnd
    rw [hrd];obtain ⟨u,s1,e1,h1,u1,u2⟩:=bIz H a h f hv kf hkf;obtain ⟨ex,kn⟩:=bGt H (s:=A) hv;have a1:=a.come H hv;have ha1:=ha.ext ex;obtain ⟨D1,w1,dl1,dd1⟩:=h1.w;rw [e1,bC]
    dsimp only
    rw [if_pos (by rw [w1.len];omega)];have hlo1:i+((k:Int)+1)≤(bAd cs ws y A (rd ws (x+k))).o:=by have:=ex.up;omega
    have hS:SI cs ws y t o cards (i+((k+1:Nat):Int)) {s1 with ws:=s1.ws.set (i+(k:Int)).toNat u} (bAd cs ws y A (rd ws (x+k))):=by
     rw [cast]
     cases f1:(bAd cs ws y A (rd ws (x+k))).full with
     |true=>
      obtain ⟨u3,u4⟩:=u2 f1;refine ⟨h1.hy,h1.ht,h1.ho,h1.hc,h1.hk,h1.nl,h1.nw,hlo1,D1,?_,dl1,fun q=>by rw [f1] at q;cases q⟩
      dsimp only
      have es:s1.ws.set (i+(k:Int)).toNat u=s1.ws:=by rw [u3,u4,←hrd];exact bLg (by omega) (by omega)
      rw [es];exact w1
     | false =>
      have kn1:=kn.resolve_right (by rw [f1];simp);have w2:=w1.write H a1 ha1 (by omega) (by omega) kn1;rw [←u1 f1] at w2;refine ⟨h1.hy,h1.ht,h1.ho,h1.hc,h1.hk,h1.nl,h1.nw,hlo1,_,w2,fun i' x' r' ha' r0' r1' hd'=>?_,fun _ j=>?_⟩
      ·rcases hd' with hd' | hd'
       ·exact dl1 i' x' r' ha' r0' r1' hd'
       ·obtain ⟨e2, e3⟩ := a1.one H ha1 ha' (j := i + (k : Int)) (by omega) (by omega) (by omega) (by omega)
        subst e2 e3;obtain rfl:r'=(k:Int):=by omega
        exact hl
      ·rw [dd1 f1 j]
       unfold DC
       constructor
       ·rintro (⟨z1, z2⟩ | z)
        ·exact ⟨by omega,z2⟩
        ·exact ⟨by omega,i,x,k,ha1,by omega,by omega,hl,z,fun io=>by rw [z];exact hcard io⟩
       ·rintro ⟨z1, z2⟩
        by_cases cj:j=i+(k:Int)
        ·exact .inr cj
        ·exact .inl ⟨by omega,z2⟩
    have:=bAq H hx hcd hR kf hkf d (k+1) _ _ (by omega) a1 ha1 hS
    rw [cast] at this;exact this
  ·rw [if_neg c, if_neg c]
   have hS:=h.pass H a (c':=i+((k+1:Nat):Int)) (by omega) (by omega) (fun i' x' q' ha' q0 q1 z1 z2 hl' hcd'=>by
    obtain ⟨e2,e3⟩:=a.one H ha ha' (j:=i+(k:Int)) (by omega) (by omega) (by omega) (by omega);subst e2 e3;obtain rfl:q'=(k:Int):=by omega
    refine c ?_;unfold bGp;rw [hl',jQ];rcases hcd with q|q
    ·rw [q.1]
     have:=hcd' q.2.2.2
     rw [q.2.1] at this
     simpa using this
    ·rw [q.1];rfl)
   have:=bAq H hx hcd hR kf hkf d (k+1) s A (by omega) a ha hS
   rw [cast] at this;exact this
theorem SI.bnd (H:Opn cs ws y t o cards W) (a:AI cs ws y o W A) (h:SI cs ws y t o cards c s A):Bnd cs s.ws y t A.o cards:=by
 have lo:=a.lo H;have tp:=a.top;have hwl:s.ws.length=ws.length:=by obtain ⟨D,w,_⟩:=h.w;exact w.len
 exact ⟨H.b.ok,H.b.y0,H.b.y1,by rw [hwl];exact H.b.n0,by rw [hwl];exact H.b.n1,H.b.t0,H.b.t1,lo,by rw [hwl];exact tp,by rw [hwl];exact H.b.cd⟩
theorem SI.size (H:Opn cs ws y t o cards W) (a:AI cs ws y o W A) (h:SI cs ws y t o cards c s A) {i x:Int} (ha:bGo cs ws y o A i x):rd s.ws i=rd ws x∧∀k,20≤k→jN k cs s.ws i s.ws.length=some (mZ cs ws x):=by
 have n0:=H.b.n0;have n1:=H.b.n1;have y0:=H.b.y0;have y1:=H.b.y1;have hq:=a.atL H ha;have tp:=a.top;obtain ⟨D,w,dl,dd⟩:=h.w;have hwl:=w.len;obtain ⟨h1,h2⟩:=w.head H a dl ha;refine ⟨h1,fun k hk=>?_⟩;rw [vS H.b.ok (by omega) (by omega) (vW _) k hk,if_pos (by omega),bNi h1 h2 hq.2.1 (by omega)]
theorem bFq (H:Opn cs ws y t o cards W) (a:AI cs ws y o W A) {i x:Int} (ha:bGo cs ws y o A i x) {cd:Bool} (hcd:(cd=true∧i=x∧y≤x∧i<o)∨(cd=false∧o≤i)) (h:SI cs ws y t o cards i s A) (kf:Nat) (hkf:200≤kf): ∃s',bFd kf cs s i cd=some s'∧SI cs ws y t o cards (i+mZ cs ws x) s' (bIi cs ws y cards cd A x):=by
 have n0:=H.b.n0;have n1:=H.b.n1;have y0:=H.b.y0;have y1:=H.b.y1;have hq:=a.atL H ha;have tp:=a.top;have hwl:s.ws.length=ws.length:=by obtain ⟨D,w,_⟩:=h.w;exact w.len
 obtain ⟨hh,hs⟩:=h.size H a ha;obtain ⟨cc,hd,cnt,hcc,h0,hhd,hcn,hcn8,hsz,hco,hfi,hhe,hl21,hle,hcl⟩:=bBk (t:=t) (o:=o) (cards:=cards) H.b H.wlk _ rfl hq.1;obtain ⟨_,_,_,_,_,_,_,_,_,_,hl2⟩:=tF (t:=t) (o:=o) (cards:=cards) H.b H.wlk hq.1
 have e1:mZ cs ws x=hd+cnt:=by
  have q1:=hl21 20 (bV _);rw [hl2 20 (bV _)] at q1;exact bE q1
 have e2:tL (rd ws x)=hd:=by
  unfold jD at hhe;unfold tL;rw [←hcc];by_cases c:cc<0
  ·rw [if_pos c] at hhe ⊢;exact bE hhe
  ·rw [if_neg c] at hhe ⊢;exact bE hhe
 have hR:=refs_eq (h.bnd H a) (c:=cc) (hd:=hd) (cnt:=cnt) (x:=i) (by rw [hh,hcc]) (by omega) hhd hcn hcn8 (by rw [hwl];omega) hhe (fun k hk=>by rw [hs k hk,e1]) hcl kf hkf;have hlen:((sZ cs cc hd (hd+cnt)).length:Int)=mZ cs ws x:=by unfold sZ;rw [dP,kV];omega
 obtain ⟨s',e3,h3⟩:=bAq H hq.1 hcd (R:=sZ cs cc hd (hd+cnt)) (fun j j0 j1=>by rw [bPe cs cc hd _ j0 (by omega)];unfold ld;rw [e2,←hcc]) kf (by omega) (mZ cs ws x).toNat 0 s A (by omega) a ha (by rw [show i+((0:Nat):Int)=i by omega];exact h);refine ⟨s',?_,h3⟩;unfold bFd;rw [if_pos (by omega),hR,bC,if_pos (by omega),show (sZ cs cc hd (hd+cnt)).length=(mZ cs ws x).toNat by omega];exact e3
theorem bHj (H:Opn cs ws y t o cards W) (kf:Nat) (hkf:200≤kf): ∀(L:List Int) (c:Int) (s:Xv) (A:Am),(∀x∈L,x∈qI cs ws y o)→bMt (mZ cs ws) c (L.map fun x=>(x,x)) o→AI cs ws y o W A→SI cs ws y t o cards c s A→∃s',bFv kf cs s L=some s'∧SI cs ws y t o cards o s' (L.foldl (bIi cs ws y cards true) A)
 |[],c,s,A,_,hch,_,h=>⟨s,rfl,by have e:c=o:=hch;rw [e] at h;exact h⟩
 | x :: r, c, s, A, hL, hch, a, h => by
  obtain ⟨h1,h2⟩:=hch;have h1:x=c:=h1
  subst h1;have hx:=hL x (gG ..);have hw:=H.old hx
  have hxo:x<o:=by
   have q:=bMt.mem h2 (fun p hp=>by obtain ⟨z,hz,rfl⟩:=List.mem_map.mp hp;exact H.sz0 (H.old (hL z (fC _ hz))).1);have:=H.sz0 hw.1
   dsimp only at q;omega
  obtain ⟨s1,e1,h3⟩:=bFq H a (yE hx) (cd:=true) (.inl ⟨rfl,rfl,hw.2,hxo⟩) h kf hkf;obtain ⟨s2,e2,h4⟩:=bHj H kf hkf r _ s1 _ (fun z hz=>hL z (fC _ hz)) h2 ((bCh H hw.1 true A).2.1 a) h3;exact ⟨s2,by rw [bFv,e1,bC,e2],h4⟩
theorem bBq (H:Opn cs ws y t o cards W) (kf:Nat) (hkf:200≤kf): ∀(roots out:List Int) (s:Xv) (A:Am),(∀v∈roots,v=0∨v - 1∈W)→AI cs ws y o W A→SI cs ws y t o cards c s A→∃s' out',bBr kf cs s out roots=some (s',out')∧SI cs ws y t o cards c s' (roots.foldl (bAd cs ws y) A)∧((roots.foldl (bAd cs ws y) A).full=false→out'=out++roots.map (qC (roots.foldl (bAd cs ws y) A).mv))
 |[],out,s,A,_,_,h=>⟨s,out,rfl,h,fun _=>by simp⟩
 | v :: r, out, s, A, hr, a, h => by
  have hv:=hr v (gG ..);rw [bBr,List.foldl_cons]
  cases f:A.full with
  | true =>
   have e:bAd cs ws y A v=A:=by
    unfold bAd
    split
    ·rfl
    ·split
     ·rfl
     ·rw [if_pos (.inr f)]
   rw [bJa H h f,bC,e]
   dsimp only
   obtain ⟨s2,out2,e2,h2,o2⟩:=bBq H kf hkf r (out++[v]) s A (fun z hz=>hr z (fC _ hz)) a h;refine ⟨s2,out2,e2,h2,fun q=>?_⟩;have:=(yJ H r A (fun z hz=>hr z (fC _ hz))).1.nf q
   rw [f] at this;cases this
  |false=>
   obtain ⟨u,s1,e1,h1,u1,u2⟩:=bIz H a h f hv kf (by omega);have a1:=a.come H hv;obtain ⟨s2,out2,e2,h2,o2⟩:=bBq H kf hkf r (out++[u]) s1 _ (fun z hz=>hr z (fC _ hz)) a1 h1;rw [e1,bC];refine ⟨s2,out2,e2,h2,fun q=>?_⟩;obtain ⟨ex,a2,_⟩:=yJ H r (bAd cs ws y A v) (fun z hz=>hr z (fC _ hz));have f1:=ex.nf q;have kn:=(bGt H (s:=A) hv).2.resolve_right (by rw [f1];simp);rw [o2 q,u1 f1,gU,bEs a1 (a2 a1) ex kn];simp
end
def bMd (sz:Int→Int) (b:Int) (l:List (Int×Int)):Int:=l.foldl (fun b p=>b+sz p.2) b
theorem bMt.fin {sz:Int→Int}: ∀{l:List (Int×Int)} {b e:Int},bMt sz b l e→bMd sz b l=e
 |[],b,e,h=>h
 |p::r,b,e,h=>by
  obtain ⟨h1,h2⟩:=h;exact h2.fin
theorem bMt.split {sz:Int→Int}: ∀{l:List (Int×Int)} {b e:Int} {q:List (Int×Int)},bMt sz b (l++q) e→bMt sz (bMd sz b l) q e
 |[],b,e,q,h=>h
 |p::r,b,e,q,h=>by
  obtain ⟨h1,h2⟩:=h;exact bMt.split (l:=r) (b:=b+sz p.2) h2
theorem bSc (sz:Int→Int) (b:Int) (l q:List (Int×Int)):bMd sz b (l++q)=bMd sz (bMd sz b l) q:=by unfold bMd;rw [List.foldl_append]
theorem bFe {α:Type} (v:α): ∀(l:List α) (i:Nat),i<l.length→(l.set i v).take (i+1)=l.take i++[v]
 |[],i,h=>by simp at h
 |x::r,0,_=>by simp
 |x::r,i+1,h=>by
  rw [fT,List.take_succ_cons,List.take_succ_cons,List.cons_append,bFe v r i (by simpa using h)]
theorem bSg {ws:List Int} {y t o:Int} (d:Nat): ∀(k i:Nat) (cd:List Bool),i+d=cd.length→cd.length≤1048576→d<k→mF k i ws y t o cd=some (ws,y,0,o,cd.take i++List.replicate d false):=by
 induction d with
 |zero=>
  intro k i cd hi hl hk;obtain ⟨k,rfl⟩: ∃m,k=m+1:=⟨k - 1,by omega⟩;rw [mF,if_neg (by omega),tO (by omega)];simp
 |succ d ih=>
  intro k i cd hi hl hk;obtain ⟨k,rfl⟩: ∃m,k=m+1:=⟨k - 1,by omega⟩;rw [mF,if_pos (by omega),if_pos (by omega),pQ (n:=1048577) (by omega) (by omega) (by omega),dF];have:=ih k (i+1) (cd.set i false) (by rw [dV];omega) (by rw [dV];omega) (by omega)
  rw [show ((i+1:Nat):Int)=(i:Int)+1 by omega] at this;rw [this,bFe _ _ _ (by omega)];simp [List.replicate_succ]
theorem bSh {y t o:Int} {cd:List Bool} (hc:cd.length≤1048576) (d:Nat): ∀(k i:Nat) (ws:List Int),((i+d:Nat):Int)=y→i+d≤ws.length→ws.length≤1048576→cd.length+d+1<k→kJ k i ws y t o cd=some (ws.take i++List.replicate d 0++ws.drop (i+d),y,0,o,List.replicate cd.length false):=by
 induction d with
 |zero=>
  intro k i ws hi hl hw hk;obtain ⟨k,rfl⟩: ∃m,k=m+1:=⟨k - 1,by omega⟩;have:=bSg (ws:=ws) (y:=y) (t:=t) (o:=o) cd.length k 0 cd (by omega) hc (by omega)
  rw [kJ,if_neg (by omega),show (0:Int)=((0:Nat):Int) from rfl,this];simp
 |succ d ih=>
  intro k i ws hi hl hw hk;obtain ⟨k,rfl⟩: ∃m,k=m+1:=⟨k - 1,by omega⟩;rw [kJ,if_pos (by omega),if_pos (by omega),if_pos (by omega),pQ (n:=1048577) (by omega) (by omega) (by omega),dF];have:=ih k (i+1) (ws.set i 0) (by omega) (by rw [dV];omega) (by rw [dV];omega) (by omega)
  rw [show ((i+1:Nat):Int)=(i:Int)+1 by omega] at this;rw [this,bFe _ _ _ (by omega),List.drop_set_of_lt (by omega)];simp [List.replicate_succ,show i+1+d=i+(d+1) by omega]
theorem bSi {ws:List Int} {y t o:Int} {cd:List Bool} (y0:0≤y) (hy:y≤ws.length) (hw:ws.length≤1048576) (hc:cd.length≤1048576) (k:Nat) (hk:4000000≤k):rT k ws y t o cd=some (List.replicate y.toNat 0++ws.drop y.toNat,y,0,o,List.replicate cd.length false):=by
 have:=bSh (y:=y) (t:=t) (o:=o) hc y.toNat k 0 ws (by omega) (by omega) hw (by omega)
 unfold rT;rw [show (0:Int)=((0:Nat):Int) from rfl,this];simp
section
variable {cs:Cs} {ws:List Int} {y t o:Int} {cards:List Bool} {W:List Int}
theorem bBu (H:Opn cs ws y t o cards W):bMd (mZ cs ws) y ((qI cs ws y o).map fun x=>(x,x))=o:=by
 have h:=H.start0.chn;unfold bAa bKv at h;rw [mP,tX] at h;exact h.fin
theorem bIt (H:Opn cs ws y t o cards W) (kf:Nat) (hkf:200≤kf): ∀(d m q:Nat) (i:Int) (s:Xv) (A:Am),201≤d+m→d<q→m≤A.mv.length→AI cs ws y o W A→i=bMd (mZ cs ws) y (bAa (qI cs ws y o) (A.mv.take m))→SI cs ws y t o cards i s A→
  ∃s',bHf kf cs q i s=some s'∧SI cs ws y t o cards (bMu cs ws y cards d m A).o s' (bMu cs ws y cards d m A)
 |0,m,q,i,s,A,hd,_,hm,a,_,_=>by have:=a.len H;omega
 | d + 1, m, q, i, s, A, hd, hq, hm, a, hi, h => by
  obtain ⟨q,rfl⟩: ∃z,q=z+1:=⟨q - 1,by omega⟩;have n0:=H.b.n0;have n1:=H.b.n1;have y0:=H.b.y0;have y1:=H.b.y1;have tp:=a.top
  have e0:bAa (qI cs ws y o) A.mv=bAa (qI cs ws y o) (A.mv.take m)++(A.mv.drop m).map (fun p=>(p.2 - 1,p.1 - 1)):=by
   unfold bAa;rw [vL,←nA,List.take_append_drop]
  have hc:=a.chn;rw [e0] at hc;have hc2:=hc.split;rw [←hi] at hc2;rw [bHf,bMu];by_cases c:A.mv.length≤m
  ·rw [hZ c] at hc2
   have hc2:i=A.o:=hc2
   rw [if_pos c,if_neg (by rw [h.ho];omega)];exact ⟨s,rfl,by rw [hc2] at h;exact h⟩
  ·have hlt : m < A.mv.length := by omega
   rw [fO hlt,gU] at hc2;rw [if_neg c,bRf hlt];have hmem:=jZ hlt;obtain ⟨p,hp⟩: ∃p,p=A.mv[m]:=⟨_,rfl⟩;rw [←hp] at hmem hc2 ⊢;obtain ⟨hc3,hc4⟩:=hc2;have hc3:p.2 - 1=i:=hc3
   have ha:=bAc (cs:=cs) (ws:=ws) (y:=y) (o:=o) hmem;have hq2:=a.atL H ha;rw [hc3] at ha hq2
   have hoi:o≤i:=by
    have h1:=a.chn;unfold bAa at h1;have h2:=h1.split;rw [bBu H] at h2;have:=(bMt.mem h2 (fun z hz=>(a.pos H z (mK _ hz)).2)).2 _ (List.mem_map.mpr ⟨p,hmem,rfl⟩)
    dsimp only at this;omega
   rw [if_pos (by rw [h.ho];omega)];obtain ⟨s1,e1,h1⟩:=bFq H a ha (cd:=false) (.inr ⟨rfl,hoi⟩) h kf hkf;obtain ⟨ex,a1,_⟩:=bCh H hq2.1 false A;have a1:=a1 a;obtain ⟨l,hl⟩:=ex.pre;obtain ⟨_,hs⟩:=h1.size H a1 (ha.ext ex);rw [e1,bC,hs kf (by omega),bC,if_pos ⟨by omega,by omega,by omega⟩];refine bIt H kf hkf d (m+1) q _ s1 _ (by omega) (by omega) (by rw [hl,cH];omega) a1 ?_ h1
   have e2:(bIi cs ws y cards false A (p.1 - 1)).mv.take (m+1)=A.mv.take m++[p]:=by
    rw [hl,tD (by omega),mO hlt,hp]
   rw [e2];unfold bAa at hi ⊢;rw [nA,←vL,bSc,←hi];rfl
theorem bNj (H:Opn cs ws y t o cards W) {roots:List Int} (hr: ∀v∈roots,v=0∨v - 1∈W) (hl:roots.length≤4000000) (k:Nat) (hk:4000000≤k):
  ((mJ cs ws y o cards roots).full=true→bDx k cs ws y t o cards roots=some none)∧
  ((mJ cs ws y o cards roots).full = false → ∃ tw D, WI cs ws y o (mJ cs ws y o cards roots) D tw ∧ (∀ j, D j ↔ DC cs ws y o cards (mJ cs ws y o cards roots) (mJ cs ws y o cards roots).o j) ∧
   bDx k cs ws y t o cards roots=some (some ((List.replicate y.toNat 0++tw.drop y.toNat,y,0,(mJ cs ws y o cards roots).o,List.replicate cards.length false),roots.map (qC (mJ cs ws y o cards roots).mv)))):=by
 have n0:=H.b.n0;have n1:=H.b.n1;have y0:=H.b.y0;have y1:=H.b.y1;have t1:=H.b.t1;have hcd:=H.b.cd;have o0:=H.b.o0;have o1:=H.b.o1;have a0:=H.start0;have hch:=a0.chn;unfold bAa at hch;rw [show (bKv o).mv=[] from rfl,mP,tX] at hch
 have h0:SI cs ws y t o cards y (bNh ws y t o cards) (bKv o):=by
  refine ⟨rfl,rfl,rfl,rfl,rfl,?_,fun a z1 z2=>?_,o0,fun _=>False,WI.start H,fun i x r _ _ _ q=>q.elim,fun _ j=>⟨fun q=>q.elim,fun ⟨z1,i,x,q,ha,q0,_,_,e,_⟩=>?_⟩⟩
  ·unfold bNh;dsimp only;rw [fI];omega
  ·unfold bNh rd; dsimp only
   rw [bP,zK,if_pos (by omega)];rfl
  ·have := a0.atL H ha
   omega
 obtain ⟨s1,out,e1,h1,o1'⟩:=bBq H k (by omega) roots [] _ _ hr a0 h0;obtain ⟨x1,a1,k1⟩:=yJ H roots (bKv o) hr;have a1:=a1 a0;obtain ⟨s2,e2,h2⟩:=bHj H k (by omega) (qI cs ws y o) y s1 _ (fun x hx=>hx) hch a1 h1;obtain ⟨x2,a2,_⟩:=bEr H true (qI cs ws y o) (roots.foldl (bAd cs ws y) (bKv o)) (fun x hx=>(H.old hx).1);have a2:=a2 a1
 obtain ⟨s3,e3,h3⟩:=bIt H k (by omega) 201 0 k o s2 _ (by omega) (by omega) (by omega) a2 (by
  unfold bAa;rw [List.take_zero,mP,tX]
  exact (bBu H).symm) h2
 obtain ⟨x3,a3,c3⟩:=bKm H 201 0 _ (by omega) a2 (by omega) (fun j hj h=>by omega)
 have ePart:mR k cs ws y o=some (qI cs ws y o,(pw ws (gI cs) o (o - y).toNat y).2):=by
  unfold mR;rw [bCl H.b.ok (by omega) (by omega) (o - y).toNat y [] k (by omega) (by omega) (by omega) (by simp;omega)];rfl
 obtain ⟨A,hA⟩: ∃A,A=mJ cs ws y o cards roots:=⟨_,rfl⟩;rw [←hA];have hA2:bMu cs ws y cards 201 0 ((qI cs ws y o).foldl (bIi cs ws y cards true) (roots.foldl (bAd cs ws y) (bKv o)))=A:=by rw [hA];rfl
 rw [hA2] at h3 x3 a3
 have eM:bDx k cs ws y t o cards roots=if s3.ok=false then some none else (rT k s3.ws s3.y s3.t s3.o s3.cd).bind fun c=>some (some (c,out)):=by
  unfold bDx;rw [if_pos ⟨by omega,y0,by omega,by omega,by omega,hl⟩,ePart,bC,e1,bC]
  dsimp only
  rw [e2,bC,e3,bC]
 rw [eM,h3.hk];refine ⟨fun f=>by rw [f];rfl,fun f=>?_⟩;obtain ⟨D,w,dl,dd⟩:=h3.w;have wl:=w.len;refine ⟨s3.ws,D,w,dd f,?_⟩;rw [f,if_neg (by simp),h3.hy,h3.ho,h3.hc,bSi y0 (by omega) (by omega) (by omega) k hk,bC];have f2:=x3.nf f;have f1:=x2.nf f2
 have eo:out=roots.map (qC A.mv):=by
  rw [o1' f1,pJ];refine List.map_congr_left (fun v hv=>?_);have kn:=(k1 v hv).resolve_right (by rw [f1];simp);rw [bEs a1 a3 (x2.trans x3) kn]
 rw [eo]
theorem bNk (H:Opn cs ws y t o cards W) {A:Am} (a:AI cs ws y o W A) {tw tw':List Int} {D:Int→Prop} (h:WI cs ws y o A (DA cs ws y o A) tw) (h':WI cs ws y o A D tw') (hD: ∀j,D j↔DC cs ws y o cards A A.o j):tw'=tw:=by
 refine WI.same H a h' h (fun i x r ha r0 r1=>?_);have q:=a.atL H ha;by_cases c:ld cs ws x r=true
 ·by_cases c2 : i < o → kK false cards ((i + r - y) / 4) = true
  ·refine .inl ⟨fun _=>⟨i,x,r,ha,r0,r1,c,rfl⟩,fun _=>(hD _).mpr ⟨by omega,i,x,r,ha,r0,r1,c,rfl,c2⟩⟩
  ·refine .inr ?_
   have hio:i<o:=bF (fun z=>c2 (fun z2=>absurd z2 z))
   have hnc: ¬kK false cards ((i+r - y)/4)=true:=fun z=>c2 (fun _=>z)
   obtain ⟨_,_,hv,hk⟩:=H.lead q.1 r1 c;refine tA a ?_;rcases ha.or with ⟨rfl,z⟩|⟨p,hp,e1,e2⟩
   ·rcases hv with hv | hv
    ·exact .inl hv
    ·have := rW H.wlk hv
     refine .inr (bF (fun z2=>hnc (hk q.2.2.1 (by omega) (by omega))))
   ·exfalso
    have h1:=a.chn;unfold bAa at h1;have h2:=h1.split;rw [bBu H] at h2;have:=(bMt.mem h2 (fun z hz=>(a.pos H z (mK _ hz)).2)).2 _ (List.mem_map.mpr ⟨p,hp,rfl⟩)
    dsimp only at this;omega
 ·refine .inl ⟨fun z => ?_, fun z => ?_⟩
  ·obtain ⟨_, i', x', q', ha', q0', q1', hl', e', _⟩ := (hD _).mp z
   obtain ⟨e1,e2⟩:=a.one H ha ha' (j:=i+r) (by omega) (by omega) (by omega) (by omega);subst e1 e2;obtain rfl:q'=r:=by omega
   exact absurd hl' c
  ·obtain ⟨i', x', q', ha', q0', q1', hl', e'⟩ := z
   obtain ⟨e1,e2⟩:=a.one H ha ha' (j:=i+r) (by omega) (by omega) (by omega) (by omega);subst e1 e2;obtain rfl:q'=r:=by omega
   exact absurd hl' c
end
def yU (W:List Int) (roots:List Int):Bool:=roots.all (fun v=>decide (v=0)||decide (v - 1∈W))
theorem bDr {W roots:List Int}:yU W roots=true↔∀v∈roots,v=0∨v - 1∈W:=by
 unfold yU;rw [nY];exact ⟨fun h v hv=>by have:=h v hv;rw [rZ,tM,tM] at this;exact this,fun h v hv=>by rw [rZ,tM,tM];exact h v hv⟩
theorem bFs {cs:Cs} {ws W:List Int} (hw:Wlk cs ws W) (m:Mm) (hm:m.begins=W.map (· +1)) (k:Nat) (hk:300≤k): ∀roots:List Int,sY k m roots=some (yU W roots)
 |[]=>rfl
 | v :: r => by
  have e:bHg k m v=some (decide (v=0)||decide (v - 1∈W)):=by
   unfold bHg;by_cases c:v=0
   ·rw [if_pos c,bD c];rfl
   ·rw [if_neg c,bNp hw m hm v k hk,bM c,Bool.false_or]
  rw [sY,e,bC,bFs hw m hm k hk r];unfold yU;rw [List.all_cons]
  cases (decide (v=0)||decide (v - 1∈W)) with
  |true=>rfl
  |false=>rfl
theorem bLv {cs:Cs} {ws W:List Int} (hw:Wlk cs ws W) (hn:ws.length≤1048576) {roots:List Int} (hl:roots.length≤1048576) (d:Nat): ∀(k i:Nat),i+d=roots.length→d<k→mE k roots (kR W ws.length) i=some (yU W (roots.drop i)):=by
 induction d with
 |zero=>
  intro k i hi hk;obtain ⟨k,rfl⟩: ∃m,k=m+1:=⟨k - 1,by omega⟩;rw [mE,if_neg (by omega),hZ (by omega)];rfl
 |succ d ih=>
  intro k i hi hk;obtain ⟨k,rfl⟩: ∃m,k=m+1:=⟨k - 1,by omega⟩;have hlt:i<roots.length:=by omega
  have:=ih k (i+1) (by omega) (by omega)
  rw [show ((i+1:Nat):Int)=(i:Int)+1 by omega] at this;rw [mE,if_pos (by omega),if_pos (by omega),xL hlt,bOk hw hn,bC,pQ (n:=1048577) (by omega) (by omega) (by omega),this,fO hlt];unfold yU;rw [List.all_cons]
  cases (decide (roots[i]=0)||decide (roots[i] - 1∈W)) with
  |true=>rfl
  |false=>rfl
section
variable {cs:Cs} {ws:List Int} {y t o:Int} {cards:List Bool} {W:List Int}
theorem bFz (H:Opn cs ws y t o cards W) (hok: ∀k,4000000≤k→mX k cs ws y t o cards=some true) (hwk: ∀k,4000000≤k→jT k cs ws y t o cards=some (W,true)) {roots:List Int} (hl:roots.length≤1048576) (k:Nat) (hk:4000000≤k):rS k cs ws y t o cards roots=some (yU W roots):=by
 have n0:=H.b.n0;have n1:=H.b.n1;have y0:=H.b.y0;have y1:=H.b.y1;have hwl:=H.wlk.len;unfold rS;rw [hok k hk,bC,if_pos rfl,hwk k hk,bC]
 dsimp only
 rw [bIq (fun x hx=>rW H.wlk hx) (by omega) (by omega) k (by omega),bC];exact bLv H.wlk (by omega) hl roots.length k 0 (by omega) (by omega)
def bRo (y:Int) (cards:List Bool) (roots:List Int) (A:Am) (tw:List Int):List Int×Int×Int×Int×List Bool×List Int×Bool:=
  if A.full=true then ([],0,0,0,[],[],false) else (List.replicate y.toNat 0++tw.drop y.toNat,y,0,A.o,List.replicate cards.length false,roots.map (qC A.mv),true)
theorem bLz (H:Opn cs ws y t o cards W) {roots:List Int} (k:Nat) (hk:4000000≤k):bJj k k cs ws y t o cards roots=some (if yU W roots=true then some (qW cs ws y t o cards W) else none):=by
 unfold bJj;rw [H.to k hk,bC]
 dsimp only
 rw [bFs H.wlk _ rfl k (by omega),bC]
theorem bOc (H:Opn cs ws y t o cards W) (hok: ∀k,4000000≤k→mX k cs ws y t o cards=some true) (hwk: ∀k,4000000≤k→jT k cs ws y t o cards=some (W,true)) {roots:List Int} (hl:roots.length≤1048576) (hr:yU W roots=true):
  ∃tw,WI cs ws y o (mJ cs ws y o cards roots) (DA cs ws y o (mJ cs ws y o cards roots)) tw∨(mJ cs ws y o cards roots).full=true:=by
 have hv:=bDr.mp hr
 cases f:(mJ cs ws y o cards roots).full with
 |true=>exact ⟨[],.inr rfl⟩
 |false=>
  obtain ⟨tw,w,_⟩:=(bJc H hv (by omega) 4000000 (by omega)).2 f;exact ⟨tw,.inl w⟩
theorem bKr (H:Opn cs ws y t o cards W) (hok: ∀k,4000000≤k→mX k cs ws y t o cards=some true) (hwk: ∀k,4000000≤k→jT k cs ws y t o cards=some (W,true)) {roots:List Int} (hl:roots.length≤1048576) (hr:yU W roots=true) {tw:List Int}
  (hw:WI cs ws y o (mJ cs ws y o cards roots) (DA cs ws y o (mJ cs ws y o cards roots)) tw∨(mJ cs ws y o cards roots).full=true) (k:Nat) (hk:4000000≤k):
  pB k cs ws y t o cards roots=some (bRo y cards roots (mJ cs ws y o cards roots) tw)∧pA k cs ws y t o cards roots=some (bRo y cards roots (mJ cs ws y o cards roots) tw):=by
 have hv:=bDr.mp hr;have hi:=bJc H hv (by omega) k (by omega);have hs:=bNj H hv (by omega) k hk;have af:=(bAs H hv).1;unfold pB pA;rw [if_pos (by omega),bLz H k hk,hr,if_pos rfl,bC,bFz H hok hwk hl k hk,hr,bC,if_pos rfl];unfold gmOf bRo
 dsimp only
 cases f:(mJ cs ws y o cards roots).full with
 |true=>
  rw [hi.1 f,hs.1 f,if_pos rfl];exact ⟨rfl,rfl⟩
 |false=>
  have w:=hw.resolve_right (by rw [f];simp);obtain ⟨tw1,w1,e1⟩:=hi.2 f;obtain ⟨tw2,D,w2,hD,e2⟩:=hs.2 f;have q1:tw1=tw:=WI.same H af w1 w (fun i x r _ _ _=> .inl Iff.rfl)
  have q2:tw2=tw:=bNk H af w w2 hD
  rw [e1,e2,q1,q2,if_neg (by simp)];exact ⟨rfl,rfl⟩
end
theorem bIx {nw:List Int} {F:List (List Int)} {e:Int} {sz:Int→Int}: ∀(L:List (Int×Int)) (b:Int) (n:Nat),bMt sz b L e→(∀p∈L,0<sz p.2∧jV nw F e p.1=sz p.2)→(e - b).toNat≤n→pw nw F e n b=(L.map Prod.fst,true)
 |[],b,n,h,_,hn=>by
  have h:b=e:=h
  cases n with
  |zero=>rfl
  |succ n=>rw [pw,if_neg (by omega)];rfl
 |p::r,b,n,h,hp,hn=>by
  obtain ⟨h1,h2⟩:=h;have hz:=hp p (gG ..);have hm:=bMt.mem h2 (fun q hq=>(hp q (fC _ hq)).1);subst h1;obtain ⟨n,rfl⟩: ∃m,n=m+1:=⟨n - 1,by omega⟩;rw [pw,if_pos (by omega),if_neg (by omega),hz.2,bIx r _ n h2 (fun q hq=>hp q (fC _ hq)) (by omega)];rfl
section
variable {cs:Cs} {ws:List Int} {y t o:Int} {cards:List Bool} {W:List Int}
theorem bHl (H:Opn cs ws y t o cards W) {nw:List Int} {i x:Int} (hx:x∈W) (hh: ∀r,0≤r→r<mZ cs ws x→ld cs ws x r=false→rd nw (i+r)=rd ws (x+r)):rd nw i=rd ws x∧(rd ws x<0→rd nw (i+1)=rd ws (x+1))∧∀e,i+mZ cs ws x≤e→jV nw (gI cs) e i=mZ cs ws x:=by
 have k:=Opn.know H hx;have z0:=H.sz0 hx;have n1: ∀r,r<tL (rd ws x)→ld cs ws x r=false:=fun r hr=>by unfold ld;rw [bM (by omega)];rfl
 have e0:=hh 0 (by omega) z0 (n1 0 (by omega));rw [Int.add_zero,Int.add_zero] at e0
 have e1:rd ws x<0→rd nw (i+1)=rd ws (x+1):=fun c=>by
  have c2:=k.2.2.2.2.2.2 c;exact hh 1 (by omega) (by omega) (n1 1 (by omega))
 exact ⟨e0,e1,fun e he=>bNi e0 e1 z0 he⟩
theorem bPj (H:Opn cs ws y t o cards W) {nw:List Int} {e:Int} {L:List (Int×Int)} (hl:nw.length=ws.length) (hL: ∀p∈L,p.2∈W) (hc:bMt (mZ cs ws) y L e) (he:e≤ws.length) (hz: ∀j,0≤j→(j<y∨e≤j)→rd nw j=0)
  (hh: ∀p∈L,∀r,0≤r→r<mZ cs ws p.2→ld cs ws p.2 r=false→rd nw (p.1+r)=rd ws (p.2+r)) (hd: ∀p∈L,∀r,0≤r→r<mZ cs ws p.2→ld cs ws p.2 r=true→rd nw (p.1+r)=0∨rd nw (p.1+r) - 1∈L.map Prod.fst):
  Opn cs nw y 0 e (List.replicate cards.length false) (L.map Prod.fst)∧∀p∈L,mZ cs nw p.1=mZ cs ws p.2∧rd nw p.1=rd ws p.2:=by
 have n0:=H.b.n0;have n1:=H.b.n1;have y0:=H.b.y0;have y1:=H.b.y1;have hcd:=H.b.cd;have hm:=bMt.mem hc (fun p hp=>H.sz0 (hL p hp))
 have hd': ∀p∈L,mZ cs nw p.1=mZ cs ws p.2∧rd nw p.1=rd ws p.2:=fun p hp=>by
  obtain ⟨e0,_,e2⟩:=bHl H (hL p hp) (hh p hp);have:=hm.2 p hp
  refine ⟨?_,e0⟩;have:=e2 nw.length (by omega)
  unfold mZ at this ⊢;exact this
 have hpw:=bIx (nw:=nw) (F:=gI cs) L y (e - y).toNat hc (fun p hp=>⟨H.sz0 (hL p hp),(bHl H (hL p hp) (hh p hp)).2.2 e (hm.2 p hp).2⟩) (bV _);refine ⟨⟨⟨H.b.ok,y0,y1,by rw [hl];exact n0,by rw [hl];exact n1,vW _,y0,hm.1,by rw [hl];exact he,by rw [fI,hl];exact hcd⟩,fun j hj z=>?_,rfl,by rw [hpw],by rw [hpw];rfl,fun i hi k k0 k1=>?_⟩,hd'⟩
 ·have := hz (j : Int) (by omega) (by omega)
  rw [zR] at this;exact this
 ·obtain ⟨p, hp, rfl⟩ := List.mem_map.mp hi
  obtain ⟨q1,q2⟩:=hd' p hp;have hx:=hL p hp;have kw:=Opn.know H hx;rw [q1,q2] at k1;unfold Wd VOk;rw [q2];have hr:ld cs ws p.2 (tL (rd ws p.2)+k)=bDj cs (rd ws p.2) k:=by unfold ld;rw [bD (by omega),jQ,show tL (rd ws p.2)+k - tL (rd ws p.2)=k by omega]
  by_cases c:bDj cs (rd ws p.2) k=true
  ·have hv := hd p hp (tL (rd ws p.2) + k) (by omega) (by omega) (by rw [hr]; exact c)
   rw [show p.1+(tL (rd ws p.2)+k)=p.1+tL (rd ws p.2)+k by omega] at hv;rw [if_pos c];refine ⟨hv,fun _ _ v1 v2=>?_⟩;rcases hv with hv|hv
   ·omega
   ·obtain ⟨z, hz1, hz2⟩ := List.mem_map.mp hv
    have:=hm.2 z hz1
    omega
  ·have hv := hh p hp (tL (rd ws p.2) + k) (by omega) (by omega) (by rw [hr]; exact Bool.eq_false_iff.mpr c)
   rw [show p.1+(tL (rd ws p.2)+k)=p.1+tL (rd ws p.2)+k by omega,show p.2+(tL (rd ws p.2)+k)=p.2+tL (rd ws p.2)+k by omega] at hv;have hw:=H.d p.2 hx k k0 k1;unfold Wd VOk at hw;rw [if_neg c] at hw ⊢;rw [hv];exact ⟨hw.1,fun z=>absurd z c⟩
theorem bOf {tw:List Int} (y0:0≤y) {j:Int} (j0:0≤j):rd (List.replicate y.toNat 0++tw.drop y.toNat) j=if j<y then 0 else rd tw j:=by
 unfold rd;rw [bP,bP];by_cases c:j<y
 ·rw [if_pos c,jE (by rw [fI];omega),zK,if_pos (by omega)];rfl
 ·rw [if_neg c, jL (by rw [fI]; omega), fI, jI]
  congr 2
  omega
theorem bLq (H:Opn cs ws y t o cards W) {A:Am} (a:AI cs ws y o W A) {tw:List Int} (w:WI cs ws y o A (DA cs ws y o A) tw) {i x r:Int} (ha:bGo cs ws y o A i x) (r0:0≤r) (r1:r<mZ cs ws x):
  (ld cs ws x r=true→rd (List.replicate y.toNat 0++tw.drop y.toNat) (i+r)=qC A.mv (rd ws (x+r))∧Kn y A (rd ws (x+r)))∧(ld cs ws x r=false→rd (List.replicate y.toNat 0++tw.drop y.toNat) (i+r)=rd ws (x+r)):=by
 have y0:=H.b.y0;have q:=a.atL H ha;have v:=w.inn i x ha r r0 r1;rw [bOf y0 (by omega),if_neg (by omega)];refine ⟨fun c=>v.1 ⟨i,x,r,ha,r0,r1,c,rfl⟩,fun c=>v.2 ?_⟩;rintro ⟨i',x',q',ha',q0',q1',hl',e'⟩;obtain ⟨e1,e2⟩:=a.one H ha ha' (j:=i+r) (by omega) (by omega) (by omega) (by omega);subst e1 e2;obtain rfl:q'=r:=by omega
 rw [c] at hl';cases hl'
theorem now_in (H:Opn cs ws y t o cards W) {A:Am} (a:AI cs ws y o W A) {v:Int} (hv:v=0∨v - 1∈W) (k:Kn y A v):(v=0∧qC A.mv v=0)∨(v≠0∧bGo cs ws y o A (qC A.mv v - 1) (v - 1)):=by
 rcases k with k|k|k
 ·exact .inl ⟨k,by rw [tA a (.inl k),k]⟩
 ·have hw := hv.resolve_left (by have := H.b.y0; omega)
  refine .inr ⟨by have:=H.b.y0;omega,?_⟩;rw [tA a (.inr k)];exact yE (H.old_iff.mpr ⟨hw,by omega⟩)
 ·obtain ⟨b, hb⟩ := Option.isSome_iff_exists.mp k
  have hm:=yK hb;have:=a.key _ hm
  refine .inr ⟨by dsimp only at this;omega,?_⟩;unfold qC;rw [hb];exact bAc hm
theorem bNl (H:Opn cs ws y t o cards W) {A:Am} (a:AI cs ws y o W A) {tw:List Int} (w:WI cs ws y o A (DA cs ws y o A) tw):
  Opn cs (List.replicate y.toNat 0++tw.drop y.toNat) y 0 A.o (List.replicate cards.length false) ((bAa (qI cs ws y o) A.mv).map Prod.fst)∧∀i x,bGo cs ws y o A i x→mZ cs (List.replicate y.toNat 0++tw.drop y.toNat) i=mZ cs ws x∧rd (List.replicate y.toNat 0++tw.drop y.toNat) i=rd ws x:=by
 have y0:=H.b.y0;have n0:=H.b.n0;have wl:=w.len;have tp:=a.top
 have h := bPj H (nw := List.replicate y.toNat 0 ++ tw.drop y.toNat) (by rw [cH, fI, dJ]; omega) (fun p hp => (a.pos H p hp).1) a.chn tp (fun j j0 hj => by
  rw [bOf y0 j0];by_cases c:j<y
  ·rw [if_pos c]
  ·rw [if_neg c, w.out j j0 (by omega)]
   by_cases c2:j<ws.length
   ·have lo := a.lo H
    have e:o≤j:=by
     have h1:=a.chn
     have h3:o≤A.o:=by
      unfold bAa at h1;have h4:=h1.split;rw [bBu H] at h4;exact (bMt.mem h4 (fun z hz=>(a.pos H z (mK _ hz)).2)).1
     omega
    have:=H.z j.toNat (by omega) (.inr (by omega))
    unfold rd;exact this
   ·exact rd_out (by omega)) (fun p hp r r0 r1 c=>(bLq H a w hp r0 r1).2 c) (fun p hp r r0 r1 c=>by
  obtain ⟨e1,k1⟩:=(bLq H a w hp r0 r1).1 c;have hv:=(H.lead (a.pos H p hp).1 r1 c).2.2.1;rw [e1];rcases now_in H a hv k1 with z|z
  ·exact .inl z.2
  ·exact .inr (List.mem_map.mpr ⟨_,z.2,rfl⟩))
 exact ⟨h.1,fun i x ha=>h.2 (i,x) ha⟩
end
theorem bPq (xs:List Int) (hl:xs.length≤1048576) (d:Nat): ∀(k i:Nat),i+d=xs.length→d<k→nH k xs xs i=some true:=by
 induction d with
 |zero=>
  intro k i hi hk;obtain ⟨k,rfl⟩: ∃m,k=m+1:=⟨k - 1,by omega⟩;rw [nH,if_neg (by omega)]
 |succ d ih=>
  intro k i hi hk;obtain ⟨k,rfl⟩: ∃m,k=m+1:=⟨k - 1,by omega⟩;rw [nH,if_pos (by omega),if_pos (by omega),if_pos (by omega),if_pos rfl,pQ (n:=1048577) (by omega) (by omega) (by omega)];have:=ih k (i+1) (by omega) (by omega)
  rw [show ((i+1:Nat):Int)=(i:Int)+1 by omega] at this;exact this
theorem zT (xs:List Int) (hl:xs.length≤1048576) (k:Nat) (hk:1048578≤k):qQ k xs xs=some true:=by
 unfold qQ;rw [if_pos rfl];exact bPq xs hl xs.length k 0 (by omega) (by omega)
theorem bRs (ws:List Int) (y t o:Int) (cs:List Bool) (hl:cs.length≤1048576) (d:Nat): ∀(k i:Nat),i+d=cs.length→d<k→pL k i ws y t o cs ws y t o cs=some true:=by
 induction d with
 |zero=>
  intro k i hi hk;obtain ⟨k,rfl⟩: ∃m,k=m+1:=⟨k - 1,by omega⟩;rw [pL,if_neg (by omega)]
 |succ d ih=>
  intro k i hi hk;obtain ⟨k,rfl⟩: ∃m,k=m+1:=⟨k - 1,by omega⟩;rw [pL,if_pos (by omega),if_pos (by omega),if_pos (by omega),if_neg (by simp),pQ (n:=1048577) (by omega) (by omega) (by omega)];have:=ih k (i+1) (by omega) (by omega)
  rw [show ((i+1:Nat):Int)=(i:Int)+1 by omega] at this;exact this
theorem bLu (ws:List Int) (y t o:Int) (cs:List Bool) (hw:ws.length≤1048576) (hl:cs.length≤1048576) (k:Nat) (hk:1048580≤k):yD k ws y t o cs ws y t o cs=some true:=by
 unfold yD;rw [zT ws hw k (by omega),bC,if_pos rfl,if_pos rfl,if_pos rfl,if_pos rfl];obtain ⟨k,rfl⟩: ∃m,k=m+1:=⟨k - 1,by omega⟩;rw [kB,if_neg (by simp)];exact bRs ws y t o cs hl cs.length k 0 (by omega) (by omega)
section
variable {cs:Cs} {ws:List Int} {y t o:Int} {cards:List Bool} {W:List Int}
theorem bLd (h:Opn cs ws y t o cards W) (f:Nat) (hf:4000000≤f):rF f cs ws y t o cards=some (W.map (· +1)):=by
  unfold rF;rw [h.to f hf,bC];rfl
end
theorem bQx {f:Int→Int} {a b:List Int} (h:a.Perm b):(a.map f).sum=(b.map f).sum:=by
 induction h with
 |nil=>rfl
 |cons x _ ih=>simp only [gU,yH,ih]
 |swap x y l=>simp only [gU,yH];omega
 |trans _ _ h1 h2=>rw [h1,h2]
theorem bQy {f:Int→Int}: ∀{a b:List Int},a.Nodup→(∀x∈a,x∈b)→(∀x∈b,0≤f x)→(a.map f).sum≤(b.map f).sum
 | [], b, _, _, hf => by
  induction b with
  |nil=>exact vW _
  |cons x r ih=>
   have:=ih (fun _ h=>by cases h) (fun z hz=>hf z (fC _ hz))
   have:=hf x (gG ..)
   simp only [mP,List.sum_nil,gU,yH] at*;omega
 |x::r,b,hn,hs,hf=>by
  rw [List.nodup_cons] at hn;have hx:=hs x (gG ..);have hp:=List.perm_cons_erase hx;have:=bQy (a:=r) (b:=b.erase x) hn.2 (fun z hz=>(List.mem_erase_of_ne (fun e=>hn.1 (by rw [←e];exact hz))).mpr (hs z (fC _ hz))) (fun z hz=>hf z (List.mem_of_mem_erase hz))
  rw [bQx hp,gU,yH,gU,yH];omega
theorem bMt.sum {sz:Int→Int}: ∀{l:List (Int×Int)} {b e:Int},bMt sz b l e→e=b+(l.map (fun p=>sz p.2)).sum
 |[],b,e,h=>by
  have h:b=e:=h
  simp [h]
 |p::r,b,e,h=>by
  obtain ⟨h1,h2⟩:=h;have:=bMt.sum h2
  rw [this,gU,yH];omega
theorem Chn.sum {sz:Int→Int} {e:Int}: ∀(L:List Int) (i:Int),Chn sz e i L→e=i+(L.map sz).sum
 |[],i,h=>by
  have h:i=e:=h
  simp [h]
 |x::r,i,h=>by
  obtain ⟨h1,h2⟩:=h;have:=Chn.sum r _ h2
  rw [this,gU,yH,h1];omega
section
variable {cs:Cs} {ws:List Int} {y t o:Int} {cards:List Bool} {W:List Int} {A:Am}
def bBi (cs:Cs) (ws:List Int) (t:Int):List Int:=(pw ws (gI cs) t t.toNat 0).1
theorem Opn.two (H:Opn cs ws y t o cards W):W=bBi cs ws t++qI cs ws y o:=H.w
theorem Opn.young_iff (H:Opn cs ws y t o cards W) {x:Int}:x∈bBi cs ws t↔x∈W∧x<y:=by
 have t1:=H.b.t1
 constructor
 ·intro h
  have:=(yV ws (gI cs) t t.toNat 0 x h)
  exact ⟨by rw [H.w];exact vU _ h,by omega⟩
 ·intro h
  rcases Opn.part H h.1 with hp|hp
  ·exact hp.2.2.2
  ·omega
theorem AI.split (H:Opn cs ws y t o cards W) (a:AI cs ws y o W A):bMt (mZ cs ws) o (A.mv.map fun p=>(p.2 - 1,p.1 - 1)) A.o:=by
 have h1:=a.chn;unfold bAa at h1;have h2:=h1.split;rw [bBu H] at h2;exact h2
theorem AI.behind (H:Opn cs ws y t o cards W) (a:AI cs ws y o W A) {p:Int×Int} (hp:p∈A.mv):o≤p.2 - 1:=
  ((bMt.mem (a.split H) (fun z hz=>(a.pos H z (mK _ hz)).2)).2 _ (List.mem_map.mpr ⟨p,hp,rfl⟩)).1
theorem AI.keys (a:AI cs ws y o W A):(A.mv.map (fun p=>p.1 - 1)).Nodup:=by
 have h:=a.nod;unfold List.Nodup at h ⊢;rw [List.pairwise_map] at h ⊢;exact h.imp (fun q=>by omega)
theorem AI.room (H:Opn cs ws y t o cards W) (a:AI cs ws y o W A):o≤A.o∧A.o - o≤t∧A.mv.length≤(bBi cs ws t).length:=by
 have hs:=(a.split H).sum;have t0:=H.b.t0;have t1:=H.b.t1;have n0:=H.b.n0;have n1:=H.b.n1;have hy:=(bNd ws (gI cs) t ws.length (by omega) t.toNat 0 (by omega) (by omega) H.w1).sum
 have hin: ∀x∈A.mv.map (fun p=>p.1 - 1),x∈bBi cs ws t:=fun x hx=>by
  obtain ⟨p,hp,rfl⟩:=List.mem_map.mp hx;have k:=a.key p hp;exact H.young_iff.mpr ⟨k.2.2,by omega⟩
 have h1:=bQy (f:=mZ cs ws) a.keys hin (fun x hx=>by have:=H.sz0 (H.young_iff.mp hx).1;omega);have h2:=List.Nodup.length_le_of_subset a.keys hin;rw [List.map_map] at h1;rw [List.map_map] at hs;rw [dP] at h2;refine ⟨(bMt.mem (a.split H) (fun z hz=>(a.pos H z (mK _ hz)).2)).1,?_,h2⟩;have e1:((fun p:Int×Int=>mZ cs ws p.2) ∘ fun p:Int×Int=>(p.2 - 1,p.1 - 1))=(mZ cs ws ∘ fun p:Int×Int=>p.1 - 1):=rfl
 rw [e1] at hs
 have e2:((bBi cs ws t).map (mZ cs ws)).sum=t:=by
  have:t=0+((bBi cs ws t).map (mZ cs ws)).sum:=hy
  omega
 omega
end
def zC (y:Int) (l:List Int):List Int:=l.filter (fun x=>decide (y<x))
theorem bPw (y:Int) (l:List Int) (i:Nat) (h:i<l.length):zC y (l.take (i+1))=if y<rd l i then zC y (l.take i)++[rd l i] else zC y (l.take i):=by
 unfold zC;rw [mO h,List.filter_append,xL h];by_cases c:y<l[i]
 ·rw [if_pos c];simp [c]
 ·rw [if_neg c];simp [c]
theorem bRz (y:Int) (l:List Int):zC y (l.take l.length)=zC y l:=by rw [List.take_length]
theorem bRy (y:Int) (l:List Int):(zC y l).length≤l.length:=List.length_filter_le _ _
theorem bLp {cs : Cs} (hf : bMc cs) {ws : List Int} {y t o : Int} {cards : List Bool} (hn : ws.length ≤ 1000) (hc : cards.length ≤ 1000) {roots : List Int} (hr : roots.length ≤ 100) :
    ∃ (p1 : List Int) (p2 p3 p4 : Int) (p5 : List Bool) (p6 : List Int) (p7 : Bool), (p1.length ≤ 1000 ∧ p5.length ≤ 1000 ∧ p6.length ≤ 100) ∧ (pB 5000000 cs ws y t o cards roots = some (p1, p2, p3, p4, p5, p6, p7)) ∧ (pA 5000000 cs ws y t o cards roots = some (p1, p2, p3, p4, p5, p6, p7)) ∧
      yD 5000000 p1 p2 p3 p4 p5 p1 p2 p3 p4 p5=some true∧qQ 5000000 p6 p6=some true∧
      (p7=true→∃wl tl:List Int,(wl.length≤1000∧tl.length≤wl.length∧p6.length=roots.length)∧rF 5000000 cs ws y t o cards=some wl∧rF 5000000 cs p1 p2 p3 p4 p5=some tl∧
        ((zC y wl).length≤tl.length∧tl.take (zC y wl).length=zC y wl)∧qQ 5000000 (zC y wl) (zC y wl)=some true∧
        (0≤p4∧p4≤1000∧0≤o∧o≤1000∧0≤t∧t≤1000∧0≤y∧y≤1000∧p4 - o≤t)∧∀i:Nat,i<roots.length→(y<rd roots i→rd p6 i=rd roots i)∧(0<rd roots i→rd roots i≤y→o<rd p6 i)):=by
  obtain ⟨m,h1,h2,h3⟩:=opn_of hf (y:=y) (t:=t) (o:=o) (show ws.length≤1048576 by omega) (show cards.length≤1048576 by omega);refine bF (fun hg=>?_)
  have bad:pB 5000000 cs ws y t o cards roots=some ([],0,0,0,[],[],false)→pA 5000000 cs ws y t o cards roots=some ([],0,0,0,[],[],false)→False:=fun e1 e2=>
    hg ⟨[],0,0,0,[],[],false,⟨by simp,by simp,by simp⟩,e1,e2,bLu _ _ _ _ _ (by simp) (by simp) 5000000 (by decide),zT _ (by simp) 5000000 (by decide),fun q=>by cases q⟩
  cases m with
  | none =>
    refine bad ?_ ?_
    · unfold pB bJj
      rw [if_pos (by omega),h1 5000000 (by decide)];rfl
    · unfold pA rS
      rw [h2 5000000 (by decide)];rfl
  | some m =>
    obtain ⟨W,H,hm,hk⟩:=h3 m rfl
    cases hb:yU W roots with
    | false =>
      refine bad ?_ ?_
      · unfold pB
        rw [if_pos (by omega),bLz H 5000000 (by decide),hb];rfl
      · unfold pA
        rw [bFz H h2 hk (by omega) 5000000 (by decide),hb];rfl
    | true =>
      obtain ⟨tw,hw⟩:=bOc H h2 hk (by omega) hb;obtain ⟨e1,e2⟩:=bKr H h2 hk (by omega) hb hw 5000000 (by decide);have hv:=bDr.mp hb;obtain ⟨a,hc2⟩:=bAs H hv
      cases f:(mJ cs ws y o cards roots).full with
      | true =>
        unfold bRo at e1 e2;rw [if_pos f] at e1 e2;exact bad e1 e2
      | false =>
        have w:=hw.resolve_right (by rw [f];simp);obtain ⟨_,kn⟩:=hc2 f;unfold bRo at e1 e2;rw [if_neg (by rw [f];simp)] at e1 e2;obtain ⟨A,hA⟩: ∃A,A=mJ cs ws y o cards roots:=⟨_,rfl⟩;rw [←hA] at e1 e2 a w kn f;clear hA hc2 hw bad;have wl:=w.len;have n0:=H.b.n0;have n1:=H.b.n1;have y0:=H.b.y0;have y1:=H.b.y1;have t0:=H.b.t0;have t1:=H.b.t1;have o0:=H.b.o0;have o1:=H.b.o1;obtain ⟨K,_⟩:=bNl H a w;have rm:=a.room H;have tp:=a.top;have hlW:W.length=(bBi cs ws t).length+(qI cs ws y o).length:=by rw [H.two,cH]
        have hWl:=H.wlk.len
        have hfil:zC y (W.map (· +1))=(qI cs ws y o).map (· +1):=by
          unfold zC;rw [H.two,nA,List.filter_append]
          have z1:((bBi cs ws t).map (· +1)).filter (fun x=>decide (y<x))=[]:=by
            rw [List.filter_eq_nil_iff];intro x hx;obtain ⟨z,hz,rfl⟩:=List.mem_map.mp hx;have:=(H.young_iff.mp hz).2
            simp only [dI]
            omega
          have z2:((qI cs ws y o).map (· +1)).filter (fun x=>decide (y<x))=(qI cs ws y o).map (· +1):=by
            rw [List.filter_eq_self];intro x hx;obtain ⟨z,hz,rfl⟩:=List.mem_map.mp hx;have:=(H.old hz).2
            simp only [dI]
            omega
          rw [z1,z2,pJ]
        have htl:((bAa (qI cs ws y o) A.mv).map Prod.fst).map (· +1)=(qI cs ws y o).map (· +1)++A.mv.map (fun p=>p.2):=by
          unfold bAa;rw [nA,nA,List.map_map,List.map_map]
          congr 1
          · simp only [List.map_map]
            refine List.map_congr_left (fun p _=>?_);show p.2 - 1+1=p.2
            omega
        refine hg ⟨_,_,_,_,_,_,_,⟨?_,by rw [fI];exact hc,by rw [dP];exact hr⟩,e1,e2,bLu _ _ _ _ _ ?_ (by rw [fI];omega) 5000000 (by decide),zT _ (by rw [dP];omega) 5000000 (by decide),fun _=>⟨W.map (· +1),((bAa (qI cs ws y o) A.mv).map Prod.fst).map (· +1),⟨by rw [dP];omega,?_,by rw [dP]⟩,bLd H 5000000 (by decide),bLd K 5000000 (by decide),⟨?_,?_⟩,zT _ ?_ 5000000 (by decide),⟨by omega,by omega,by omega,by omega,by omega,by omega,by omega,by omega,by omega⟩,fun i hi=>?_⟩⟩
        · rw [cH,fI,dJ];omega
        · rw [cH,fI,dJ];omega
        · rw [htl,cH,dP,dP,dP];omega
        · rw [hfil,htl,cH];omega
        · rw [hfil, htl]
          exact List.take_left' rfl
        · rw [hfil,dP];omega
        · have e : rd (roots.map (qC A.mv)) (i : Int) = qC A.mv (rd roots (i : Int)) := by
            rw [xL (by rw [dP];exact hi),xL hi,List.getElem_map]
          have k:=kn (rd roots (i:Int)) (by rw [xL hi];exact jZ hi);rw [e];refine ⟨fun q=>tA a (.inr q),fun q1 q2=>?_⟩;have k:=(k.resolve_left (by omega)).resolve_left (by omega);obtain ⟨b,hb2⟩:=Option.isSome_iff_exists.mp k;have:=a.behind H (yK hb2)
          unfold qC;rw [hb2];show o<b
          dsimp only at this;omega
theorem bSb {cs:Cs} (h: ∀x∈cs,x.f1.length≤3):bMc cs:=by
 intro i;unfold rU cY;by_cases c:i.toNat<cs.length
 ·rw [bP, bT c]
  have:=h _ (jZ c)
  simp only [Option.getD_some]
  omega
 ·rw [bP, jW (by omega)]
  simp only [Option.getD_none]
  exact hU _
end Go.Proofs.Ytbaklikaoleplaa.Pure
