import Derived.Test.YtbaklikaoleplaaPg24
import Derived.Test.YtbaklikaoleplaaPg36
import Derived.Test.YtbaklikaoleplaaPg32
import Derived.Test.YtbaklikaoleplaaPg35
import Derived.Test.YtbaklikaoleplaaPg29
import Derived.Test.YtbaklikaoleplaaPg28
import Derived.Test.YtbaklikaoleplaaPg38
import Derived.Test.YtbaklikaoleplaaPg39
import Derived.Test.YtbaklikaoleplaaPg30
import Derived.Test.YtbaklikaoleplaaPg34
import Derived.Test.YtbaklikaoleplaaPg31
import Derived.Test.YtbaklikaoleplaaPg37
namespace Go.Proofs.Ytbaklikaoleplaa.Pure
open Go.RowKit Go.Proofs.Ytbaklikaoleplaa.K Go.Proofs.YtbaklikaoleplaaW.PrintWords Go.Proofs.YtbaklikaoleplaaW.PrintLast Go.Proofs.YtbaklikaoleplaaW.PrintMore
set_option linter.unusedVariables false
set_option linter.unusedSimpArgs false
def endL (sz:Int→Int) (b:Int) (l:List (Int×Int)):Int:=l.foldl (fun b p=>b+sz p.2) b
theorem Chl.fin {sz:Int→Int}: ∀{l:List (Int×Int)} {b e:Int},Chl sz b l e→endL sz b l=e
 |[],b,e,h=>h
 |p::r,b,e,h=>by
  obtain ⟨h1,h2⟩:=h;exact h2.fin
theorem Chl.split {sz:Int→Int}: ∀{l:List (Int×Int)} {b e:Int} {q:List (Int×Int)},Chl sz b (l++q) e→Chl sz (endL sz b l) q e
 |[],b,e,q,h=>h
 |p::r,b,e,q,h=>by
  obtain ⟨h1,h2⟩:=h;exact Chl.split (l:=r) (b:=b+sz p.2) h2
theorem endL_add (sz:Int→Int) (b:Int) (l q:List (Int×Int)):endL sz b (l++q)=endL sz (endL sz b l) q:=by unfold endL;rw [List.foldl_append]
theorem take_set1 {α:Type} (v:α): ∀(l:List α) (i:Nat),i<l.length→(l.set i v).take (i+1)=l.take i++[v]
 |[],i,h=>by simp at h
 |x::r,0,_=>by simp
 |x::r,i+1,h=>by
  rw [List.set_cons_succ,List.take_succ_cons,List.take_succ_cons,List.cons_append,take_set1 v r i (by simpa using h)]
theorem clean_l1 {ws:List Int} {y t o:Int} (d:Nat): ∀(k i:Nat) (cd:List Bool),i+d=cd.length→cd.length≤1048576→d<k→spec_l22Clean.l1 k i ws y t o cd=some (ws,y,0,o,cd.take i++List.replicate d false):=by
 induction d with
 |zero=>
  intro k i cd hi hl hk;obtain ⟨k,rfl⟩: ∃m,k=m+1:=⟨k - 1,by omega⟩;rw [spec_l22Clean.l1,if_neg (by omega),List.take_of_length_le (by omega)];simp
 |succ d ih=>
  intro k i cd hi hl hk;obtain ⟨k,rfl⟩: ∃m,k=m+1:=⟨k - 1,by omega⟩;rw [spec_l22Clean.l1,if_pos (by omega),if_pos (by omega),wrap_inc (n:=1048577) (by omega) (by omega) (by omega),Int.toNat_natCast];have:=ih k (i+1) (cd.set i false) (by rw [List.length_set];omega) (by rw [List.length_set];omega) (by omega)
  rw [show ((i+1:Nat):Int)=(i:Int)+1 by omega] at this;rw [this,take_set1 _ _ _ (by omega)];simp [List.replicate_succ]
theorem clean_l0 {y t o:Int} {cd:List Bool} (hc:cd.length≤1048576) (d:Nat): ∀(k i:Nat) (ws:List Int),((i+d:Nat):Int)=y→i+d≤ws.length→ws.length≤1048576→cd.length+d+1<k→spec_l22Clean.l0 k i ws y t o cd=some (ws.take i++List.replicate d 0++ws.drop (i+d),y,0,o,List.replicate cd.length false):=by
 induction d with
 |zero=>
  intro k i ws hi hl hw hk;obtain ⟨k,rfl⟩: ∃m,k=m+1:=⟨k - 1,by omega⟩;have:=clean_l1 (ws:=ws) (y:=y) (t:=t) (o:=o) cd.length k 0 cd (by omega) hc (by omega)
  rw [spec_l22Clean.l0,if_neg (by omega),show (0:Int)=((0:Nat):Int) from rfl,this];simp
 |succ d ih=>
  intro k i ws hi hl hw hk;obtain ⟨k,rfl⟩: ∃m,k=m+1:=⟨k - 1,by omega⟩;rw [spec_l22Clean.l0,if_pos (by omega),if_pos (by omega),if_pos (by omega),wrap_inc (n:=1048577) (by omega) (by omega) (by omega),Int.toNat_natCast];have:=ih k (i+1) (ws.set i 0) (by omega) (by rw [List.length_set];omega) (by rw [List.length_set];omega) (by omega)
  rw [show ((i+1:Nat):Int)=(i:Int)+1 by omega] at this;rw [this,take_set1 _ _ _ (by omega),List.drop_set_of_lt (by omega)];simp [List.replicate_succ,show i+1+d=i+(d+1) by omega]
theorem clean_eq {ws:List Int} {y t o:Int} {cd:List Bool} (y0:0≤y) (hy:y≤ws.length) (hw:ws.length≤1048576) (hc:cd.length≤1048576) (k:Nat) (hk:4000000≤k):spec_l22Clean.f k ws y t o cd=some (List.replicate y.toNat 0++ws.drop y.toNat,y,0,o,List.replicate cd.length false):=by
 have:=clean_l0 (y:=y) (t:=t) (o:=o) hc y.toNat k 0 ws (by omega) (by omega) hw (by omega)
 unfold spec_l22Clean.f;rw [show (0:Int)=((0:Nat):Int) from rfl,this];simp
section
variable {cs:Cs} {ws:List Int} {y t o:Int} {cards:List Bool} {W:List Int}
theorem olds_end (H:Opn cs ws y t o cards W):endL (szN cs ws) y ((oldW cs ws y o).map fun x=>(x,x))=o:=by
 have h:=H.start0.chn;unfold locs am0 at h;rw [List.map_nil,List.append_nil] at h;exact h.fin
theorem scan_spec (H:Opn cs ws y t o cards W) (kf:Nat) (hkf:200≤kf): ∀(d m q:Nat) (i:Int) (s:Xv) (A:Am),201≤d+m→d<q→m≤A.mv.length→AI cs ws y o W A→i=endL (szN cs ws) y (locs (oldW cs ws y o) (A.mv.take m))→SI cs ws y t o cards i s A→
  ∃s',scanS kf cs q i s=some s'∧SI cs ws y t o cards (chA cs ws y cards d m A).o s' (chA cs ws y cards d m A)
 |0,m,q,i,s,A,hd,_,hm,a,_,_=>by have:=a.len H;omega
 | d + 1, m, q, i, s, A, hd, hq, hm, a, hi, h => by
  obtain ⟨q,rfl⟩: ∃z,q=z+1:=⟨q - 1,by omega⟩;have n0:=H.b.n0;have n1:=H.b.n1;have y0:=H.b.y0;have y1:=H.b.y1;have tp:=a.top
  have e0:locs (oldW cs ws y o) A.mv=locs (oldW cs ws y o) (A.mv.take m)++(A.mv.drop m).map (fun p=>(p.2 - 1,p.1 - 1)):=by
   unfold locs;rw [List.append_assoc,←List.map_append,List.take_append_drop]
  have hc:=a.chn;rw [e0] at hc;have hc2:=hc.split;rw [←hi] at hc2;rw [scanS,chA];by_cases c:A.mv.length≤m
  ·rw [List.drop_eq_nil_of_le c] at hc2
   have hc2:i=A.o:=hc2
   rw [if_pos c,if_neg (by rw [h.ho];omega)];exact ⟨s,rfl,by rw [hc2] at h;exact h⟩
  ·have hlt : m < A.mv.length := by omega
   rw [List.drop_eq_getElem_cons hlt,List.map_cons] at hc2;rw [if_neg c,rd_at hlt];have hmem:=List.getElem_mem hlt;obtain ⟨p,hp⟩: ∃p,p=A.mv[m]:=⟨_,rfl⟩;rw [←hp] at hmem hc2 ⊢;obtain ⟨hc3,hc4⟩:=hc2;have hc3:p.2 - 1=i:=hc3
   have ha:=atL_mv (cs:=cs) (ws:=ws) (y:=y) (o:=o) hmem;have hq2:=a.atL H ha;rw [hc3] at ha hq2
   have hoi:o≤i:=by
    have h1:=a.chn;unfold locs at h1;have h2:=h1.split;rw [olds_end H] at h2;have:=(Chl.mem h2 (fun z hz=>(a.pos H z (List.mem_append_right _ hz)).2)).2 _ (List.mem_map.mpr ⟨p,hmem,rfl⟩)
    dsimp only at this;omega
   rw [if_pos (by rw [h.ho];omega)];obtain ⟨s1,e1,h1⟩:=thingF_spec H a ha (cd:=false) (.inr ⟨rfl,hoi⟩) h kf hkf;obtain ⟨ex,a1,_⟩:=thW_ext H hq2.1 false A;have a1:=a1 a;obtain ⟨l,hl⟩:=ex.pre;obtain ⟨_,hs⟩:=h1.size H a1 (ha.ext ex);rw [e1,Option.bind_some,hs kf (by omega),Option.bind_some,if_pos ⟨by omega,by omega,by omega⟩];refine scan_spec H kf hkf d (m+1) q _ s1 _ (by omega) (by omega) (by rw [hl,List.length_append];omega) a1 ?_ h1
   have e2:(thW cs ws y cards false A (p.1 - 1)).mv.take (m+1)=A.mv.take m++[p]:=by
    rw [hl,List.take_append_of_le_length (by omega),List.take_succ_eq_append_getElem hlt,hp]
   rw [e2];unfold locs at hi ⊢;rw [List.map_append,←List.append_assoc,endL_add,←hi];rfl
theorem minor_spec (H:Opn cs ws y t o cards W) {roots:List Int} (hr: ∀v∈roots,v=0∨v - 1∈W) (hl:roots.length≤4000000) (k:Nat) (hk:4000000≤k):
  ((minorA cs ws y o cards roots).full=true→minorS k cs ws y t o cards roots=some none)∧
  ((minorA cs ws y o cards roots).full = false → ∃ tw D, WI cs ws y o (minorA cs ws y o cards roots) D tw ∧ (∀ j, D j ↔ DC cs ws y o cards (minorA cs ws y o cards roots) (minorA cs ws y o cards roots).o j) ∧
   minorS k cs ws y t o cards roots=some (some ((List.replicate y.toNat 0++tw.drop y.toNat,y,0,(minorA cs ws y o cards roots).o,List.replicate cards.length false),roots.map (nowF (minorA cs ws y o cards roots).mv)))):=by
 have n0:=H.b.n0;have n1:=H.b.n1;have y0:=H.b.y0;have y1:=H.b.y1;have t1:=H.b.t1;have hcd:=H.b.cd;have o0:=H.b.o0;have o1:=H.b.o1;have a0:=H.start0;have hch:=a0.chn;unfold locs at hch;rw [show (am0 o).mv=[] from rfl,List.map_nil,List.append_nil] at hch
 have h0:SI cs ws y t o cards y (mvx0 ws y t o cards) (am0 o):=by
  refine ⟨rfl,rfl,rfl,rfl,rfl,?_,fun a z1 z2=>?_,o0,fun _=>False,WI.start H,fun i x r _ _ _ q=>q.elim,fun _ j=>⟨fun q=>q.elim,fun ⟨z1,i,x,q,ha,q0,_,_,e,_⟩=>?_⟩⟩
  ·unfold mvx0;dsimp only;rw [List.length_replicate];omega
  ·unfold mvx0 rd; dsimp only
   rw [List.getD_eq_getElem?_getD,List.getElem?_replicate,if_pos (by omega)];rfl
  ·have := a0.atL H ha
   omega
 obtain ⟨s1,out,e1,h1,o1'⟩:=rootsS_spec H k (by omega) roots [] _ _ hr a0 h0;obtain ⟨x1,a1,k1⟩:=roots_ext H roots (am0 o) hr;have a1:=a1 a0;obtain ⟨s2,e2,h2⟩:=oldsS_spec H k (by omega) (oldW cs ws y o) y s1 _ (fun x hx=>hx) hch a1 h1;obtain ⟨x2,a2,_⟩:=olds_ext H true (oldW cs ws y o) (roots.foldl (cmA cs ws y) (am0 o)) (fun x hx=>(H.old hx).1);have a2:=a2 a1
 obtain ⟨s3,e3,h3⟩:=scan_spec H k (by omega) 201 0 k o s2 _ (by omega) (by omega) (by omega) a2 (by
  unfold locs;rw [List.take_zero,List.map_nil,List.append_nil]
  exact (olds_end H).symm) h2
 obtain ⟨x3,a3,c3⟩:=chA_ext H 201 0 _ (by omega) a2 (by omega) (fun j hj h=>by omega)
 have ePart:spec_l21Part.f k cs ws y o=some (oldW cs ws y o,(pw ws (allF cs) o (o - y).toNat y).2):=by
  unfold spec_l21Part.f;rw [pw_part H.b.ok (by omega) (by omega) (o - y).toNat y [] k (by omega) (by omega) (by omega) (by simp;omega)];rfl
 obtain ⟨A,hA⟩: ∃A,A=minorA cs ws y o cards roots:=⟨_,rfl⟩;rw [←hA];have hA2:chA cs ws y cards 201 0 ((oldW cs ws y o).foldl (thW cs ws y cards true) (roots.foldl (cmA cs ws y) (am0 o)))=A:=by rw [hA];rfl
 rw [hA2] at h3 x3 a3
 have eM:minorS k cs ws y t o cards roots=if s3.ok=false then some none else (spec_l22Clean.f k s3.ws s3.y s3.t s3.o s3.cd).bind fun c=>some (some (c,out)):=by
  unfold minorS;rw [if_pos ⟨by omega,y0,by omega,by omega,by omega,hl⟩,ePart,Option.bind_some,e1,Option.bind_some]
  dsimp only
  rw [e2,Option.bind_some,e3,Option.bind_some]
 rw [eM,h3.hk];refine ⟨fun f=>by rw [f];rfl,fun f=>?_⟩;obtain ⟨D,w,dl,dd⟩:=h3.w;have wl:=w.len;refine ⟨s3.ws,D,w,dd f,?_⟩;rw [f,if_neg (by simp),h3.hy,h3.ho,h3.hc,clean_eq y0 (by omega) (by omega) (by omega) k hk,Option.bind_some];have f2:=x3.nf f;have f1:=x2.nf f2
 have eo:out=roots.map (nowF A.mv):=by
  rw [o1' f1,List.nil_append];refine List.map_congr_left (fun v hv=>?_);have kn:=(k1 v hv).resolve_right (by rw [f1];simp);rw [nowF_ext a1 a3 (x2.trans x3) kn]
 rw [eo]
theorem minor_same (H:Opn cs ws y t o cards W) {A:Am} (a:AI cs ws y o W A) {tw tw':List Int} {D:Int→Prop} (h:WI cs ws y o A (DA cs ws y o A) tw) (h':WI cs ws y o A D tw') (hD: ∀j,D j↔DC cs ws y o cards A A.o j):tw'=tw:=by
 refine WI.same H a h' h (fun i x r ha r0 r1=>?_);have q:=a.atL H ha;by_cases c:ld cs ws x r=true
 ·by_cases c2 : i < o → rdOf false cards ((i + r - y) / 4) = true
  ·refine .inl ⟨fun _=>⟨i,x,r,ha,r0,r1,c,rfl⟩,fun _=>(hD _).mpr ⟨by omega,i,x,r,ha,r0,r1,c,rfl,c2⟩⟩
  ·refine .inr ?_
   have hio:i<o:=Classical.byContradiction (fun z=>c2 (fun z2=>absurd z2 z))
   have hnc: ¬rdOf false cards ((i+r - y)/4)=true:=fun z=>c2 (fun _=>z)
   obtain ⟨_,_,hv,hk⟩:=H.lead q.1 r1 c;refine nowF_out a ?_;rcases ha.or with ⟨rfl,z⟩|⟨p,hp,e1,e2⟩
   ·rcases hv with hv | hv
    ·exact .inl hv
    ·have := wlk_range H.wlk hv
     refine .inr (Classical.byContradiction (fun z2=>hnc (hk q.2.2.1 (by omega) (by omega))))
   ·exfalso
    have h1:=a.chn;unfold locs at h1;have h2:=h1.split;rw [olds_end H] at h2;have:=(Chl.mem h2 (fun z hz=>(a.pos H z (List.mem_append_right _ hz)).2)).2 _ (List.mem_map.mpr ⟨p,hp,rfl⟩)
    dsimp only at this;omega
 ·refine .inl ⟨fun z => ?_, fun z => ?_⟩
  ·obtain ⟨_, i', x', q', ha', q0', q1', hl', e', _⟩ := (hD _).mp z
   obtain ⟨e1,e2⟩:=a.one H ha ha' (j:=i+r) (by omega) (by omega) (by omega) (by omega);subst e1 e2;obtain rfl:q'=r:=by omega
   exact absurd hl' c
  ·obtain ⟨i', x', q', ha', q0', q1', hl', e'⟩ := z
   obtain ⟨e1,e2⟩:=a.one H ha ha' (j:=i+r) (by omega) (by omega) (by omega) (by omega);subst e1 e2;obtain rfl:q'=r:=by omega
   exact absurd hl' c
end
def rootsB (W:List Int) (roots:List Int):Bool:=roots.all (fun v=>decide (v=0)||decide (v - 1∈W))
theorem rootsB_iff {W roots:List Int}:rootsB W roots=true↔∀v∈roots,v=0∨v - 1∈W:=by
 unfold rootsB;rw [List.all_eq_true];exact ⟨fun h v hv=>by have:=h v hv;rw [Bool.or_eq_true,decide_eq_true_iff,decide_eq_true_iff] at this;exact this,fun h v hv=>by rw [Bool.or_eq_true,decide_eq_true_iff,decide_eq_true_iff];exact h v hv⟩
theorem rootsOkF_eq {cs:Cs} {ws W:List Int} (hw:Wlk cs ws W) (m:Mm) (hm:m.begins=W.map (· +1)) (k:Nat) (hk:300≤k): ∀roots:List Int,rootsOkF k m roots=some (rootsB W roots)
 |[]=>rfl
 | v :: r => by
  have e:rootOk k m v=some (decide (v=0)||decide (v - 1∈W)):=by
   unfold rootOk;by_cases c:v=0
   ·rw [if_pos c,decide_eq_true c];rfl
   ·rw [if_neg c,has_eq hw m hm v k hk,decide_eq_false c,Bool.false_or]
  rw [rootsOkF,e,Option.bind_some,rootsOkF_eq hw m hm k hk r];unfold rootsB;rw [List.all_cons]
  cases (decide (v=0)||decide (v - 1∈W)) with
  |true=>rfl
  |false=>rfl
theorem l22Roots_l0 {cs:Cs} {ws W:List Int} (hw:Wlk cs ws W) (hn:ws.length≤1048576) {roots:List Int} (hl:roots.length≤1048576) (d:Nat): ∀(k i:Nat),i+d=roots.length→d<k→spec_l22Roots.l0 k roots (startsL W ws.length) i=some (rootsB W (roots.drop i)):=by
 induction d with
 |zero=>
  intro k i hi hk;obtain ⟨k,rfl⟩: ∃m,k=m+1:=⟨k - 1,by omega⟩;rw [spec_l22Roots.l0,if_neg (by omega),List.drop_eq_nil_of_le (by omega)];rfl
 |succ d ih=>
  intro k i hi hk;obtain ⟨k,rfl⟩: ∃m,k=m+1:=⟨k - 1,by omega⟩;have hlt:i<roots.length:=by omega
  have:=ih k (i+1) (by omega) (by omega)
  rw [show ((i+1:Nat):Int)=(i:Int)+1 by omega] at this;rw [spec_l22Roots.l0,if_pos (by omega),if_pos (by omega),rd_mem hlt,lead_eq hw hn,Option.bind_some,wrap_inc (n:=1048577) (by omega) (by omega) (by omega),this,List.drop_eq_getElem_cons hlt];unfold rootsB;rw [List.all_cons]
  cases (decide (roots[i]=0)||decide (roots[i] - 1∈W)) with
  |true=>rfl
  |false=>rfl
section
variable {cs:Cs} {ws:List Int} {y t o:Int} {cards:List Bool} {W:List Int}
theorem l22Roots_eq (H:Opn cs ws y t o cards W) (hok: ∀k,4000000≤k→spec_MemOk.f k cs ws y t o cards=some true) (hwk: ∀k,4000000≤k→spec_l21Walk.f k cs ws y t o cards=some (W,true)) {roots:List Int} (hl:roots.length≤1048576) (k:Nat) (hk:4000000≤k):spec_l22Roots.f k cs ws y t o cards roots=some (rootsB W roots):=by
 have n0:=H.b.n0;have n1:=H.b.n1;have y0:=H.b.y0;have y1:=H.b.y1;have hwl:=H.wlk.len;unfold spec_l22Roots.f;rw [hok k hk,Option.bind_some,if_pos rfl,hwk k hk,Option.bind_some]
 dsimp only
 rw [starts_eq (fun x hx=>wlk_range H.wlk hx) (by omega) (by omega) k (by omega),Option.bind_some];exact l22Roots_l0 H.wlk (by omega) hl roots.length k 0 (by omega) (by omega)
def minR (y:Int) (cards:List Bool) (roots:List Int) (A:Am) (tw:List Int):List Int×Int×Int×Int×List Bool×List Int×Bool:=
  if A.full=true then ([],0,0,0,[],[],false) else (List.replicate y.toNat 0++tw.drop y.toNat,y,0,A.o,List.replicate cards.length false,roots.map (nowF A.mv),true)
theorem gopen_in (H:Opn cs ws y t o cards W) {roots:List Int} (k:Nat) (hk:4000000≤k):gopen k k cs ws y t o cards roots=some (if rootsB W roots=true then some (mmOf cs ws y t o cards W) else none):=by
 unfold gopen;rw [H.to k hk,Option.bind_some]
 dsimp only
 rw [rootsOkF_eq H.wlk _ rfl k (by omega),Option.bind_some]
theorem GcMinor_in (H:Opn cs ws y t o cards W) (hok: ∀k,4000000≤k→spec_MemOk.f k cs ws y t o cards=some true) (hwk: ∀k,4000000≤k→spec_l21Walk.f k cs ws y t o cards=some (W,true)) {roots:List Int} (hl:roots.length≤1048576) (hr:rootsB W roots=true):
  ∃tw,WI cs ws y o (minorA cs ws y o cards roots) (DA cs ws y o (minorA cs ws y o cards roots)) tw∨(minorA cs ws y o cards roots).full=true:=by
 have hv:=rootsB_iff.mp hr
 cases f:(minorA cs ws y o cards roots).full with
 |true=>exact ⟨[],.inr rfl⟩
 |false=>
  obtain ⟨tw,w,_⟩:=(minor_imp H hv (by omega) 4000000 (by omega)).2 f;exact ⟨tw,.inl w⟩
theorem GcMinor_both (H:Opn cs ws y t o cards W) (hok: ∀k,4000000≤k→spec_MemOk.f k cs ws y t o cards=some true) (hwk: ∀k,4000000≤k→spec_l21Walk.f k cs ws y t o cards=some (W,true)) {roots:List Int} (hl:roots.length≤1048576) (hr:rootsB W roots=true) {tw:List Int}
  (hw:WI cs ws y o (minorA cs ws y o cards roots) (DA cs ws y o (minorA cs ws y o cards roots)) tw∨(minorA cs ws y o cards roots).full=true) (k:Nat) (hk:4000000≤k):
  impl_GcMinor.f k cs ws y t o cards roots=some (minR y cards roots (minorA cs ws y o cards roots) tw)∧spec_GcMinor.f k cs ws y t o cards roots=some (minR y cards roots (minorA cs ws y o cards roots) tw):=by
 have hv:=rootsB_iff.mp hr;have hi:=minor_imp H hv (by omega) k (by omega);have hs:=minor_spec H hv (by omega) k hk;have af:=(minorA_facts H hv).1;unfold impl_GcMinor.f spec_GcMinor.f;rw [if_pos (by omega),gopen_in H k hk,hr,if_pos rfl,Option.bind_some,l22Roots_eq H hok hwk hl k hk,hr,Option.bind_some,if_pos rfl];unfold gmOf minR
 dsimp only
 cases f:(minorA cs ws y o cards roots).full with
 |true=>
  rw [hi.1 f,hs.1 f,if_pos rfl];exact ⟨rfl,rfl⟩
 |false=>
  have w:=hw.resolve_right (by rw [f];simp);obtain ⟨tw1,w1,e1⟩:=hi.2 f;obtain ⟨tw2,D,w2,hD,e2⟩:=hs.2 f;have q1:tw1=tw:=WI.same H af w1 w (fun i x r _ _ _=> .inl Iff.rfl)
  have q2:tw2=tw:=minor_same H af w w2 hD
  rw [e1,e2,q1,q2,if_neg (by simp)];exact ⟨rfl,rfl⟩
theorem GcMinor_eq (hf:fewF cs) (hn:ws.length≤1048576) (hc:cards.length≤1048576) {roots:List Int} (hl:roots.length≤1048576):
  ∃r:List Int×Int×Int×Int×List Bool×List Int×Bool,r.1.length≤1048576∧r.2.2.2.2.1.length≤1048576∧r.2.2.2.2.2.1.length≤1048576∧(∀k,4000000≤k→impl_GcMinor.f k cs ws y t o cards roots=some r)∧(∀k,4000000≤k→spec_GcMinor.f k cs ws y t o cards roots=some r):=by
 obtain ⟨m,h1,h2,h3⟩:=opn_of hf (y:=y) (t:=t) (o:=o) hn hc;have no:([]:List Int).length≤1048576:=by simp
 have no2:([]:List Bool).length≤1048576:=by simp
 cases m with
 | none =>
  refine ⟨([],0,0,0,[],[],false),no,no2,no,fun k hk=>?_,fun k hk=>?_⟩
  ·unfold impl_GcMinor.f gopen
   rw [if_pos (by omega),h1 k hk];rfl
  ·unfold spec_GcMinor.f spec_l22Roots.f
   rw [h2 k hk];rfl
 | some m =>
  obtain ⟨W,H,hm,hk⟩:=h3 m rfl
  cases hr:rootsB W roots with
  | false =>
   refine ⟨([],0,0,0,[],[],false),no,no2,no,fun k hk2=>?_,fun k hk2=>?_⟩
   ·unfold impl_GcMinor.f
    rw [if_pos (by omega),gopen_in H k hk2,hr];rfl
   ·unfold spec_GcMinor.f
    rw [l22Roots_eq H h2 hk hl k hk2,hr];rfl
  | true =>
   obtain ⟨tw,hw⟩:=GcMinor_in H h2 hk hl hr;refine ⟨_,?_,?_,?_,fun k hk2=>(GcMinor_both H h2 hk hl hr hw k hk2).1,fun k hk2=>(GcMinor_both H h2 hk hl hr hw k hk2).2⟩
   all_goals
    have n0:=H.b.n0;have n1:=H.b.n1;have y0:=H.b.y0;have y1:=H.b.y1;unfold minR
    cases f:(minorA cs ws y o cards roots).full with
    |true=>rw [if_pos rfl];simp
    |false=>
     have w:=hw.resolve_right (by rw [f];simp);have wl:=w.len;rw [if_neg (by simp)]
     dsimp only
     first
     |(rw [List.length_append,List.length_replicate,List.length_drop];omega)
     |(rw [List.length_replicate];exact hc)
     |(rw [List.length_map];exact hl)
end
def marksB:Nat→Int→List Bool
  |0,_=>[]
  |n+1,a=>(Int.tmod a 3==0)::marksB n (a+1)
theorem markBoolS_l0 (d:Nat): ∀(k:Nat) (pre post:List Bool) (a:Int),post.length=d→d<k→0≤a→a+d≤4611686018427387904→pre.length+d≤140737488355328→
  laws_markBoolS.l0 k (pre++post) a (pre.length:Int)=some (a+d,pre++marksB d a):=by
 induction d with
 |zero=>
  intro k pre post a hd hk ha hb hc;obtain ⟨k,rfl⟩: ∃m,k=m+1:=⟨k - 1,by omega⟩;obtain rfl:post=[]:=List.eq_nil_of_length_eq_zero hd;simp only [laws_markBoolS.l0]
  rw [if_neg (by simp)];simp [marksB]
 | succ d ih =>
  intro k pre post a hd hk ha hb hc;obtain ⟨k,rfl⟩: ∃m,k=m+1:=⟨k - 1,by omega⟩;obtain ⟨x,post,rfl⟩: ∃x t,post=x::t:=by cases post with|nil=>simp at hd|cons x t=>exact ⟨x,t,rfl⟩
  simp only [laws_markBoolS.l0]
  simp only [List.length_cons] at hd;rw [if_pos (by simp only [List.length_append,List.length_cons];omega),if_pos (by omega),wrap_inc (n:=4611686018427387904) ha (by omega) (by omega),wrap_inc (n:=4611686018427387904) (by omega) (by omega) (by omega)]
  have e:(pre++x::post).set ((pre.length:Int).toNat) (Int.tmod a 3==0)=(pre++[Int.tmod a 3==0])++post:=by
   simp
  rw [e];have:=ih k (pre++[Int.tmod a 3==0]) post (a+1) (by omega) (by omega) (by omega) (by omega) (by simp;omega)
  rw [show ((pre.length:Int)+1)=(((pre++[Int.tmod a 3==0]).length:Nat):Int) from by simp,this];simp [marksB]
  omega
theorem markBoolS_ev (xs:List Bool) (a:Int) (ha:0≤a) (hb:a+xs.length≤4611686018427387904) (hc:xs.length≤140737488355328):
  Ev (fun k=>laws_markBoolS.f k xs a) (a+xs.length,marksB xs.length a):=by
 refine Ev.of (k:=xs.length+1) (laws_markBoolS.mono xs a) ?_;have:=markBoolS_l0 xs.length (xs.length+1) [] xs a rfl (by omega) ha hb (by simpa using hc)
 simpa [laws_markBoolS.f] using this
theorem heldBoolS_l0 (d:Nat): ∀(k:Nat) (pre:List Bool) (a:Int),d<k→0≤a→a+d≤4611686018427387904→pre.length+d≤140737488355328→
  laws_heldBoolS.l0 k (pre++marksB d a) a (pre.length:Int)=some (a+d):=by
 induction d with
 |zero=>
  intro k pre a hk ha hb hc;obtain ⟨k,rfl⟩: ∃m,k=m+1:=⟨k - 1,by omega⟩;simp only [laws_heldBoolS.l0,marksB,List.append_nil]
  rw [if_neg (by omega)];simp
 |succ d ih=>
  intro k pre a hk ha hb hc;obtain ⟨k,rfl⟩: ∃m,k=m+1:=⟨k - 1,by omega⟩;show laws_heldBoolS.l0 (k+1) (pre++((Int.tmod a 3==0)::marksB d (a+1))) a (pre.length:Int)=_
  simp only [laws_heldBoolS.l0]
  rw [if_pos (by simp only [List.length_append,List.length_cons];omega),if_pos (by omega),wrap_inc (n:=4611686018427387904) ha (by omega) (by omega),wrap_inc (n:=4611686018427387904) (by omega) (by omega) (by omega),rdB_cast,if_neg (by simp [List.getD_eq_getElem?_getD])];have:=ih k (pre++[Int.tmod a 3==0]) (a+1) (by omega) (by omega) (by omega) (by simp;omega)
  rw [show pre++(Int.tmod a 3==0)::marksB d (a+1)=(pre++[Int.tmod a 3==0])++marksB d (a+1) from by simp,show ((pre.length:Int)+1)=(((pre++[Int.tmod a 3==0]).length:Nat):Int) from by simp,this];simp;omega
theorem heldBoolS_ev (n:Nat) (a:Int) (ha:0≤a) (hb:a+n≤4611686018427387904) (hc:n≤140737488355328):
  Ev (fun k=>laws_heldBoolS.f k (marksB n a) a) (a+n):=by
 refine Ev.of (k:=n+1) (laws_heldBoolS.mono _ a) ?_;have:=heldBoolS_l0 n (n+1) [] a (by omega) ha hb (by simpa using hc)
 simpa [laws_heldBoolS.f] using this
def marksI:Nat→Int→List Int
  |0,_=>[]
  |n+1,a=>a::marksI n (a+1)
theorem markIntS_l0 (d:Nat): ∀(k:Nat) (pre post:List Int) (a:Int),post.length=d→d<k→0≤a→a+d≤4611686018427387904→pre.length+d≤140737488355328→
  laws_markIntS.l0 k (pre++post) a (pre.length:Int)=some (a+d,pre++marksI d a):=by
 induction d with
 |zero=>
  intro k pre post a hd hk ha hb hc;obtain ⟨k,rfl⟩: ∃m,k=m+1:=⟨k - 1,by omega⟩;obtain rfl:post=[]:=List.eq_nil_of_length_eq_zero hd;simp only [laws_markIntS.l0]
  rw [if_neg (by simp)];simp [marksI]
 | succ d ih =>
  intro k pre post a hd hk ha hb hc;obtain ⟨k,rfl⟩: ∃m,k=m+1:=⟨k - 1,by omega⟩;obtain ⟨x,post,rfl⟩: ∃x t,post=x::t:=by cases post with|nil=>simp at hd|cons x t=>exact ⟨x,t,rfl⟩
  simp only [laws_markIntS.l0]
  simp only [List.length_cons] at hd;rw [if_pos (by simp only [List.length_append,List.length_cons];omega),if_pos (by omega),wrap_inc (n:=4611686018427387904) ha (by omega) (by omega),wrap_inc (n:=4611686018427387904) (by omega) (by omega) (by omega)]
  have e:(pre++x::post).set ((pre.length:Int).toNat) a=(pre++[a])++post:=by
   simp
  rw [e];have:=ih k (pre++[a]) post (a+1) (by omega) (by omega) (by omega) (by omega) (by simp;omega)
  rw [show ((pre.length:Int)+1)=(((pre++[a]).length:Nat):Int) from by simp,this];simp [marksI]
  omega
theorem markIntS_ev (xs:List Int) (a:Int) (ha:0≤a) (hb:a+xs.length≤4611686018427387904) (hc:xs.length≤140737488355328):
  Ev (fun k=>laws_markIntS.f k xs a) (a+xs.length,marksI xs.length a):=by
 refine Ev.of (k:=xs.length+1) (laws_markIntS.mono xs a) ?_;have:=markIntS_l0 xs.length (xs.length+1) [] xs a rfl (by omega) ha hb (by simpa using hc)
 simpa [laws_markIntS.f] using this
theorem heldIntS_l0 (d:Nat): ∀(k:Nat) (pre:List Int) (a:Int),d<k→0≤a→a+d≤4611686018427387904→pre.length+d≤140737488355328→
  laws_heldIntS.l0 k (pre++marksI d a) a (pre.length:Int)=some (a+d):=by
 induction d with
 |zero=>
  intro k pre a hk ha hb hc;obtain ⟨k,rfl⟩: ∃m,k=m+1:=⟨k - 1,by omega⟩;simp only [laws_heldIntS.l0,marksI,List.append_nil]
  rw [if_neg (by omega)];simp
 |succ d ih=>
  intro k pre a hk ha hb hc;obtain ⟨k,rfl⟩: ∃m,k=m+1:=⟨k - 1,by omega⟩;show laws_heldIntS.l0 (k+1) (pre++(a::marksI d (a+1))) a (pre.length:Int)=_
  simp only [laws_heldIntS.l0]
  rw [if_pos (by simp only [List.length_append,List.length_cons];omega),if_pos (by omega),wrap_inc (n:=4611686018427387904) ha (by omega) (by omega),wrap_inc (n:=4611686018427387904) (by omega) (by omega) (by omega),rd_cast,if_pos (by simp [List.getD_eq_getElem?_getD])];have:=ih k (pre++[a]) (a+1) (by omega) (by omega) (by omega) (by simp;omega)
  rw [show pre++a::marksI d (a+1)=(pre++[a])++marksI d (a+1) from by simp,show ((pre.length:Int)+1)=(((pre++[a]).length:Nat):Int) from by simp,this];simp;omega
theorem heldIntS_ev (n:Nat) (a:Int) (ha:0≤a) (hb:a+n≤4611686018427387904) (hc:n≤140737488355328):
  Ev (fun k=>laws_heldIntS.f k (marksI n a) a) (a+n):=by
 refine Ev.of (k:=n+1) (laws_heldIntS.mono _ a) ?_;have:=heldIntS_l0 n (n+1) [] a (by omega) ha hb (by simpa using hc)
 simpa [laws_heldIntS.f] using this
theorem heldMem_ev (n m:Nat) (x1 x2 x3:Int) (a:Int) (ha:0≤a) (hb:a+n+m≤4611686018427387904) (h0:n≤140737488355328) (h4:m≤140737488355328):
  Ev (fun k=>laws_heldMem.f k (marksI n a) x1 x2 x3 (marksB m (a+n)) a) (a+n+m):=by
 simp only [laws_heldMem.f]
 refine (heldIntS_ev n a ha (by omega) h0).bind ?_;refine evn (by omega) ?_;refine (heldBoolS_ev m (a+n) (by omega) (by omega) h4).bind ?_;refine evn (by omega) ?_;exact Ev.now _
end Go.Proofs.Ytbaklikaoleplaa.Pure
namespace Go.Proofs.Ytbaklikaoleplaa.K
open Go.RowKit Go.Proofs.YtbaklikaoleplaaW.PrintWords Go.Proofs.YtbaklikaoleplaaW.PrintLast Go.Proofs.YtbaklikaoleplaaW.PrintMore
attribute [local go_sem] max2_int min2_int max_two min_two max_three min_three max_four min_four
set_option linter.unusedVariables false
set_option linter.unusedSimpArgs false
structure OM (b gw cW gc cC:Nat) (w:World) (ws:List Int) (cards:List Bool):Prop where
 hw:Kd.R (Kd.int .i64) 3 w b (fun k=>k=gw) (.slice (some ⟨gw,0,none⟩) ws.length cW) ws
 hc:Kd.R Kd.bool 4 w b (fun k=>k=gc) (.slice (some ⟨gc,0,none⟩) cards.length cC) cards
 ne:gw≠gc
section
variable {b gw cW gc cC:Nat} {w w1:World} {ws:List Int} {cards:List Bool} {S:Nat→Prop}
theorem OM.bw (h:OM b gw cW gc cC w ws cards):b≤gw∧gw<w.heap.size:=⟨Kd.R_base h.hw gw (by simp [Value.ownBlock]),Kd.R_lt h.hw gw (by simp [Value.ownBlock])⟩
theorem OM.bc (h:OM b gw cW gc cC w ws cards):b≤gc∧gc<w.heap.size:=⟨Kd.R_base h.hc gc (by simp [Value.ownBlock]),Kd.R_lt h.hc gc (by simp [Value.ownBlock])⟩
theorem OM.ch (h:OM b gw cW gc cC w ws cards) (hc:Ch S w w1) (h1: ¬S gw) (h2: ¬S gc):OM b gw cW gc cC w1 ws cards:=⟨hc.R h.hw (fun k hk=>by rw [hk];exact h1),hc.R h.hc (fun k hk=>by rw [hk];exact h2),h.ne⟩
end
structure Fl (b0 gz gm gw cW gc cC:Nat) (wr:World) (v7 v8:Value) (ws:List Int) (y t o:Int) (cards:List Bool) (pl rt:List Int):Prop where
 om:OM b0 gw cW gc cC wr ws cards
 bx:wr.heap[gm]? =some (.cells #[.slice (some ⟨gw,0,none⟩) ws.length cW,.int .i64 y,.int .i64 t,.int .i64 o,.slice (some ⟨gc,0,none⟩) cards.length cC] 29 (0,0))
 bz:wr.heap[gz]? =some (.cells #[.slice none 0 0,.int .i64 0,.int .i64 0,.int .i64 0,.slice none 0 0] 29 (0,0))
 hp:Kd.R (Kd.int .i64) 3 wr b0 (fun k=>(b0≤k∧k≠gw)∧some k≠v7.ownBlock) v8 pl
 hr:Kd.R (Kd.int .i64) 3 wr b0 (fun k=>(b0≤k∧k≠gw)∧some k≠v8.ownBlock) v7 rt
 gm0:b0≤gz∧gz<gm
section
variable {b0 gz gm gw cW gc cC g:Nat} {wr w1:World} {v7 v8:Value} {ws ws':List Int} {y t o:Int} {cards cards':List Bool} {pl rt:List Int} {S:Nat→Prop}
theorem Fl.ch (h:Fl b0 gz gm gw cW gc cC wr v7 v8 ws y t o cards pl rt) (hc:Ch S wr w1) (hS: ∀k,S k→k<b0):Fl b0 gz gm gw cW gc cC w1 v7 v8 ws y t o cards pl rt:=by
  have hw:=h.om.bw;have hcc:=h.om.bc;have hm:=h.gm0;exact ⟨h.om.ch hc (fun q=>by have:=hS _ q;omega) (fun q=>by have:=hS _ q;omega),hc.blk h.bx (fun q=>by have:=hS _ q;omega),hc.blk h.bz (fun q=>by have:=hS _ q;omega),hc.R h.hp (fun k hk q=>by have:=hS _ q;omega),hc.R h.hr (fun k hk q=>by have:=hS _ q;omega),h.gm0⟩
theorem Fl.below (h:Fl b0 gz gm gw cW gc cC wr v7 v8 ws y t o cards pl rt) (hb:Below wr.heap.size wr w1):Fl b0 gz gm gw cW gc cC w1 v7 v8 ws y t o cards pl rt:=h.ch ((Ch.refl (fun _=>False) _).below hb) (fun _ h=>h.elim)
end
end Go.Proofs.Ytbaklikaoleplaa.K
namespace Go.Proofs.Ytbaklikaoleplaa.K
open Go.RowKit Go.Proofs.YtbaklikaoleplaaW.PrintWords Go.Proofs.YtbaklikaoleplaaW.PrintLast Go.Proofs.YtbaklikaoleplaaW.PrintMore
attribute [local go_sem] max2_int min2_int max_two min_two max_three min_three max_four min_four
set_option linter.unusedVariables false
set_option linter.unusedSimpArgs false
open Go.Proofs.Ytbaklikaoleplaa.Pure
structure Dm (W:World) (b0:Nat) (ok:Nat→Prop) (v5 v0 v4 v7:Value) (cs:Cs) (ws:List Int) (cards:List Bool) (rt:List Int):Prop where
 h5:Kd.V k53 53 W b0 ok v5 cs
 h0:Kd.V (Kd.int .i64) 3 W b0 ok v0 ws
 h4:Kd.V Kd.bool 4 W b0 ok v4 cards
 h7:Kd.V (Kd.int .i64) 3 W b0 ok v7 rt
 l5:1≤cs.length∧cs.length≤9∧∀x∈cs,x.f1.length≤3
 l0:1≤ws.length∧ws.length≤1000
 l4:cards.length≤1000
 l7:rt.length≤100
section
variable {b0 g gz gm:Nat} {W w w0 w1:World} {v5 v0 v4 v7:Value} {cs:Cs} {ws:List Int} {cards:List Bool} {rt:List Int} {ok ok' S:Nat→Prop} {M L:Int}
theorem Dm.ch (h:Dm W b0 ok v5 v0 v4 v7 cs ws cards rt) (hc:Ch S W w1) (hS: ∀k,ok k→¬S k):Dm w1 b0 ok v5 v0 v4 v7 cs ws cards rt:=
  ⟨Kd.V_kept h.h5 hc.kept hS,Kd.V_kept h.h0 hc.kept hS,Kd.V_kept h.h4 hc.kept hS,Kd.V_kept h.h7 hc.kept hS,h.l5,h.l0,h.l4,h.l7⟩
end
structure Ms (b0 s1 gz gm gw cW gc cC:Nat) (W:World) (v5 v7:Value) (cs:Cs) (ws:List Int) (y t o:Int) (cards:List Bool) (rt:List Int):Prop where
 om:OM s1 gw cW gc cC W ws cards
 h5:Kd.V k53 53 W b0 (fun k=>gz<k∧k<s1) v5 cs
 h7:Kd.R (Kd.int .i64) 3 W s1 (fun k=>k≠gw) v7 rt
 bm:W.heap[gm]? =some (.cells #[.slice (some ⟨gw,0,none⟩) ws.length cW,.int .i64 y,.int .i64 t,.int .i64 o,.slice (some ⟨gc,0,none⟩) cards.length cC] 29 (0,0))
 bz:W.heap[gz]? =some (.cells #[.slice none 0 0,.int .i64 0,.int .i64 0,.int .i64 0,.slice none 0 0] 29 (0,0))
 ge:b0≤gz∧gz<s1∧s1≤gm
 l5:1≤cs.length∧cs.length≤9∧∀x∈cs,x.f1.length≤3
 l0:14≤ws.length∧ws.length≤160
 l4:4≤cards.length∧cards.length≤40
 l7:rt.length≤60
section
variable {b0 s1 g gz gm gw cW gc cC:Nat} {W w1:World} {v5 v7 v:Value} {cs:Cs} {ws:List Int} {y t o:Int} {cards:List Bool} {rt:List Int} {S:Nat→Prop}
theorem Ms.ch (h:Ms b0 s1 gz gm gw cW gc cC W v5 v7 cs ws y t o cards rt) (hc:Ch S W w1) (hS: ∀k,S k→k<b0∨W.heap.size≤k):Ms b0 s1 gz gm gw cW gc cC w1 v5 v7 cs ws y t o cards rt:=by
  have a:=h.om.bw;have b:=h.om.bc;have c:=h.ge;have d:=blk_lt h.bm;exact ⟨h.om.ch hc (fun q=>by have:=hS _ q;omega) (fun q=>by have:=hS _ q;omega),Kd.V_mono (Kd.V_kept (Kd.V_bound h.h5) hc.kept (fun k hk q=>by have:=hS _ q;omega)) (fun _ hk=>hk.1),Kd.R_mono (hc.R (Kd.R_bound h.h7) (fun k hk q=>by have:=hS _ q;omega)) (fun _ hk=>hk.1),hc.blk h.bm (fun q=>by have:=hS _ q;omega),hc.blk h.bz (fun q=>by have:=hS _ q;have:=blk_lt h.bz;omega),h.ge,h.l5,h.l0,h.l4,h.l7⟩
theorem Ms.below (h:Ms b0 s1 gz gm gw cW gc cC W v5 v7 cs ws y t o cards rt) (hb:Below W.heap.size W w1):Ms b0 s1 gz gm gw cW gc cC w1 v5 v7 cs ws y t o cards rt:=h.ch ((Ch.refl (fun _=>False) _).below hb) (fun _ h=>h.elim)
end
end Go.Proofs.Ytbaklikaoleplaa.K
namespace Go.Proofs.Ytbaklikaoleplaa.Pure
open Go.RowKit Go.Proofs.Ytbaklikaoleplaa.K Go.Proofs.YtbaklikaoleplaaW.PrintWords Go.Proofs.YtbaklikaoleplaaW.PrintLast Go.Proofs.YtbaklikaoleplaaW.PrintMore
set_option linter.unusedVariables false
set_option linter.unusedSimpArgs false
abbrev Ls:=List S50
def toC (c:S50):S53:=⟨c.f0,c.f1⟩
def toCs (l:Ls):Cs:=l.map toC
theorem toIntS_l0 (d:Nat): ∀(k:Nat) (pre post:List Int) (xs:List Int),xs.length=pre.length+post.length→xs.take pre.length=pre→post.length=d→d<k→pre.length+d≤140737488355328→
  laws_toIntS.l0 k xs (pre++post) (pre.length:Int)=some xs:=by
 induction d with
 |zero=>
  intro k pre post xs hl ht hd hk hc;obtain ⟨k,rfl⟩: ∃m,k=m+1:=⟨k - 1,by omega⟩;obtain rfl:post=[]:=List.eq_nil_of_length_eq_zero hd;simp only [laws_toIntS.l0]
  simp only [List.length_nil,Nat.add_zero] at hl;rw [if_neg (by omega)];rw [←hl,List.take_length] at ht;rw [ht];simp
 | succ d ih =>
  intro k pre post xs hl ht hd hk hc;obtain ⟨k,rfl⟩: ∃m,k=m+1:=⟨k - 1,by omega⟩;obtain ⟨x,post,rfl⟩: ∃x t,post=x::t:=by cases post with|nil=>simp at hd|cons x t=>exact ⟨x,t,rfl⟩
  simp only [List.length_cons] at hl hd;simp only [laws_toIntS.l0]
  rw [if_pos (by omega),if_pos (by omega),if_pos (by simp only [List.length_append,List.length_cons];omega),wrap_inc (n:=4611686018427387904) (by omega) (by omega) (by omega)];have e:(pre++x::post).set ((pre.length:Int).toNat) (rd xs pre.length)=(pre++[rd xs pre.length])++post:=by simp
  rw [e]
  have:=ih k (pre++[rd xs pre.length]) post xs (by simp only [List.length_append,List.length_cons,List.length_nil];omega) (by
   rw [List.length_append,List.length_singleton,List.take_succ_eq_append_getElem (by omega),ht,rd_cast]
   simp [List.getD_eq_getElem?_getD,show pre.length<xs.length by omega]) (by omega) (by omega) (by simp only [List.length_append,List.length_cons,List.length_nil];omega)
  rw [show ((pre.length:Int)+1)=(((pre++[rd xs pre.length]).length:Nat):Int) from by simp,this]
theorem toIntS_eq (xs:List Int) (hx:xs.length≤35184372088832) (k:Nat) (hk:xs.length<k):laws_toIntS.f k xs=some xs:=by
 unfold laws_toIntS.f;rw [if_pos (by omega),if_pos (by omega),Int.toNat_natCast];have:=toIntS_l0 xs.length k [] (List.replicate xs.length 0) xs (by simp) (by simp) (by simp) hk (by simp;omega)
 simpa using this
def fewL (l:Ls):Prop:= ∀c∈l,c.f1.length≤1048576
theorem toClassS_l0 (d:Nat): ∀(k:Nat) (l:Ls) (pre:Cs) (post:Cs),l.length=pre.length+post.length→(l.take pre.length).map toC=pre→post.length=d→d+1048578≤k→fewL l→pre.length+d≤140737488355328→
  laws_toClassS.l0 k l (pre++post) (pre.length:Int)=some (toCs l):=by
 induction d with
 |zero=>
  intro k l pre post hl ht hd hk hf hc;obtain ⟨k,rfl⟩: ∃m,k=m+1:=⟨k - 1,by omega⟩;obtain rfl:post=[]:=List.eq_nil_of_length_eq_zero hd;simp only [laws_toClassS.l0]
  simp only [List.length_nil,Nat.add_zero] at hl;rw [if_neg (by omega)];rw [←hl,List.take_length] at ht;unfold toCs;rw [ht];simp
 | succ d ih =>
  intro k l pre post hl ht hd hk hf hc;obtain ⟨k,rfl⟩: ∃m,k=m+1:=⟨k - 1,by omega⟩;obtain ⟨x,post,rfl⟩: ∃x t,post=x::t:=by cases post with|nil=>simp at hd|cons x t=>exact ⟨x,t,rfl⟩
  simp only [List.length_cons] at hl hd;have hlt:pre.length<l.length:=by omega
  have hrd:rd_T50 l pre.length=l[pre.length]:=by simp [rd_T50,List.getD_eq_getElem?_getD,hlt]
  have hfl:=hf l[pre.length] (List.getElem_mem _);simp only [laws_toClassS.l0,laws_toClass.f]
  rw [if_pos (by omega),if_pos (by omega),hrd,toIntS_eq _ (by omega) k (by omega)];simp only [Option.bind_some]
  rw [if_pos (by simp only [List.length_append,List.length_cons];omega),wrap_inc (n:=4611686018427387904) (by omega) (by omega) (by omega)];have e:(pre++x::post).set ((pre.length:Int).toNat) (toC l[pre.length])=(pre++[toC l[pre.length]])++post:=by simp
  show laws_toClassS.l0 k l ((pre++x::post).set ((pre.length:Int).toNat) (toC l[pre.length])) _=_
  rw [e]
  have:=ih k l (pre++[toC l[pre.length]]) post (by simp only [List.length_append,List.length_cons,List.length_nil];omega) (by
   rw [List.length_append,List.length_singleton,List.take_succ_eq_append_getElem hlt,List.map_append,ht];simp) (by omega) (by omega) hf (by simp only [List.length_append,List.length_cons,List.length_nil];omega)
  rw [show ((pre.length:Int)+1)=(((pre++[toC l[pre.length]]).length:Nat):Int) from by simp,this]
theorem toClassS_eq (l:Ls) (hf:fewL l) (hl:l.length≤1048576) (k:Nat) (hk:4000000≤k):laws_toClassS.f k l=some (toCs l):=by
 unfold laws_toClassS.f;rw [if_pos (by omega),if_pos (by omega),Int.toNat_natCast];have:=toClassS_l0 l.length k l [] (List.replicate l.length z53) (by simp) (by simp) (by simp) (by omega) hf (by simp;omega)
 simpa using this
theorem szIntS_eq (xs:List Int) (a:Int) (h:xs.length≤9223372036854775807) (ha:0≤a∧a≤1048576):laws_szIntS.f xs a=some (if (xs.length:Int)≤a then a - xs.length else -1):=by
 unfold laws_szIntS.f;rw [wrap64_of (by omega) (by omega)];by_cases q:(xs.length:Int)≤a
 ·rw [if_neg (by omega),if_pos q]
 ·rw [if_pos (by omega),if_neg q]
theorem szClass_eq (s:Int) (xs:List Int) (a:Int) (h:xs.length≤9223372036854775807) (ha:0≤a∧a≤1048576):laws_szClass.f s xs a=some (if (xs.length:Int)≤a then a - xs.length else -1):=by
 unfold laws_szClass.f;rw [szIntS_eq xs a h ha];simp only [Option.bind_some]
 split
 ·rw [if_neg (by omega)]
 ·rw [if_pos (by omega)]
theorem szClassS_l0 (l:Ls) (hg: ∀c∈l,c.f1.length≤9223372036854775807) (hl:l.length≤1048576) (d:Nat): ∀(i:Nat) (a:Int) (k:Nat),i≤l.length→l.length - i=d→0≤a∧a≤1048576→d<k→
  ∃r,laws_szClassS.l0 k l a i=some r∧r≤1048576∧(0≤r→∀j:Nat,i≤j→∀c,l[j]? =some c→c.f1.length≤1048576):=by
 induction d with
 |zero=>
  intro i a k hi hd ha hk;obtain ⟨k,rfl⟩: ∃m,k=m+1:=⟨k - 1,by omega⟩;refine ⟨a,?_,ha.2,fun _ j hj c hc=>?_⟩
  ·simp only [laws_szClassS.l0];rw [if_neg (by omega)]
  ·have:=(List.getElem?_eq_some_iff.1 hc).1;omega
 | succ d ih =>
  intro i a k hi hd ha hk;obtain ⟨k,rfl⟩: ∃m,k=m+1:=⟨k - 1,by omega⟩;have hlt:i<l.length:=by omega
  have hrd:rd_T50 l i=l[i]:=by simp [rd_T50,List.getD_eq_getElem?_getD,hlt]
  simp only [laws_szClassS.l0]
  rw [if_pos (by omega),if_pos (by omega),hrd,szClass_eq _ _ a (hg _ (List.getElem_mem _)) ha];simp only [Option.bind_some]
  by_cases q:(l[i].f1.length:Int)≤a
  ·rw [if_pos q, if_neg (by omega), wrap_inc (n := l.length) (by omega) (by omega) (by omega)]
   obtain ⟨r,h1,h2,h3⟩:=ih (i+1) (a - l[i].f1.length) k (by omega) (by omega) (by omega) (by omega);refine ⟨r,by rw [show ((i:Int)+1)=((i+1:Nat):Int) from by omega];exact h1,h2,fun hr j hj c hc=>?_⟩;by_cases e:j=i
   ·subst e
    rw [List.getElem?_eq_getElem hlt] at hc;obtain rfl:=Option.some.inj hc;omega
   ·exact h3 hr j (by omega) c hc
  ·rw [if_neg q, if_pos (by omega)]
   exact ⟨-1,rfl,by omega,fun hr=>by omega⟩
theorem szClassS_eq (l:Ls) (hg:GL G50 l) (k:Nat) (hk:1048578≤k): ∃r,laws_szClassS.f k l 1048576=some r∧r≤1048576∧(0≤r→l.length≤1048576∧fewL l):=by
 unfold laws_szClassS.f;have h1:=hg.1;rw [wrap64_of (by omega) (by omega)];by_cases q:(1048576:Int) - l.length<0
 ·rw [if_pos q];exact ⟨-1,rfl,by omega,fun h=>by omega⟩
 ·rw [if_neg q]
  obtain ⟨r,h2,h3,h4⟩:=szClassS_l0 l (fun c hc=>(hg.2 c hc).2.1) (by omega) l.length 0 (1048576 - l.length) k (by omega) (by omega) (by omega) (by omega);refine ⟨r,h2,h3,fun hr=>⟨by omega,fun c hc=>?_⟩⟩;obtain ⟨j,hj,rfl⟩:=List.getElem_of_mem hc;exact h4 hr j (by omega) _ (List.getElem?_eq_getElem hj)
theorem fewF_of {l:Ls} (h:fewL l):fewF (toCs l):=by
 intro i;unfold flds rd_T53 toCs;rw [List.getD_eq_getElem?_getD,List.getElem?_map]
 cases hq:l[i.toNat]? with
 |none=>simp [z53]
 |some c=>simpa [toC] using h c (List.mem_of_getElem? hq)
theorem eqClassS_l0 (cs:Cs) (hf:fewF cs) (hl:cs.length≤1048576) (d:Nat): ∀(i k:Nat),i≤cs.length→cs.length - i=d→d+1048578≤k→laws_eqClassS.l0 k cs cs i=some true:=by
 induction d with
 |zero=>
  intro i k hi hd hk;obtain ⟨k,rfl⟩: ∃m,k=m+1:=⟨k - 1,by omega⟩;simp only [laws_eqClassS.l0];rw [if_neg (by omega)]
 | succ d ih =>
  intro i k hi hd hk;obtain ⟨k,rfl⟩: ∃m,k=m+1:=⟨k - 1,by omega⟩;simp only [laws_eqClassS.l0,laws_eqClass.f]
  have hq:=hf i;have e:=eqIntS_l0 (flds cs i) (flds cs i) rfl (by omega) (flds cs i).length k 0 (by omega) (by omega) (by omega)
  have e2:laws_eqIntS.f k (rd_T53 cs i).f1 (rd_T53 cs i).f1=some true:=by
   unfold laws_eqIntS.f;rw [if_pos rfl];exact e.trans (by simp)
  rw [if_pos (by omega),if_pos (by omega),if_pos (by omega)];simp only [if_true,e2,Option.bind_some]
  rw [wrap_inc (n:=cs.length) (by omega) (by omega) (by omega),show ((i:Int)+1)=((i+1:Nat):Int) from by omega];exact ih (i+1) k (by omega) (by omega) (by omega)
theorem eqClassS_self (cs:Cs) (hf:fewF cs) (hl:cs.length≤1048576) (k:Nat) (hk:4000000≤k):laws_eqClassS.f k cs cs=some true:=by
 unfold laws_eqClassS.f;rw [if_pos rfl];exact eqClassS_l0 cs hf hl cs.length 0 k (by omega) (by omega) (by omega)
theorem toBoolS_l0 (d:Nat): ∀(k:Nat) (pre post:List Bool) (xs:List Bool),xs.length=pre.length+post.length→xs.take pre.length=pre→post.length=d→d<k→pre.length+d≤140737488355328→
  laws_toBoolS.l0 k xs (pre++post) (pre.length:Int)=some xs:=by
 induction d with
 |zero=>
  intro k pre post xs hl ht hd hk hc;obtain ⟨k,rfl⟩: ∃m,k=m+1:=⟨k - 1,by omega⟩;obtain rfl:post=[]:=List.eq_nil_of_length_eq_zero hd;simp only [laws_toBoolS.l0]
  simp only [List.length_nil,Nat.add_zero] at hl;rw [if_neg (by omega)];rw [←hl,List.take_length] at ht;rw [ht];simp
 | succ d ih =>
  intro k pre post xs hl ht hd hk hc;obtain ⟨k,rfl⟩: ∃m,k=m+1:=⟨k - 1,by omega⟩;obtain ⟨x,post,rfl⟩: ∃x t,post=x::t:=by cases post with|nil=>simp at hd|cons x t=>exact ⟨x,t,rfl⟩
  simp only [List.length_cons] at hl hd;simp only [laws_toBoolS.l0]
  rw [if_pos (by omega),if_pos (by omega),if_pos (by simp only [List.length_append,List.length_cons];omega),wrap_inc (n:=4611686018427387904) (by omega) (by omega) (by omega)];have e:(pre++x::post).set ((pre.length:Int).toNat) (rdOf false xs pre.length)=(pre++[rdOf false xs pre.length])++post:=by simp
  rw [e]
  have:=ih k (pre++[rdOf false xs pre.length]) post xs (by simp only [List.length_append,List.length_cons,List.length_nil];omega) (by
   rw [List.length_append,List.length_singleton,List.take_succ_eq_append_getElem (by omega),ht,rdB_cast]
   simp [List.getD_eq_getElem?_getD,show pre.length<xs.length by omega]) (by omega) (by omega) (by simp only [List.length_append,List.length_cons,List.length_nil];omega)
  rw [show ((pre.length:Int)+1)=(((pre++[rdOf false xs pre.length]).length:Nat):Int) from by simp,this]
theorem toBoolS_eq (xs:List Bool) (hx:xs.length≤35184372088832) (k:Nat) (hk:xs.length<k):laws_toBoolS.f k xs=some xs:=by
 unfold laws_toBoolS.f;rw [if_pos (by omega),if_pos (by omega),Int.toNat_natCast];have:=toBoolS_l0 xs.length k [] (List.replicate xs.length false) xs (by simp) (by simp) (by simp) hk (by simp;omega)
 simpa using this
theorem szBoolS_eq (xs:List Bool) (a:Int) (h:xs.length≤9223372036854775807) (ha:0≤a∧a≤1048576):laws_szBoolS.f xs a=some (if (xs.length:Int)≤a then a - xs.length else -1):=by
 unfold laws_szBoolS.f;rw [wrap64_of (by omega) (by omega)];by_cases c:(xs.length:Int)≤a
 ·rw [if_neg (by omega),if_pos c]
 ·rw [if_pos (by omega),if_neg c]
theorem ev_from {α:Type} {f:Nat→Option α} {r:α} (K:Nat) (h: ∀k,K≤k→f k=some r):Ev f r:=⟨K,h⟩
theorem ev_bind_some {α β:Type} {a:α} {f:α→Nat→Option β} {r:β} (h:Ev (f a) r):Ev (fun k=>(some a).bind fun x=>f x k) r:=h
abbrev Ms:=S26
theorem toMem_ev (M:Ms) (h0:M.f0.length≤1048576) (h4:M.f4.length≤1048576):Ev (fun k=>laws_toMem.f k M.f0 M.f1 M.f2 M.f3 M.f4) (M.f0,M.f1,M.f2,M.f3,M.f4):=by
 refine ev_from 1048577 (fun k hk=>?_);unfold laws_toMem.f;rw [toIntS_eq M.f0 (by omega) k (by omega),Option.bind_some,toBoolS_eq M.f4 (by omega) k (by omega),Option.bind_some]
theorem small_ev (l:Ls) (M:Ms) (hl:GL G50 l) (hM:G26 M) {f:Nat→Option Bool}
  (h:l.length≤1048576→fewL l→M.f0.length≤1048576→M.f4.length≤1048576→Ev f true):
  Ev (fun k=>(laws_szClassS.f k l 1048576).bind fun t=>if t<0 then some true else ((laws_szMem.f M.f0 M.f1 M.f2 M.f3 M.f4 t).bind fun t2=>if t2<0 then some true else f k)) true:=by
 obtain ⟨r,hr,r1,r2⟩:=szClassS_eq l hl 1048578 (Nat.le_refl _);have e1: ∀k,1048578≤k→laws_szClassS.f k l 1048576=some r:=fun k hk=>at_rounds (g:=fun k=>laws_szClassS.f k l 1048576) (fun k=>laws_szClassS.mono l 1048576 k) hk hr
 refine (ev_from 1048578 e1).bind ?_;by_cases c:r<0
 ·exact evp c (Ev.now _)
 refine evn c ?_;obtain ⟨q1,q2⟩:=r2 (by omega);have g0:=hM.1.1;have g4:=hM.2.2.2.2.1
 have e2:laws_szMem.f M.f0 M.f1 M.f2 M.f3 M.f4 r=some (if (M.f0.length:Int)≤r then (if (M.f4.length:Int)≤r - M.f0.length then r - M.f0.length - M.f4.length else -1) else -1):=by
  unfold laws_szMem.f;rw [szIntS_eq M.f0 r g0 (by omega),Option.bind_some];by_cases c1:(M.f0.length:Int)≤r
  ·rw [if_pos c1, if_pos c1, if_neg (by omega), szBoolS_eq M.f4 _ g4 (by omega), Option.bind_some]
   by_cases c2:(M.f4.length:Int)≤r - M.f0.length
   ·rw [if_pos c2,if_neg (by omega)]
   ·rw [if_neg c2,if_pos (by omega)]
  ·rw [if_neg c1,if_neg c1,if_pos (by omega)]
 rw [e2];refine ev_bind_some ?_;by_cases c1:(M.f0.length:Int)≤r
 ·by_cases c2 : (M.f4.length : Int) ≤ r - M.f0.length
  ·rw [if_pos c1, if_pos c2]
   refine evn (by omega) ?_;exact h q1 q2 (by omega) (by omega)
  ·rw [if_pos c1, if_neg c2]
   exact evp (by omega) (Ev.now _)
 ·rw [if_neg c1]
  exact evp (by omega) (Ev.now _)
theorem toClassS_ev (l:Ls) (hf:fewL l) (hl:l.length≤1048576):Ev (fun k=>laws_toClassS.f k l) (toCs l):=ev_from 4000000 (fun k hk=>toClassS_eq l hf hl k hk)
theorem eqClassS_ev (l:Ls) (hf:fewL l) (hl:l.length≤1048576):Ev (fun k=>laws_eqClassS.f k (toCs l) (toCs l)) true:=ev_from 4000000 (fun k hk=>eqClassS_self (toCs l) (fewF_of hf) (by unfold toCs;rw [List.length_map];exact hl) k hk)
theorem eqMem_self (M:Ms) (h0:M.f0.length≤1048576) (h4:M.f4.length≤1048576):Ev (fun k=>laws_eqMem.f k M.f0 M.f1 M.f2 M.f3 M.f4 M.f0 M.f1 M.f2 M.f3 M.f4) true:=by
  have:=eqMem_ev M.f0 M.f1 M.f2 M.f3 M.f4 M.f0 M.f1 M.f2 M.f3 M.f4 (by omega) (by omega)
  simpa using this
theorem mcs_ev: ∀(cs:Cs) (a:Int),0≤a→(∀c∈cs,c.f1.length≤1048576)→a+cs.length*1048577≤2305843009213693952→∃b,Ev (fun k=>mcs k cs a) b∧0≤b∧b≤a+cs.length*1048577
 |[],a,ha,_,_=>⟨a,Ev.now _,ha,by simp⟩
 |x::r,a,ha,hx,hb=>by
  have h1:=hx x (List.mem_cons_self ..);simp only [List.length_cons] at hb ⊢;obtain ⟨b,e,b0,b1⟩:=mcs_ev r (a+1+x.f1.length) (by omega) (fun c hc=>hx c (List.mem_cons_of_mem _ hc)) (by omega);refine ⟨b,?_,b0,by omega⟩;have w:wrap64 (a+1)=a+1:=wrap64_of (by omega) (by omega)
  have:=(markIntS_ev x.f1 (a+1) (by omega) (by omega) (by omega)).bind (f:=fun k p=>mcs k r p.1) e
  simpa only [mcs,w] using this
theorem markMem_ev (x0:List Int) (x1 x2 x3:Int) (x4:List Bool) (a:Int) (ha:0≤a) (hb:a+x0.length+x4.length≤4611686018427387904) (h0:x0.length≤140737488355328) (h4:x4.length≤140737488355328):
  Ev (fun k=>laws_markMem.f k x0 x1 x2 x3 x4 a) (a+x0.length+x4.length,marksI x0.length a,marksB x4.length (a+x0.length)):=by
 simp only [laws_markMem.f]
 refine (markIntS_ev x0 a ha (by omega) h0).bind ?_;refine (markBoolS_ev x4 (a+x0.length) (by omega) (by omega) h4).bind ?_;exact Ev.now _
theorem FnExactGcMinor:laws_FnExactGcMinor.Pure:=by
 intro l M R hl hM hR;refine Ev.rounds ?_;simp only [laws_FnExactGcMinor.f]
 by_cases c:(R.length:Int)>1048576
 ·exact evp c (Ev.now _)
 refine evn c ?_;refine small_ev l M hl hM (fun q1 q2 q3 q4=>?_);have hF:=fewF_of q2;have hL:(toCs l).length≤1048576:=by unfold toCs;rw [List.length_map];exact q1
 obtain ⟨⟨s0,s1,s2,s3,s4,s5,s6⟩,b0,b4,b5,h1,h2⟩:=GcMinor_eq (cs:=toCs l) hF (ws:=M.f0) (y:=M.f1) (t:=M.f2) (o:=M.f3) (cards:=M.f4) q3 q4 (roots:=R) (by omega);dsimp only at b0 b4 b5;refine (toClassS_ev l q2 q1).bind ?_;refine (toMem_ev M q3 q4).bind ?_;refine (ev_from 1048577 (fun k hk=>toIntS_eq R (by omega) k (by omega))).bind ?_;refine evp ⟨rfl,rfl,hL⟩ ?_;refine (ev_from 4000000 h2).bind ?_;refine (ev_from 4000000 h1).bind ?_;have hse:=eqMem_ev s0 s1 s2 s3 s4 s0 s1 s2 s3 s4 (by omega) (by omega);simp only [and_self,decide_true] at hse;refine hse.bind ?_;have hie:=eqIntS_ev s5 s5 (by omega);simp only [decide_true] at hie;refine hie.bind ?_;refine (eqClassS_ev l q2 q1).bind ?_;refine (eqMem_self M q3 q4).bind ?_;have hre:=eqIntS_ev R R (by omega);simp only [decide_true] at hre;refine hre.bind ?_
 obtain ⟨c,e,c0,c1⟩:=mcs_ev (toCs l) 1 (by omega) (fun c hc=>by
  obtain ⟨c',hc',rfl⟩:=List.mem_map.mp hc
  exact q2 c' hc') (by omega)
 refine e.bind ?_;refine (markMem_ev M.f0 M.f1 M.f2 M.f3 M.f4 c c0 (by omega) (by omega) (by omega)).bind ?_;refine (markIntS_ev R (c+M.f0.length+M.f4.length) (by omega) (by omega) (by omega)).bind ?_;refine (markMem_ev s0 s1 s2 s3 s4 1 (by omega) (by omega) (by omega) (by omega)).bind ?_;refine (markIntS_ev s5 (1+s0.length+s4.length) (by omega) (by omega) (by omega)).bind ?_;refine (heldMem_ev s0.length s4.length s1 s2 s3 1 (by omega) (by omega) (by omega) (by omega)).bind ?_;refine (heldIntS_ev s5.length (1+s0.length+s4.length) (by omega) (by omega) (by omega)).bind ?_;refine Ev.congr (fun _=>if_pos ?_) (Ev.now _);exact ⟨rfl,⟨rfl,rfl,rfl,rfl,rfl⟩,by show 0≤c+(M.f0.length:Int)+M.f4.length+R.length;omega,rfl,by omega,by omega⟩
end Go.Proofs.Ytbaklikaoleplaa.Pure
