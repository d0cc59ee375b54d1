import Derived.Test.YtbaklikaoleplaaGreatPl24
import Derived.Test.YtbaklikaoleplaaGreatPl28
import Derived.Test.YtbaklikaoleplaaGreatPl32
import Derived.Test.YtbaklikaoleplaaGreatPl33
import Derived.Test.YtbaklikaoleplaaGreatPl34
import Derived.Test.YtbaklikaoleplaaGreatPl35
namespace Go.Proofs.YtbaklikaoleplaaGreat.Pure
open Go.RowKit Go.Proofs.YtbaklikaoleplaaGreat.K Go.Proofs.YtbaklikaoleplaaGreatW.PrintWords Go.Proofs.YtbaklikaoleplaaGreatW.PrintLast Go.Proofs.YtbaklikaoleplaaGreatW.PrintMore
set_option linter.unusedVariables false
set_option linter.unusedSimpArgs false
abbrev Ls:=List S75
def toC (c:S75):S78:=⟨c.f0,c.f1⟩
def bBg (l:Ls):Cs:=l.map toC
theorem bKg (d:Nat): ∀(k:Nat) (pre post:List Int) (xs:List Int),xs.length=pre.length+post.length→xs.take pre.length=pre→post.length=d→d<k→pre.length+d≤140737488355328→
  jV k xs (pre++post) (pre.length:Int)=some xs:=by
 induction d with
 |zero=>
  intro k pre post xs hl ht hd hk hc;obtain ⟨k,rfl⟩: ∃m,k=m+1:=⟨k - 1,by omega⟩;obtain rfl:post=[]:=gW hd;simp only [jV]
  simp only [nY,tG] at hl;rw [if_neg (by omega)];rw [←hl,tH] at ht;rw [ht];simp
 | succ d ih =>
  intro k pre post xs hl ht hd hk hc;obtain ⟨k,rfl⟩: ∃m,k=m+1:=⟨k - 1,by omega⟩;obtain ⟨x,post,rfl⟩: ∃x t,post=x::t:=by cases post with|nil=>simp at hd|cons x t=>exact ⟨x,t,rfl⟩
  simp only [dP] at hl hd;simp only [jV]
  rw [if_pos (by omega),if_pos (by omega),if_pos (by simp only [cG,dP];omega),jA (n:=4611686018427387904) (by omega) (by omega) (by omega)];have e:(pre++x::post).set ((pre.length:Int).toNat) (rd xs pre.length)=(pre++[rd xs pre.length])++post:=by simp
  rw [e]
  have:=ih k (pre++[rd xs pre.length]) post xs (by simp only [cG,dP,nY];omega) (by
   rw [cG,gD,kK (by omega),ht,rY]
   simp [bM,show pre.length<xs.length by omega]) (by omega) (by omega) (by simp only [cG,dP,nY];omega)
  rw [show ((pre.length:Int)+1)=(((pre++[rd xs pre.length]).length:Nat):Int) from by simp,this]
theorem bBy (xs:List Int) (hx:xs.length≤35184372088832) (k:Nat) (hk:xs.length<k):mZ k xs=some xs:=by
 unfold mZ;rw [if_pos (by omega),if_pos (by omega),dK];have:=bKg xs.length k [] (List.replicate xs.length 0) xs (by simp) (by simp) (by simp) hk (by simp;omega)
 simpa using this
def bIs (l:Ls):Prop:= ∀c∈l,c.f1.length≤1048576
theorem bGs (d:Nat): ∀(k:Nat) (l:Ls) (pre:Cs) (post:Cs),l.length=pre.length+post.length→(l.take pre.length).map toC=pre→post.length=d→d+1048578≤k→bIs l→pre.length+d≤140737488355328→
  gI k l (pre++post) (pre.length:Int)=some (bBg l):=by
 induction d with
 |zero=>
  intro k l pre post hl ht hd hk hf hc;obtain ⟨k,rfl⟩: ∃m,k=m+1:=⟨k - 1,by omega⟩;obtain rfl:post=[]:=gW hd;simp only [gI]
  simp only [nY,tG] at hl;rw [if_neg (by omega)];rw [←hl,tH] at ht;unfold bBg;rw [ht];simp
 | succ d ih =>
  intro k l pre post hl ht hd hk hf hc;obtain ⟨k,rfl⟩: ∃m,k=m+1:=⟨k - 1,by omega⟩;obtain ⟨x,post,rfl⟩: ∃x t,post=x::t:=by cases post with|nil=>simp at hd|cons x t=>exact ⟨x,t,rfl⟩
  simp only [dP] at hl hd;have hlt:pre.length<l.length:=by omega
  have hrd:mT l pre.length=l[pre.length]:=by simp [mT,bM,hlt]
  have hfl:=hf l[pre.length] (pN _);simp only [gI,vQ]
  rw [if_pos (by omega),if_pos (by omega),hrd,bBy _ (by omega) k (by omega)];simp only [bD]
  rw [if_pos (by simp only [cG,dP];omega),jA (n:=4611686018427387904) (by omega) (by omega) (by omega)];have e:(pre++x::post).set ((pre.length:Int).toNat) (toC l[pre.length])=(pre++[toC l[pre.length]])++post:=by simp
  show gI k l ((pre++x::post).set ((pre.length:Int).toNat) (toC l[pre.length])) _=_
  rw [e]
  have:=ih k l (pre++[toC l[pre.length]]) post (by simp only [cG,dP,nY];omega) (by
   rw [cG,gD,kK hlt,List.map_append,ht];simp) (by omega) (by omega) hf (by simp only [cG,dP,nY];omega)
  rw [show ((pre.length:Int)+1)=(((pre++[toC l[pre.length]]).length:Nat):Int) from by simp,this]
theorem bGu (l:Ls) (hf:bIs l) (hl:l.length≤1048576) (k:Nat) (hk:4000000≤k):qD k l=some (bBg l):=by
 unfold qD;rw [if_pos (by omega),if_pos (by omega),dK];have:=bGs l.length k l [] (List.replicate l.length bHy) (by simp) (by simp) (by simp) (by omega) hf (by simp;omega)
 simpa using this
theorem bFd (xs:List Int) (a:Int) (h:xs.length≤9223372036854775807) (ha:0≤a∧a≤1048576):nW xs a=some (if (xs.length:Int)≤a then a - xs.length else -1):=by
 unfold nW;rw [dX (by omega) (by omega)];by_cases q:(xs.length:Int)≤a
 ·rw [if_neg (by omega),if_pos q]
 ·rw [if_pos (by omega),if_neg q]
theorem bIe (s:Int) (xs:List Int) (a:Int) (h:xs.length≤9223372036854775807) (ha:0≤a∧a≤1048576):sA s xs a=some (if (xs.length:Int)≤a then a - xs.length else -1):=by
 unfold sA;rw [bFd xs a h ha];simp only [bD]
 split
 ·rw [if_neg (by omega)]
 ·rw [if_pos (by omega)]
theorem bGv (l:Ls) (hg: ∀c∈l,c.f1.length≤9223372036854775807) (hl:l.length≤1048576) (d:Nat): ∀(i:Nat) (a:Int) (k:Nat),i≤l.length→l.length - i=d→0≤a∧a≤1048576→d<k→
  ∃r,gA k l a i=some r∧r≤1048576∧(0≤r→∀j:Nat,i≤j→∀c,l[j]? =some c→c.f1.length≤1048576):=by
 induction d with
 |zero=>
  intro i a k hi hd ha hk;obtain ⟨k,rfl⟩: ∃m,k=m+1:=⟨k - 1,by omega⟩;refine ⟨a,?_,ha.2,fun _ j hj c hc=>?_⟩
  ·simp only [gA];rw [if_neg (by omega)]
  ·have:=(dZ.1 hc).1;omega
 | succ d ih =>
  intro i a k hi hd ha hk;obtain ⟨k,rfl⟩: ∃m,k=m+1:=⟨k - 1,by omega⟩;have hlt:i<l.length:=by omega
  have hrd:mT l i=l[i]:=by simp [mT,bM,hlt]
  simp only [gA]
  rw [if_pos (by omega),if_pos (by omega),hrd,bIe _ _ a (hg _ (pN _)) ha];simp only [bD]
  by_cases q:(l[i].f1.length:Int)≤a
  ·rw [if_pos q, if_neg (by omega), jA (n := l.length) (by omega) (by omega) (by omega)]
   obtain ⟨r,h1,h2,h3⟩:=ih (i+1) (a - l[i].f1.length) k (by omega) (by omega) (by omega) (by omega);refine ⟨r,by rw [show ((i:Int)+1)=((i+1:Nat):Int) from by omega];exact h1,h2,fun hr j hj c hc=>?_⟩;by_cases e:j=i
   ·subst e
    rw [bO hlt] at hc;obtain rfl:=bC hc;omega
   ·exact h3 hr j (by omega) c hc
  ·rw [if_neg q, if_pos (by omega)]
   exact ⟨-1,rfl,by omega,fun hr=>by omega⟩
theorem bGw (l:Ls) (hg:GL G75 l) (k:Nat) (hk:1048578≤k): ∃r,kA k l 1048576=some r∧r≤1048576∧(0≤r→l.length≤1048576∧bIs l):=by
 unfold kA;have h1:=hg.1;rw [dX (by omega) (by omega)];by_cases q:(1048576:Int) - l.length<0
 ·rw [if_pos q];exact ⟨-1,rfl,by omega,fun h=>by omega⟩
 ·rw [if_neg q]
  obtain ⟨r,h2,h3,h4⟩:=bGv l (fun c hc=>(hg.2 c hc).2.1) (by omega) l.length 0 (1048576 - l.length) k (by omega) (by omega) (by omega) (by omega);refine ⟨r,h2,h3,fun hr=>⟨by omega,fun c hc=>?_⟩⟩;obtain ⟨j,hj,rfl⟩:=pC hc;exact h4 hr j (by omega) _ (bO hj)
theorem bJu {l:Ls} (h:bIs l):bFa (bBg l):=by
 intro i;unfold pM bX bBg;rw [bM,kM]
 cases hq:l[i.toNat]? with
 |none=>simp [bHy]
 |some c=>simpa [toC] using h c (List.mem_of_getElem? hq)
theorem bHn (cs:Cs) (hf:bFa cs) (hl:cs.length≤1048576) (d:Nat): ∀(i k:Nat),i≤cs.length→cs.length - i=d→d+1048578≤k→kF k cs cs i=some true:=by
 induction d with
 |zero=>
  intro i k hi hd hk;obtain ⟨k,rfl⟩: ∃m,k=m+1:=⟨k - 1,by omega⟩;simp only [kF];rw [if_neg (by omega)]
 | succ d ih =>
  intro i k hi hd hk;obtain ⟨k,rfl⟩: ∃m,k=m+1:=⟨k - 1,by omega⟩;simp only [kF,vV]
  have hq:=hf i;have e:=bFk (pM cs i) (pM cs i) rfl (by omega) (pM cs i).length k 0 (by omega) (by omega) (by omega)
  have e2:gP k (bX cs i).f1 (bX cs i).f1=some true:=by
   unfold gP;rw [if_pos rfl];exact e.trans (by simp)
  rw [if_pos (by omega),if_pos (by omega),if_pos (by omega)];simp only [qL,e2,bD]
  rw [jA (n:=cs.length) (by omega) (by omega) (by omega),show ((i:Int)+1)=((i+1:Nat):Int) from by omega];exact ih (i+1) k (by omega) (by omega) (by omega)
theorem bFb (cs:Cs) (hf:bFa cs) (hl:cs.length≤1048576) (k:Nat) (hk:4000000≤k):qE k cs cs=some true:=by
 unfold qE;rw [if_pos rfl];exact bHn cs hf hl cs.length 0 k (by omega) (by omega) (by omega)
theorem bIb (d:Nat): ∀(k:Nat) (pre post:List Bool) (xs:List Bool),xs.length=pre.length+post.length→xs.take pre.length=pre→post.length=d→d<k→pre.length+d≤140737488355328→
  jI k xs (pre++post) (pre.length:Int)=some xs:=by
 induction d with
 |zero=>
  intro k pre post xs hl ht hd hk hc;obtain ⟨k,rfl⟩: ∃m,k=m+1:=⟨k - 1,by omega⟩;obtain rfl:post=[]:=gW hd;simp only [jI]
  simp only [nY,tG] at hl;rw [if_neg (by omega)];rw [←hl,tH] at ht;rw [ht];simp
 | succ d ih =>
  intro k pre post xs hl ht hd hk hc;obtain ⟨k,rfl⟩: ∃m,k=m+1:=⟨k - 1,by omega⟩;obtain ⟨x,post,rfl⟩: ∃x t,post=x::t:=by cases post with|nil=>simp at hd|cons x t=>exact ⟨x,t,rfl⟩
  simp only [dP] at hl hd;simp only [jI]
  rw [if_pos (by omega),if_pos (by omega),if_pos (by simp only [cG,dP];omega),jA (n:=4611686018427387904) (by omega) (by omega) (by omega)];have e:(pre++x::post).set ((pre.length:Int).toNat) (fW false xs pre.length)=(pre++[fW false xs pre.length])++post:=by simp
  rw [e]
  have:=ih k (pre++[fW false xs pre.length]) post xs (by simp only [cG,dP,nY];omega) (by
   rw [cG,gD,kK (by omega),ht,bEa]
   simp [bM,show pre.length<xs.length by omega]) (by omega) (by omega) (by simp only [cG,dP,nY];omega)
  rw [show ((pre.length:Int)+1)=(((pre++[fW false xs pre.length]).length:Nat):Int) from by simp,this]
theorem bIc (xs:List Bool) (hx:xs.length≤35184372088832) (k:Nat) (hk:xs.length<k):qP k xs=some xs:=by
 unfold qP;rw [if_pos (by omega),if_pos (by omega),dK];have:=bIb xs.length k [] (List.replicate xs.length false) xs (by simp) (by simp) (by simp) hk (by simp;omega)
 simpa using this
theorem bIf (xs:List Bool) (a:Int) (h:xs.length≤9223372036854775807) (ha:0≤a∧a≤1048576):qQ xs a=some (if (xs.length:Int)≤a then a - xs.length else -1):=by
 unfold qQ;rw [dX (by omega) (by omega)];by_cases c:(xs.length:Int)≤a
 ·rw [if_neg (by omega),if_pos c]
 ·rw [if_pos (by omega),if_neg c]
theorem yT {α:Type} {f:Nat→Option α} {r:α} (K:Nat) (h: ∀k,K≤k→f k=some r):Ev f r:=⟨K,h⟩
theorem bGd {α β:Type} {a:α} {f:α→Nat→Option β} {r:β} (h:Ev (f a) r):Ev (fun k=>(some a).bind fun x=>f x k) r:=h
abbrev Ms:=S43
theorem bLn (M:Ms) (h0:M.f0.length≤1048576) (h4:M.f4.length≤1048576):Ev (fun k=>vF k M.f0 M.f1 M.f2 M.f3 M.f4) (M.f0,M.f1,M.f2,M.f3,M.f4):=by
 refine yT 1048577 (fun k hk=>?_);unfold vF;rw [bBy M.f0 (by omega) k (by omega),bD,bIc M.f4 (by omega) k (by omega),bD]
theorem bLq (l:Ls) (M:Ms) (hl:GL G75 l) (hM:G43 M) {f:Nat→Option Bool}
  (h:l.length≤1048576→bIs l→M.f0.length≤1048576→M.f4.length≤1048576→Ev f true):
  Ev (fun k=>(kA k l 1048576).bind fun t=>if t<0 then some true else ((rZ M.f0 M.f1 M.f2 M.f3 M.f4 t).bind fun t2=>if t2<0 then some true else f k)) true:=by
 obtain ⟨r,hr,r1,r2⟩:=bGw l hl 1048578 (bV _);have e1: ∀k,1048578≤k→kA k l 1048576=some r:=fun k hk=>bAc (g:=fun k=>kA k l 1048576) (fun k=>bAy l 1048576 k) hk hr
 refine (yT 1048578 e1).bind ?_;by_cases c:r<0
 ·exact evp c (Ev.now _)
 refine evn c ?_;obtain ⟨q1,q2⟩:=r2 (by omega);have g0:=hM.1.1;have g4:=hM.2.2.2.2.1
 have e2:rZ M.f0 M.f1 M.f2 M.f3 M.f4 r=some (if (M.f0.length:Int)≤r then (if (M.f4.length:Int)≤r - M.f0.length then r - M.f0.length - M.f4.length else -1) else -1):=by
  unfold rZ;rw [bFd M.f0 r g0 (by omega),bD];by_cases c1:(M.f0.length:Int)≤r
  ·rw [if_pos c1, if_pos c1, if_neg (by omega), bIf M.f4 _ g4 (by omega), bD]
   by_cases c2:(M.f4.length:Int)≤r - M.f0.length
   ·rw [if_pos c2,if_neg (by omega)]
   ·rw [if_neg c2,if_pos (by omega)]
  ·rw [if_neg c1,if_neg c1,if_pos (by omega)]
 rw [e2];refine bGd ?_;by_cases c1:(M.f0.length:Int)≤r
 ·by_cases c2 : (M.f4.length : Int) ≤ r - M.f0.length
  ·rw [if_pos c1, if_pos c2]
   refine evn (by omega) ?_;exact h q1 q2 (by omega) (by omega)
  ·rw [if_pos c1, if_neg c2]
   exact evp (by omega) (Ev.now _)
 ·rw [if_neg c1]
  exact evp (by omega) (Ev.now _)
theorem bGt (l:Ls) (hf:bIs l) (hl:l.length≤1048576):Ev (fun k=>qD k l) (bBg l):=yT 4000000 (fun k hk=>bGu l hf hl k hk)
theorem bHo (l:Ls) (hf:bIs l) (hl:l.length≤1048576):Ev (fun k=>qE k (bBg l) (bBg l)) true:=yT 4000000 (fun k hk=>bFb (bBg l) (bJu hf) (by unfold bBg;rw [gN];exact hl) k hk)
theorem bIt (M:Ms) (h0:M.f0.length≤1048576) (h4:M.f4.length≤1048576):Ev (fun k=>sC k M.f0 M.f1 M.f2 M.f3 M.f4 M.f0 M.f1 M.f2 M.f3 M.f4) true:=by
  have:=bMh M.f0 M.f1 M.f2 M.f3 M.f4 M.f0 M.f1 M.f2 M.f3 M.f4 (by omega) (by omega)
  simpa using this
def tM:Nat→Int→List Int
  |0,_=>[]
  |n+1,a=>a::tM n (a+1)
theorem bHc (d:Nat): ∀(k:Nat) (pre post:List Int) (a:Int),post.length=d→d<k→0≤a→a+d≤4611686018427387904→pre.length+d≤140737488355328→
  fP k (pre++post) a (pre.length:Int)=some (a+d,pre++tM d a):=by
 induction d with
 |zero=>
  intro k pre post a hd hk ha hb hc;obtain ⟨k,rfl⟩: ∃m,k=m+1:=⟨k - 1,by omega⟩;obtain rfl:post=[]:=gW hd;simp only [fP]
  rw [if_neg (by simp)];simp [tM]
 | succ d ih =>
  intro k pre post a hd hk ha hb hc;obtain ⟨k,rfl⟩: ∃m,k=m+1:=⟨k - 1,by omega⟩;obtain ⟨x,post,rfl⟩: ∃x t,post=x::t:=by cases post with|nil=>simp at hd|cons x t=>exact ⟨x,t,rfl⟩
  simp only [fP]
  simp only [dP] at hd;rw [if_pos (by simp only [cG,dP];omega),if_pos (by omega),jA (n:=4611686018427387904) ha (by omega) (by omega),jA (n:=4611686018427387904) (by omega) (by omega) (by omega)]
  have e:(pre++x::post).set ((pre.length:Int).toNat) a=(pre++[a])++post:=by
   simp
  rw [e];have:=ih k (pre++[a]) post (a+1) (by omega) (by omega) (by omega) (by omega) (by simp;omega)
  rw [show ((pre.length:Int)+1)=(((pre++[a]).length:Nat):Int) from by simp,this];simp [tM]
  omega
theorem xM (xs:List Int) (a:Int) (ha:0≤a) (hb:a+xs.length≤4611686018427387904) (hc:xs.length≤140737488355328):
  Ev (fun k=>jJ k xs a) (a+xs.length,tM xs.length a):=by
 refine Ev.of (k:=xs.length+1) (bBa xs a) ?_;have:=bHc xs.length (xs.length+1) [] xs a rfl (by omega) ha hb (by simpa using hc)
 simpa [jJ] using this
theorem bHj (d:Nat): ∀(k:Nat) (pre:List Int) (a:Int),d<k→0≤a→a+d≤4611686018427387904→pre.length+d≤140737488355328→
  fQ k (pre++tM d a) a (pre.length:Int)=some (a+d):=by
 induction d with
 |zero=>
  intro k pre a hk ha hb hc;obtain ⟨k,rfl⟩: ∃m,k=m+1:=⟨k - 1,by omega⟩;simp only [fQ,tM,List.append_nil]
  rw [if_neg (by omega)];simp
 |succ d ih=>
  intro k pre a hk ha hb hc;obtain ⟨k,rfl⟩: ∃m,k=m+1:=⟨k - 1,by omega⟩;show fQ (k+1) (pre++(a::tM d (a+1))) a (pre.length:Int)=_
  simp only [fQ]
  rw [if_pos (by simp only [cG,dP];omega),if_pos (by omega),jA (n:=4611686018427387904) ha (by omega) (by omega),jA (n:=4611686018427387904) (by omega) (by omega) (by omega),rY,if_pos (by simp [bM])];have:=ih k (pre++[a]) (a+1) (by omega) (by omega) (by omega) (by simp;omega)
  rw [show pre++a::tM d (a+1)=(pre++[a])++tM d (a+1) from by simp,show ((pre.length:Int)+1)=(((pre++[a]).length:Nat):Int) from by simp,this];simp;omega
theorem bHk (n:Nat) (a:Int) (ha:0≤a) (hb:a+n≤4611686018427387904) (hc:n≤140737488355328):
  Ev (fun k=>mU k (tM n a) a) (a+n):=by
 refine Ev.of (k:=n+1) (bBb _ a) ?_;have:=bHj n (n+1) [] a (by omega) ha hb (by simpa using hc)
 simpa [mU] using this
theorem bLy: ∀(cs:Cs) (a:Int),0≤a→(∀c∈cs,c.f1.length≤1048576)→a+cs.length*1048577≤2305843009213693952→∃b,Ev (fun k=>mcs k cs a) b∧0≤b∧b≤a+cs.length*1048577
 |[],a,ha,_,_=>⟨a,Ev.now _,ha,by simp⟩
 |x::r,a,ha,hx,hb=>by
  have h1:=hx x (gE ..);simp only [dP] at hb ⊢;obtain ⟨b,e,b0,b1⟩:=bLy r (a+1+x.f1.length) (by omega) (fun c hc=>hx c (fZ _ hc)) (by omega);refine ⟨b,?_,b0,by omega⟩;have w:wrap64 (a+1)=a+1:=dX (by omega) (by omega)
  have:=(xM x.f1 (a+1) (by omega) (by omega) (by omega)).bind (f:=fun k p=>mcs k r p.1) e
  simpa only [mcs,w] using this
def bCd:Nat→Int→List Bool
  |0,_=>[]
  |n+1,a=>(Int.tmod a 3==0)::bCd n (a+1)
theorem bFz (d:Nat): ∀(k:Nat) (pre post:List Bool) (a:Int),post.length=d→d<k→0≤a→a+d≤4611686018427387904→pre.length+d≤140737488355328→
  fJ k (pre++post) a (pre.length:Int)=some (a+d,pre++bCd d a):=by
 induction d with
 |zero=>
  intro k pre post a hd hk ha hb hc;obtain ⟨k,rfl⟩: ∃m,k=m+1:=⟨k - 1,by omega⟩;obtain rfl:post=[]:=gW hd;simp only [fJ]
  rw [if_neg (by simp)];simp [bCd]
 | succ d ih =>
  intro k pre post a hd hk ha hb hc;obtain ⟨k,rfl⟩: ∃m,k=m+1:=⟨k - 1,by omega⟩;obtain ⟨x,post,rfl⟩: ∃x t,post=x::t:=by cases post with|nil=>simp at hd|cons x t=>exact ⟨x,t,rfl⟩
  simp only [fJ]
  simp only [dP] at hd;rw [if_pos (by simp only [cG,dP];omega),if_pos (by omega),jA (n:=4611686018427387904) ha (by omega) (by omega),jA (n:=4611686018427387904) (by omega) (by omega) (by omega)]
  have e:(pre++x::post).set ((pre.length:Int).toNat) (Int.tmod a 3==0)=(pre++[Int.tmod a 3==0])++post:=by
   simp
  rw [e];have:=ih k (pre++[Int.tmod a 3==0]) post (a+1) (by omega) (by omega) (by omega) (by omega) (by simp;omega)
  rw [show ((pre.length:Int)+1)=(((pre++[Int.tmod a 3==0]).length:Nat):Int) from by simp,this];simp [bCd]
  omega
theorem bGa (xs:List Bool) (a:Int) (ha:0≤a) (hb:a+xs.length≤4611686018427387904) (hc:xs.length≤140737488355328):
  Ev (fun k=>kV k xs a) (a+xs.length,bCd xs.length a):=by
 refine Ev.of (k:=xs.length+1) (bAj xs a) ?_;have:=bFz xs.length (xs.length+1) [] xs a rfl (by omega) ha hb (by simpa using hc)
 simpa [kV] using this
theorem bIo (x0:List Int) (x1 x2 x3:Int) (x4:List Bool) (a:Int) (ha:0≤a) (hb:a+x0.length+x4.length≤4611686018427387904) (h0:x0.length≤140737488355328) (h4:x4.length≤140737488355328):
  Ev (fun k=>sB k x0 x1 x2 x3 x4 a) (a+x0.length+x4.length,tM x0.length a,bCd x4.length (a+x0.length)):=by
 simp only [sB]
 refine (xM x0 a ha (by omega) h0).bind ?_;refine (bGa x4 (a+x0.length) (by omega) (by omega) h4).bind ?_;exact Ev.now _
theorem FnExactGcLive:yC:=by
 intro l M R hl hM hR;refine Ev.rounds ?_;simp only [nU]
 by_cases c:(R.length:Int)>1048576
 ·exact evp c (Ev.now _)
 refine evn c ?_;refine bLq l M hl hM (fun q1 q2 q3 q4=>?_);have hF:=bJu q2;have hL:(bBg l).length≤1048576:=by unfold bBg;rw [gN];exact q1
 obtain ⟨s,b0,h1,h2⟩:=bLa (cs:=bBg l) hF (ws:=M.f0) (y:=M.f1) (t:=M.f2) (o:=M.f3) (cards:=M.f4) q3 q4 (roots:=R) (by omega);refine (bGt l q2 q1).bind ?_;refine (bLn M q3 q4).bind ?_;refine (yT 1048577 (fun k hk=>bBy R (by omega) k (by omega))).bind ?_;refine evp ⟨rfl,rfl,hL⟩ ?_;refine (yT 4000000 h2).bind ?_;refine (yT 4000000 h1).bind ?_;have hie:=bCi s s (by omega);simp only [decide_true] at hie;refine hie.bind ?_;refine (bHo l q2 q1).bind ?_;refine (bIt M q3 q4).bind ?_;have hre:=bCi R R (by omega);simp only [decide_true] at hre;refine hre.bind ?_
 obtain ⟨c,e,c0,c1⟩:=bLy (bBg l) 1 (by omega) (fun c hc=>by
  obtain ⟨c',hc',rfl⟩:=List.mem_map.mp hc
  exact q2 c' hc') (by omega)
 refine e.bind ?_;refine (bIo M.f0 M.f1 M.f2 M.f3 M.f4 c c0 (by omega) (by omega) (by omega)).bind ?_;refine (xM R (c+M.f0.length+M.f4.length) (by omega) (by omega) (by omega)).bind ?_;refine (xM s 1 (by omega) (by omega) (by omega)).bind ?_;refine (bHk s.length 1 (by omega) (by omega) (by omega)).bind ?_;refine Ev.congr (fun _=>if_pos ?_) (Ev.now _);exact ⟨rfl,⟨rfl,rfl,rfl,rfl⟩,by show 0≤c+(M.f0.length:Int)+M.f4.length+R.length;omega,rfl,by omega⟩
end Go.Proofs.YtbaklikaoleplaaGreat.Pure
