import Derived.Test.YtbaklikaoleplaaGreatPl24
import Derived.Test.YtbaklikaoleplaaGreatPl25
import Derived.Test.YtbaklikaoleplaaGreatPl28
import Derived.Test.YtbaklikaoleplaaGreatPl31
import Derived.Test.YtbaklikaoleplaaGreatPl27
import Derived.Test.YtbaklikaoleplaaGreatPl26
import Derived.Test.YtbaklikaoleplaaGreatPl30
import Derived.Test.YtbaklikaoleplaaGreatPl32
import Derived.Test.YtbaklikaoleplaaGreatPl34
import Derived.Test.YtbaklikaoleplaaGreatPl33
namespace Go.Proofs.YtbaklikaoleplaaGreat.Pure
open Go.RowKit Go.Proofs.YtbaklikaoleplaaGreat.K Go.Proofs.YtbaklikaoleplaaGreatW.PrintWords Go.Proofs.YtbaklikaoleplaaGreatW.PrintLast Go.Proofs.YtbaklikaoleplaaGreatW.PrintMore
set_option linter.unusedVariables false
set_option linter.unusedSimpArgs false
theorem vG (l:List Int) (T:Nat):(l.drop T).all (· ==0)=true↔∀j:Nat,T≤j→j<l.length→l.getD j 0=0:=by
 rw [nH]
 constructor
 ·intro h j h1 h2
  have hm:l[j]∈l.drop T:=by
   rw [List.mem_iff_getElem];refine ⟨j - T,by rw [dD];omega,?_⟩;simp only [List.getElem_drop,show T+(j - T)=j by omega]
  have:=h _ hm
  rw [bM,bO h2]
  simpa using this
 ·intro h x hx
  obtain ⟨i,hi,rfl⟩:=pC hx;rw [dD] at hi;have:=h (T+i) (by omega) (by omega)
  rw [bM,bO (by omega)] at this;rw [List.getElem_drop]
  simpa using this
def Zr (ws:List Int) (y t o:Int) (i:Nat):Prop:=((t≤i∧(i:Int)≤y - 1)∨(i:Int)≥o)→ws.getD i 0=0
theorem bKx {ws:List Int} {y t o:Int} {cards:List Bool} (hn:ws.length≤1048576) (hy:0≤y) (hy2:y≤40) (d:Nat): ∀(k i:Nat),i+d=ws.length→d<k→∃b,fB k ws.length i ws y t o cards=some b∧(b=true↔∀j:Nat,i≤j→j<ws.length→Zr ws y t o j):=by
 induction d with
 |zero=>
  intro k i hi hk;obtain ⟨k,rfl⟩: ∃m,k=m+1:=⟨k - 1,by omega⟩;refine ⟨true,by rw [fB,if_neg (by omega)],by simp only [true_iff];intro j h1 h2;omega⟩
 | succ d ih =>
  intro k i hi hk;obtain ⟨k,rfl⟩: ∃m,k=m+1:=⟨k - 1,by omega⟩;have hlt:i<ws.length:=by omega
  obtain ⟨b,h1,h2⟩:=ih k (i+1) (by omega) (by omega);rw [show ((i+1:Nat):Int)=wrap64 ((i:Int)+1) by rw [jA (n:=1048577) (by omega) (by omega) (by omega)];omega] at h1;have w:wrap64 (y - 1)=y - 1:=dX (by omega) (by omega)
  by_cases z:Zr ws y t o i
  ·refine ⟨b, ?_, h2.trans ⟨fun h j h3 h4 => ?_, fun h j h3 h4 => h j (by omega) h4⟩⟩
   ·rw [fB, if_pos (by omega), kZ, w]
    simp only [bD,dJ]
    by_cases c1:t≤(i:Int)∧(i:Int)≤y - 1
    ·rw [if_pos c1, if_pos (by omega), if_pos (by omega), rY, if_pos (z (Or.inl c1))]
     exact h1
    ·rw [if_neg c1]
     by_cases c2:(i:Int)≥o
     ·rw [if_pos c2, if_pos (by omega), if_pos (by omega), rY, if_pos (z (Or.inr c2))]
      exact h1
     ·rw [if_neg c2]
      exact h1
   ·rcases Nat.eq_or_lt_of_le h3 with q | q
    ·subst q;exact z
    ·exact h j (by omega) h4
  ·refine ⟨false, ?_, by constructor; intro h; simp at h; intro h; exact absurd (h i (bV _) hlt) z⟩
   have z2:((t≤(i:Int)∧(i:Int)≤y - 1)∨(i:Int)≥o)∧¬ws.getD i 0=0:=by
    unfold Zr at z;exact ⟨cL fun q=>z (fun p=>absurd p q),fun q=>z (fun _=>q)⟩
   rw [fB,if_pos (by omega),kZ,w];simp only [bD,dJ]
   by_cases c1:t≤(i:Int)∧(i:Int)≤y - 1
   ·rw [if_pos c1,if_pos (by omega),if_pos (by omega),rY,if_neg z2.2]
   ·rw [if_neg c1,if_pos (z2.1.resolve_left c1),if_pos (by omega),if_pos (by omega),rY,if_neg z2.2]
theorem bFm {cs:Cs} (hf:bFa cs) (hok:sD cs=true) {ws:List Int} {y t o:Int} {cards:List Bool} (hn:ws.length≤1048576) (hc:cards.length≤1048576):
    ∃p,jW ws y t o cards=some p∧(∀k,4000000≤k→mF k cs ws y t o cards=some p)∧(p=true→Bnd cs ws y t o cards):=by
  have bad: ∀k,1≤k→dI k ws.length true ws y t o cards=some false:=fun k hk=>by
    obtain ⟨k,rfl⟩: ∃m,k=m+1:=⟨k - 1,by omega⟩;rw [dI,if_pos rfl]
  have hp:jW ws y t o cards=some (pV ws y t o cards 0&&pV ws y t o cards 1&&pV ws y t o cards 2&&pV ws y t o cards 3&&pV ws y t o cards 4&&pV ws y t o cards 5&&pV ws y t o cards 6):=by
    unfold jW;rw [if_pos (by omega)]
  rw [hp]
  have hs: ∀k,4000000≤k→mF k cs ws y t o cards=if 0≤y∧y≤40 then (if 14≤wrap64 ((ws.length:Int) - y)∧wrap64 ((ws.length:Int) - y)≤120 then (if 0≤t∧t≤y then (if y≤o∧o≤ws.length then dI k ws.length ((cards.length:Int) !=tN (wrap64 ((ws.length:Int) - y))) ws y t o cards else some false) else some false) else some false) else some false:=fun k hk=>by
    unfold mF;rw [xJ hf k (by omega),hok];simp only [bD,qL,kZ,dJ,bad k (by omega)]
    rfl
  by_cases c0:0≤y∧y≤40
  case neg=>
    refine ⟨_,rfl,fun k hk=>?_,fun h=>?_⟩
    · rw [hs k hk,if_neg c0,show pV ws y t o cards 0=false from bJ c0];rfl
    · rw [show pV ws y t o cards 0=false from bJ c0] at h;simp at h
  case pos=>
  have e0:pV ws y t o cards 0=true:=bB c0
  have w:wrap64 ((ws.length:Int) - y)=(ws.length:Int) - y:=dX (by omega) (by omega)
  rw [e0,jD];by_cases c1:14≤wrap64 ((ws.length:Int) - y)∧wrap64 ((ws.length:Int) - y)≤120
  case neg=>
    refine ⟨_,rfl,fun k hk=>?_,fun h=>?_⟩
    · rw [hs k hk,if_pos c0,if_neg c1,show pV ws y t o cards 1=false from bJ c1];rfl
    · rw [show pV ws y t o cards 1=false from bJ c1] at h;simp at h
  case pos=>
  have e1:pV ws y t o cards 1=true:=bB c1
  rw [e1,jD];by_cases c2:0≤t∧t≤y
  case neg=>
    refine ⟨_,rfl,fun k hk=>?_,fun h=>?_⟩
    · rw [hs k hk,if_pos c0,if_pos c1,if_neg c2,show pV ws y t o cards 2=false from bJ c2];rfl
    · rw [show pV ws y t o cards 2=false from bJ c2] at h;simp at h
  case pos=>
  have e2:pV ws y t o cards 2=true:=bB c2
  rw [e2,jD];by_cases c3:y≤o∧o≤(ws.length:Int)
  case neg=>
    refine ⟨_,rfl,fun k hk=>?_,fun h=>?_⟩
    · rw [hs k hk,if_pos c0,if_pos c1,if_pos c2,if_neg c3,show pV ws y t o cards 3=false from bJ c3];rfl
    · rw [show pV ws y t o cards 3=false from bJ c3] at h;simp at h
  case pos=>
  have e3:pV ws y t o cards 3=true:=bB c3
  rw [e3,jD];by_cases c4:(cards.length:Int)=tN (wrap64 ((ws.length:Int) - y))
  case neg=>
    have e4:pV ws y t o cards 4=false:=tP.mpr c4
    refine ⟨_,rfl,fun k hk=>?_,fun h=>?_⟩
    · rw [hs k hk,if_pos c0,if_pos c1,if_pos c2,if_pos c3,bne_iff_ne.mpr c4,bad k (by omega),e4];rfl
    · rw [e4] at h;simp at h
  case pos=>
  have e4:pV ws y t o cards 4=true:=beq_iff_eq.mpr c4
  rw [e4,jD]
  have h5:pV ws y t o cards 5=true↔∀j:Nat,t≤j→(j:Int)≤y - 1→ws.getD j 0=0:=by
    show ((ws.take y.toNat).drop t.toNat).all (· ==0)=true↔_
    rw [vG]
    constructor
    · intro h j h1 h2
      have:=h j (by omega) (by rw [dH];omega)
      rw [bM,dQ,if_pos (by omega)] at this;rw [bM];exact this
    · intro h j h1 h2
      rw [dH] at h2;rw [bM,dQ,if_pos (by omega)];have:=h j (by omega) (by omega)
      rw [bM] at this;exact this
  have h6:pV ws y t o cards 6=true↔∀j:Nat,o≤j→j<ws.length→ws.getD j 0=0:=by
    show ((ws.drop y.toNat).drop (o - y).toNat).all (· ==0)=true↔_
    rw [List.drop_drop,vG]
    constructor
    · intro h j h1 h2;exact h j (by omega) h2
    · intro h j h1 h2;exact h j (by omega) h2
  obtain ⟨b,hb1,hb2⟩:=bKx (ws:=ws) (y:=y) (t:=t) (o:=o) (cards:=cards) hn c0.1 c0.2 ws.length (ws.length+1) 0 (by omega) (by omega)
  have eb:(pV ws y t o cards 5&&pV ws y t o cards 6)=b:=by
    rw [vJ,dS,h5,h6,hb2]
    constructor
    · rintro ⟨q1, q2⟩ j _ hj z
      rcases z with z|z
      · exact q1 j z.1 z.2
      · exact q2 j z hj
    · intro q
      exact ⟨fun j h1 h2=>q j (by omega) (by omega) (Or.inl ⟨h1,h2⟩),fun j h1 h2=>q j (by omega) h2 (Or.inr h1)⟩
  refine ⟨_,rfl,fun k hk=>?_,fun _=>?_⟩
  · rw [hs k hk, if_pos c0, if_pos c1, if_pos c2, if_pos c3, eb]
    obtain ⟨k,rfl⟩: ∃m,k=m+1:=⟨k - 1,by omega⟩;have e:((cards.length:Int) !=tN (wrap64 ((ws.length:Int) - y)))=false:=by rw [←c4];simp
    rw [e,dI,if_neg (by simp)];exact bAc (g:=fun k=>fB k ws.length 0 ws y t o cards) (fun k=>(sM k).2 _ _ _ _ _ _ _) (show ws.length+1≤k by omega) hb1
  · have w4 : tN (wrap64 ((ws.length : Int) - y)) = ((ws.length : Int) - y + 3) / 4 := by
      rw [w] at c1 ⊢;unfold tN;rw [dX (n:=(ws.length:Int) - y+4) (by omega) (by omega),dX (n:=(ws.length:Int) - y+4 - 1) (by omega) (by omega),qB (by omega),show (ws.length:Int) - y+4 - 1=(ws.length:Int) - y+3 by omega,dX (by omega) (by omega)]
    rw [w] at c1;exact ⟨hok,c0.1,c0.2,c1.1,c1.2,c2.1,c2.2,c3.1,c3.2,by rw [c4,w4]⟩
theorem bKh {cs:Cs} {ws:List Int} {y t o:Int} {cards:List Bool} (hb:Bnd cs ws y t o cards) {W:List Int} (hw:Wlk cs ws W) (m:Mm) (hm:m=⟨ws,y,t,o,cards,gH cs,W.map (· +1)⟩):
  ∃b,(∀q,300≤q→pG q m (W.map (· +1))=some b)∧∀k,500≤k→kP k cs W (jO W ws.length) 0 ws y t o cards=some b:=by
 have hlen:=hw.len
 have key: ∀d i:Nat,i+d=W.length→∃b,(∀q,300≤q→pG q m ((W.drop i).map (· +1))=some b)∧∀k,d+201≤k→kP k cs W (jO W ws.length) i ws y t o cards=some b:=by
  intro d
  induction d with
  |zero=>
   intro i hi;refine ⟨true,fun q _=>by rw [kW (by omega)];rfl,fun k hk=>?_⟩;obtain ⟨k,rfl⟩: ∃m,k=m+1:=⟨k - 1,by omega⟩;rw [kP,if_neg (by omega)]
  | succ d ih =>
   intro i hi;have hlt:i<W.length:=by omega
   obtain ⟨b,h1,h2⟩:=bLo hb hw m hm (pN hlt);obtain ⟨b',h3,h4⟩:=ih (i+1) (by omega);have hd:(W.drop i).map (· +1)=(W[i]+1)::(W.drop (i+1)).map (· +1):=by rw [fO hlt];rfl
   refine ⟨if b=true then b' else false,fun q hq=>?_,fun k hk=>?_⟩
   ·rw [hd, pG, h1 q hq, bD]
    cases b with
    |true=>exact h3 q hq
    |false=>rfl
   ·obtain ⟨k, rfl⟩ : ∃ m, k = m + 1 := ⟨k - 1, by omega⟩
    rw [kP,if_pos (by omega),if_pos (by omega),bAu hlt,h2 k (by omega),bD,jA (n:=1048577) (by omega) (by omega) (by omega)]
    cases b with
    |true=>have:=h4 k (by omega);rw [show ((i+1:Nat):Int)=(i:Int)+1 by omega] at this;exact this
    |false=>rfl
 obtain ⟨b,h1,h2⟩:=key W.length 0 (by omega);exact ⟨b,h1,fun k hk=>h2 k (by omega)⟩
def Prt (cs:Cs) (ws:List Int) (y t o:Int) (W:List Int):Prop:= ∀x∈W,(0≤x∧0<jK ws (gH cs) t x∧jK ws (gH cs) t x≤t - x)∨(y≤x∧0<jK ws (gH cs) o x∧jK ws (gH cs) o x≤o - x)
theorem bLw {cs:Cs} (hf:bFa cs) {ws:List Int} {y t o:Int} {cards:List Bool} (hn:ws.length≤1048576) (hc:cards.length≤1048576):
  ∃r:Option Mm,(∀k,4000000≤k→yY k k cs ws y t o cards=some r)∧(∀k,4000000≤k→mJ k cs ws y t o cards=some r.isSome)∧
   (∀m,r=some m→∃W,Bnd cs ws y t o cards∧Wlk cs ws W∧m=⟨ws,y,t,o,cards,gH cs,W.map (· +1)⟩∧(∀k,4000000≤k→jF k cs ws y t o cards=some (W,true))∧Prt cs ws y t o W∧W=(pw ws (gH cs) t t.toNat 0).1++(pw ws (gH cs) o (o - y).toNat y).1∧∀q,300≤q→pG q m (W.map (· +1))=some true):=by
 cases hok:sD cs with
 | false =>
  refine ⟨none,fun k hk=>?_,fun k hk=>?_,fun m hm=>by cases hm⟩
  ·unfold yY
   rw [nV cs k (by omega),hok];rfl
  ·unfold mJ mF
   rw [xJ hf k (by omega),hok];obtain ⟨k,rfl⟩: ∃m,k=m+1:=⟨k - 1,by omega⟩;rw [bD,if_neg (by simp),dI,if_pos rfl];rfl
 |true=>
 obtain ⟨p,hp1,hp2,hp3⟩:=bFm (cs:=cs) (y:=y) (t:=t) (o:=o) hf hok hn hc
 cases p with
 | false =>
  refine ⟨none,fun k hk=>?_,fun k hk=>?_,fun m hm=>by cases hm⟩
  ·unfold yY
   rw [nV cs k (by omega),hok,bD,if_pos rfl,hp1];rfl
  ·unfold mJ
   rw [hp2 k hk];rfl
 |true=>
 have hb:=hp3 rfl;have n0:=hb.n0;have n1:=hb.n1;have y0:=hb.y0;have y1:=hb.y1;have t0:=hb.t0;have t1:=hb.t1;have o0:=hb.o0;have o1:=hb.o1;obtain ⟨r1,h1⟩: ∃r1,r1=pw ws (gH cs) t t.toNat 0:=⟨_,rfl⟩;obtain ⟨r2,h2⟩: ∃r2,r2=pw ws (gH cs) o (o - y).toNat y:=⟨_,rfl⟩;have l1:=yP ws (gH cs) t t.toNat 0;have l2:=yP ws (gH cs) o (o - y).toNat y;have m1:=zL ws (gH cs) t t.toNat 0;have m2:=zL ws (gH cs) o (o - y).toNat y;have s1:=xZ ws (gH cs) t t.toNat 0;have s2:=xZ ws (gH cs) o (o - y).toNat y;rw [←h1] at l1 m1 s1;rw [←h2] at l2 m2 s2
 have hM: ∀k,4000000≤k→yY k k cs ws y t o cards=if r1.2=true then (if r2.2=true then (pG k ⟨ws,y,t,o,cards,gH cs,(r1.1++r2.1).map (· +1)⟩ ((r1.1++r2.1).map (· +1))).bind fun ok=>if ok=true then some (some ⟨ws,y,t,o,cards,gH cs,(r1.1++r2.1).map (· +1)⟩) else some none else some none) else some none:=fun k hk=>by
  unfold yY
  rw [nV cs k (by omega),hok,bD,if_pos rfl,hp1,bD,if_pos rfl,bBv hok k (by omega),bD,if_pos ⟨bHu hok,hn,hc⟩,
   zK ws (gH cs) t t.toNat 0 [] k (by omega) (by omega),←h1,bD]
  by_cases c:r1.2=true
  ·rw [if_pos c, if_pos c, if_pos (by simp; omega), zK ws (gH cs) o (o - y).toNat y _ k (by omega) (by omega), ← h2, bD]
   by_cases c2:r2.2=true
   ·rw [if_pos c2, if_pos c2, if_pos (by simp; omega)]
    simp only [qK,←List.map_append]
   ·rw [if_neg c2,if_neg c2]
  ·rw [if_neg c,if_neg c]
 have hW: ∀k,4000000≤k→jF k cs ws y t o cards=some (r1.1++r2.1,r1.2&&r2.2):=fun k hk=>by
  unfold jF nD;rw [bBm hok hn (by omega) t.toNat 0 [] k (by omega) (by omega) (by omega) (by simp;omega),←h1,bD,bBm hok hn (by omega) (o - y).toNat y [] k (by omega) (by omega) (by omega) (by simp;omega),←h2,bD];simp only [qK]
  rw [if_pos (by omega),bD]
  cases r1.2 with
  |true=>rw [if_pos rfl];rfl
  |false=>rw [if_neg (by simp)];rfl
 have hS: ∀k,4000000≤k→mJ k cs ws y t o cards=if (r1.2&&r2.2)=true then (kE k ws.length (r1.1++r2.1)).bind fun S=>kP k cs (r1.1++r2.1) S 0 ws y t o cards else some false:=fun k hk=>by
  unfold mJ;rw [hp2 k hk,bD,if_pos rfl,hW k hk,bD]
 cases c1:r1.2 with
 |false=>
  refine ⟨none,fun k hk=>by rw [hM k hk,c1];rfl,fun k hk=>by rw [hS k hk,c1];rfl,fun m hm=>by cases hm⟩
 |true=>
 cases c2:r2.2 with
 |false=>
  refine ⟨none,fun k hk=>by rw [hM k hk,c1,c2];rfl,fun k hk=>by rw [hS k hk,c1,c2];rfl,fun m hm=>by cases hm⟩
 |true=>
 have hw:Wlk cs ws (r1.1++r2.1):=by
  refine ⟨fun x hx=>?_,?_,by rw [cG];omega⟩
  ·rcases rR.mp hx with z | z
   ·have:=m1 x z;exact ⟨t,by omega,by omega,by omega,by omega,by omega⟩
   ·have:=m2 x z;exact ⟨o,by omega,by omega,by omega,by omega,by omega⟩
  ·rw [List.pairwise_append]
   exact ⟨s1,s2,fun a ha b hb'=>by have:=m1 a ha;have:=m2 b hb';omega⟩
 obtain ⟨b,b1,b2⟩:=bKh hb hw _ rfl;have hst: ∀k,4000000≤k→kE k ws.length (r1.1++r2.1)=some (jO (r1.1++r2.1) ws.length):=fun k hk=>bFe (fun x hx=>qG hw hx) (by have:=hw.len;omega) (by omega) k (by omega)
 cases b with
 |false=>
  refine ⟨none,fun k hk=>by rw [hM k hk,if_pos c1,if_pos c2,b1 k (by omega)];rfl,fun k hk=>by rw [hS k hk,c1,c2,if_pos (show (true&&true)=true from rfl),hst k hk,bD,b2 k (by omega)];rfl,fun m hm=>by cases hm⟩
 |true=>
  refine ⟨some ⟨ws,y,t,o,cards,gH cs,(r1.1++r2.1).map (· +1)⟩,fun k hk=>by rw [hM k hk,if_pos c1,if_pos c2,b1 k (by omega)];rfl,fun k hk=>by rw [hS k hk,c1,c2,if_pos (show (true&&true)=true from rfl),hst k hk,bD,b2 k (by omega)];rfl,fun m hm=>?_⟩;obtain rfl:=bC hm;refine ⟨r1.1++r2.1,hb,hw,rfl,fun k hk=>by rw [hW k hk,c1,c2];rfl,fun x hx=>?_,by rw [h1,h2],fun q hq=>b1 q hq⟩;rcases rR.mp hx with z|z
  ·have:=m1 x z;exact .inl ⟨by omega,this.2.2.1,this.2.2.2⟩
  ·have:=m2 x z;exact .inr ⟨by omega,this.2.2.1,this.2.2.2⟩
theorem bEd {ws:List Int} {F:List (List Int)} {e e' x:Int} (h:0<jK ws F e x) (he:e≤e'):jK ws F e' x=jK ws F e x:=by
 unfold jK at h ⊢;by_cases c0:rd ws x<0
 ·rw [if_pos c0] at h ⊢
  rw [if_pos c0];by_cases c1:x+1<e
  ·rw [if_pos c1] at h ⊢
   rw [if_pos (by omega)];by_cases c2:mN F (rd ws x) (rd ws (x+1))≤e - x
   ·rw [if_pos c2,if_pos (by omega)]
   ·rw [if_neg c2] at h;omega
  ·rw [if_neg c1] at h;omega
 ·rw [if_neg c0] at h ⊢
  rw [if_neg c0];by_cases c2:mN F (rd ws x) 0≤e - x
  ·rw [if_pos c2,if_pos (by omega)]
  ·rw [if_neg c2] at h;omega
theorem bIa {cs:Cs} {ws:List Int} {y t o:Int} {cards:List Bool} (hb:Bnd cs ws y t o cards) {W:List Int} (hk: ∀k,4000000≤k→jF k cs ws y t o cards=some (W,true)):
  W=(pw ws (gH cs) t t.toNat 0).1++(pw ws (gH cs) o (o - y).toNat y).1∧(pw ws (gH cs) t t.toNat 0).2=true∧(pw ws (gH cs) o (o - y).toNat y).2=true:=by
 have n0:=hb.n0;have n1:=hb.n1;have y0:=hb.y0;have y1:=hb.y1;have t0:=hb.t0;have t1:=hb.t1;have o0:=hb.o0;have o1:=hb.o1;have l1:=yP ws (gH cs) t t.toNat 0;have l2:=yP ws (gH cs) o (o - y).toNat y;have h:=hk 4000000 (bV _);unfold jF nD at h;rw [bBm hb.ok (by omega) (by omega) t.toNat 0 [] 4000000 (by omega) (by omega) (by omega) (by simp;omega),bD,bBm hb.ok (by omega) (by omega) (o - y).toNat y [] 4000000 (by omega) (by omega) (by omega) (by simp;omega),bD] at h;simp only [qK] at h;rw [if_pos (by omega),bD] at h
 cases c:(pw ws (gH cs) t t.toNat 0).2 with
 |true=>
  rw [c,if_pos rfl] at h;have h2:=bC h;exact ⟨(Prod.mk.inj h2).1.symm,rfl,(Prod.mk.inj h2).2⟩
 |false=>
  rw [c,if_neg (by simp)] at h;have h2:=bC h;exact absurd (Prod.mk.inj h2).2 (by simp)
def vD (c:Int):Int:=if c<0 then 2 else 1
def xF (cs:Cs) (ws:List Int) (x:Int):Int:=jK ws (gH cs) ws.length x
def VOk (cs:Cs) (W:List Int) (c k v:Int):Prop:=if bBp cs c k=true then v=0∨v - 1∈W else -128≤v∧v≤127
def Wd (cs:Cs) (ws:List Int) (y:Int) (cards:List Bool) (W:List Int) (x i k:Int):Prop:=
  VOk cs W (rd ws x) k (rd ws i)∧(bBp cs (rd ws x) k=true→x≥y→1≤rd ws i→rd ws i≤y→fW false cards ((i - y)/4)=true)
structure Opn (cs:Cs) (ws:List Int) (y t o:Int) (cards:List Bool) (W:List Int):Prop where
 b:Bnd cs ws y t o cards
 z: ∀j:Nat,j<ws.length→Zr ws y t o j
 w1:(pw ws (gH cs) t t.toNat 0).2=true
 w2:(pw ws (gH cs) o (o - y).toNat y).2=true
 w:W=(pw ws (gH cs) t t.toNat 0).1++(pw ws (gH cs) o (o - y).toNat y).1
 d: ∀x∈W,∀k,0≤k→k<xF cs ws x - vD (rd ws x)→Wd cs ws y cards W x (x+vD (rd ws x)+k) k
def vP (cs:Cs) (ws:List Int) (y t o:Int) (cards:List Bool) (W:List Int):Mm:=⟨ws,y,t,o,cards,gH cs,W.map (· +1)⟩
theorem bEc {cs:Cs} {ws:List Int} {y t o:Int} {cards:List Bool} (hb:Bnd cs ws y t o cards):jW ws y t o cards=some true↔∀j:Nat,j<ws.length→Zr ws y t o j:=by
 have n0:=hb.n0;have n1:=hb.n1;have y0:=hb.y0;have y1:=hb.y1;have t0:=hb.t0;have t1:=hb.t1;have o0:=hb.o0;have o1:=hb.o1;have cd:=hb.cd;have w:wrap64 ((ws.length:Int) - y)=(ws.length:Int) - y:=dX (by omega) (by omega)
 have w4:tN (wrap64 ((ws.length:Int) - y))=((ws.length:Int) - y+3)/4:=by
  rw [w];unfold tN;rw [dX (n:=(ws.length:Int) - y+4) (by omega) (by omega),dX (n:=(ws.length:Int) - y+4 - 1) (by omega) (by omega),qB (by omega),show (ws.length:Int) - y+4 - 1=(ws.length:Int) - y+3 by omega,dX (by omega) (by omega)]
 have e0:pV ws y t o cards 0=true:=bB ⟨y0,y1⟩
 have e1:pV ws y t o cards 1=true:=bB (by rw [w];exact ⟨n0,n1⟩)
 have e2:pV ws y t o cards 2=true:=bB ⟨t0,t1⟩
 have e3:pV ws y t o cards 3=true:=bB ⟨o0,o1⟩
 have e4:pV ws y t o cards 4=true:=beq_iff_eq.mpr (by rw [w4];exact cd)
 have h5:pV ws y t o cards 5=true↔∀j:Nat,t≤j→(j:Int)≤y - 1→ws.getD j 0=0:=by
  show ((ws.take y.toNat).drop t.toNat).all (· ==0)=true↔_
  rw [vG]
  constructor
  ·intro h j h1 h2
   have:=h j (by omega) (by rw [dH];omega)
   rw [bM,dQ,if_pos (by omega)] at this;rw [bM];exact this
  ·intro h j h1 h2
   rw [dH] at h2;rw [bM,dQ,if_pos (by omega)];have:=h j (by omega) (by omega)
   rw [bM] at this;exact this
 have h6:pV ws y t o cards 6=true↔∀j:Nat,o≤j→j<ws.length→ws.getD j 0=0:=by
  show ((ws.drop y.toNat).drop (o - y).toNat).all (· ==0)=true↔_
  rw [List.drop_drop,vG]
  constructor
  ·intro h j h1 h2;exact h j (by omega) h2
  ·intro h j h1 h2;exact h j (by omega) h2
 unfold jW;rw [if_pos (by omega),e0,e1,e2,e3,e4];simp only [jD,fE,dS]
 rw [h5,h6]
 constructor
 ·rintro ⟨q1, q2⟩ j hj z
  rcases z with z|z
  ·exact q1 j z.1 z.2
  ·exact q2 j z hj
 ·intro q
  exact ⟨fun j h1 h2=>q j (by omega) (Or.inl ⟨h1,h2⟩),fun j h1 h2=>q j h2 (Or.inr h1)⟩
theorem sO {cs:Cs} {ws:List Int} {y t o:Int} {cards:List Bool} (hb:Bnd cs ws y t o cards) {W:List Int} (hw:Wlk cs ws W) {x:Int} (hx:x∈W):
  0≤x∧x<ws.length∧0≤xF cs ws x - vD (rd ws x)∧xF cs ws x - vD (rd ws x)≤8∧x+xF cs ws x≤ws.length∧(vD (rd ws x)=1∨vD (rd ws x)=2)∧(rd ws x<0→vD (rd ws x)=2)∧
   mI (vP cs ws y t o cards W) (x+1)=some (xF cs ws x - vD (rd ws x))∧jY (vP cs ws y t o cards W) (x+1)=some (x+vD (rd ws x))∧
   (∀k,0≤k→k<xF cs ws x - vD (rd ws x)→mH (vP cs ws y t o cards W) (x+1) k=some (bBp cs (rd ws x) k))∧∀k,20≤k→kN k cs ws x ws.length=some (xF cs ws x):=by
 have n0:=hb.n0;have n1:=hb.n1;have y0:=hb.y0;have y1:=hb.y1;obtain ⟨cc,hd,cnt,hcc,h0,hhd,hcn,hcn8,hsz,hco,hfi,hhe,hl21,hle,hcl⟩:=zH (t:=t) (o:=o) (cards:=cards) hb hw _ rfl hx;have hxr:=qG hw hx;have h20:=hl21 20 (bV _);rw [bBc hb.ok (by omega) h0 (Int.le_refl _) 20 (by omega),if_pos hxr.2] at h20;have h20:=bC h20
 have hh:vD (rd ws x)=hd:=by
  unfold jH at hhe;unfold vD;rw [←hcc];by_cases c:cc<0
  ·rw [if_pos c] at hhe ⊢;exact bC hhe
  ·rw [if_neg c] at hhe ⊢;exact bC hhe
 have hs:xF cs ws x - vD (rd ws x)=cnt:=by unfold xF;rw [hh,h20];omega
 have hs2:xF cs ws x=hd+cnt:=by unfold xF;exact h20
 rw [hs,hh];refine ⟨h0,hxr.2,hcn,hcn8,by omega,hhd,fun hn=>?_,hco,hfi,fun k k0 k1=>by rw [←hcc];exact hle k k0 k1,fun k hk=>by rw [hs2];exact hl21 k hk⟩;rw [←hh];unfold vD;rw [if_pos hn]
theorem bGq {cs:Cs} {ws:List Int} {y t o:Int} {cards:List Bool} (hb:Bnd cs ws y t o cards) {W:List Int} (hw:Wlk cs ws W) {x:Int} (hx:x∈W) {k:Int} (k0:0≤k) (k1:k<xF cs ws x - vD (rd ws x)) (q:Nat) (hq:300≤q):
  xT q (vP cs ws y t o cards W) (x+1) k=some true↔Wd cs ws y cards W x (x+vD (rd ws x)+k) k:=by
 have n0:=hb.n0;have n1:=hb.n1;have y0:=hb.y0;have y1:=hb.y1;have cd:=hb.cd;obtain ⟨h0,h1,h2,h3,h4,h5,_,hco,hfi,hle,_⟩:=sO (t:=t) (o:=o) (cards:=cards) hb hw hx;obtain ⟨i,hi⟩: ∃i,i=x+vD (rd ws x)+k:=⟨_,rfl⟩;obtain ⟨v,hv⟩: ∃v,v=rd ws i:=⟨_,rfl⟩;rw [←hi];have hi0:x<i∧i<ws.length:=by omega
 have hA:xT q (vP cs ws y t o cards W) (x+1) k=if bBp cs (rd ws x) k=true then (if v=0 then some true else (nR q (vP cs ws y t o cards W) v).bind fun h=>if h=true then yV (vP cs ws y t o cards W) (x+1) v i else some false) else nX v:=by
  unfold xT;rw [hfi,bD,show (vP cs ws y t o cards W).words=ws from rfl,←hi,if_pos (by omega),hle k k0 k1,bD,←hv]
 rw [hA];unfold Wd VOk;rw [←hv];by_cases l:bBp cs (rd ws x) k=true
 case neg=>
  rw [if_neg l,if_neg l]
  have hw8:nX v=some (decide (-128≤v∧v≤127)):=by
   unfold nX;by_cases q:v≥ -128
   ·rw [if_pos q];simp [show -128≤v from q]
   ·rw [if_neg q];simp [show¬ -128≤v from q]
  rw [hw8,fE,rK];exact ⟨fun h=>⟨h,fun e=>absurd e l⟩,fun h=>h.1⟩
 case pos=>
 rw [if_pos l,if_pos l];by_cases v0:v=0
 ·rw [if_pos v0]
  exact ⟨fun _=>⟨.inl v0,fun _ _ e=>by omega⟩,fun _=>rfl⟩
 rw [if_neg v0,bIr hw _ rfl v q hq,bD];by_cases vw:v - 1∈W
 case neg=>
  rw [bJ vw];exact ⟨fun h=>by simp at h,fun h=>absurd (h.1.resolve_left v0) vw⟩
 case pos=>
 have hvr:=qG hw vw;rw [bB vw,if_pos rfl]
 have hC:yV (vP cs ws y t o cards W) (x+1) v i=if x≥y then (if 1≤v∧v≤y then some (fW false cards ((i - y)/4)) else some true) else some true:=by
  unfold yV;show (if x+1>y then (if v>y then some true else (if 0≤wrap64 (Int.tdiv (wrap64 (i - y)) 4)∧wrap64 (Int.tdiv (wrap64 (i - y)) 4)<(cards.length:Int) then some (fW false cards (wrap64 (Int.tdiv (wrap64 (i - y)) 4))) else none)) else some true)=_
  by_cases z1:x≥y
  ·rw [if_pos (show x + 1 > y by omega), if_pos z1]
   by_cases z2:v>y
   ·rw [if_pos z2,if_neg (by omega)]
   ·rw [if_neg z2,if_pos (show 1≤v∧v≤y by omega),dX (n:=i - y) (by omega) (by omega),qB (by omega),dX (n:=(i - y)/4) (by omega) (by omega),if_pos (by omega)]
  ·rw [if_neg (show¬x+1>y by omega),if_neg z1]
 rw [hC];by_cases z1:x≥y
 ·rw [if_pos z1]
  by_cases z2:1≤v∧v≤y
  ·rw [if_pos z2, fE]
   exact ⟨fun h=>⟨.inr vw,fun _ _ _ _=>h⟩,fun h=>h.2 l z1 z2.1 z2.2⟩
  ·rw [if_neg z2]
   exact ⟨fun _=>⟨.inr vw,fun _ _ a b=>absurd ⟨a,b⟩ z2⟩,fun _=>rfl⟩
 ·rw [if_neg z1]
  exact ⟨fun _=>⟨.inr vw,fun _ a=>absurd a z1⟩,fun _=>rfl⟩
theorem bHz (q:Nat) (m:Mm) (a n:Int): ∀(d:Nat) (k:Int) (j:Nat),0≤k→k+d=n→d+1≤j→(wordsOk.l q m a n j k=some true↔∀i,k≤i→i<n→xT q m a i=some true):=by
 intro d
 induction d with
 |zero=>
  intro k j h0 hd hj;obtain ⟨j,rfl⟩: ∃i,j=i+1:=⟨j - 1,by omega⟩;rw [wordsOk.l,if_neg (by omega)];exact ⟨fun _ i h1 h2=>by omega,fun _=>rfl⟩
 | succ d ih =>
  intro k j h0 hd hj;obtain ⟨j,rfl⟩: ∃i,j=i+1:=⟨j - 1,by omega⟩;rw [wordsOk.l,if_pos (by omega)];have ih:=ih (k+1) j (by omega) (by omega) (by omega)
  constructor
  ·intro h i h1 h2
   obtain ⟨b,hb,h⟩:=Option.bind_eq_some_iff.mp h
   cases b with
   |false=>simp at h
   |true=>
    rw [if_pos rfl] at h;rcases Int.lt_or_eq_of_le h1 with z|z
    ·exact ih.mp h i (by omega) h2
    ·rw [←z];exact hb
  ·intro h
   rw [h k (by omega) (by omega),bD,if_pos rfl];exact ih.mpr (fun i h1 h2=>h i (by omega) h2)
theorem bDq (q:Nat) (m:Mm): ∀L:List Int,pG q m L=some true↔∀a∈L,rO q m a=some true
 |[]=>by simp [pG]
 | a :: r => by
  have ih:=bDq q m r;rw [pG]
  constructor
  ·intro h z hz
   obtain ⟨b,hb,h⟩:=Option.bind_eq_some_iff.mp h
   cases b with
   |false=>simp at h
   |true=>
    rw [if_pos rfl] at h;rcases List.mem_cons.mp hz with rfl|hz
    ·exact hb
    ·exact ih.mp h z hz
  ·intro h
   rw [h a (gE ..),bD,if_pos rfl];exact ih.mpr (fun z hz=>h z (fZ _ hz))
theorem bHs {cs:Cs} {ws:List Int} {y t o:Int} {cards:List Bool} (hb:Bnd cs ws y t o cards) {W:List Int} (hw:Wlk cs ws W) (q:Nat) (hq:300≤q):
  pG q (vP cs ws y t o cards W) (W.map (· +1))=some true↔∀x∈W,∀k,0≤k→k<xF cs ws x - vD (rd ws x)→Wd cs ws y cards W x (x+vD (rd ws x)+k) k:=by
 rw [bDq]
 have one: ∀x∈W,rO q (vP cs ws y t o cards W) (x+1)=some true↔∀k,0≤k→k<xF cs ws x - vD (rd ws x)→Wd cs ws y cards W x (x+vD (rd ws x)+k) k:=fun x hx=>by
  obtain ⟨h0,h1,h2,h3,h4,h5,_,hco,hfi,hle,_⟩:=sO (t:=t) (o:=o) (cards:=cards) hb hw hx;unfold rO;rw [hco,bD,if_pos (by omega),bHz q _ (x+1) _ (xF cs ws x - vD (rd ws x)).toNat 0 _ (by omega) (by omega) (by omega)];exact ⟨fun h k k0 k1=>(bGq hb hw hx k0 k1 q hq).mp (h k k0 k1),fun h k k0 k1=>(bGq hb hw hx k0 k1 q hq).mpr (h k k0 k1)⟩
 constructor
 ·intro h x hx
  exact (one x hx).mp (h (x+1) (List.mem_map.mpr ⟨x,hx,rfl⟩))
 ·intro h a ha
  obtain ⟨x,hx,rfl⟩:=List.mem_map.mp ha;exact (one x hx).mpr (h x hx)
theorem Opn.wlk {cs:Cs} {ws:List Int} {y t o:Int} {cards:List Bool} {W:List Int} (h:Opn cs ws y t o cards W):Wlk cs ws W:=by
 have n0:=h.b.n0;have n1:=h.b.n1;have y0:=h.b.y0;have y1:=h.b.y1;have t0:=h.b.t0;have t1:=h.b.t1;have o0:=h.b.o0;have o1:=h.b.o1;have l1:=yP ws (gH cs) t t.toNat 0;have l2:=yP ws (gH cs) o (o - y).toNat y;have m1:=zL ws (gH cs) t t.toNat 0;have m2:=zL ws (gH cs) o (o - y).toNat y;have s1:=xZ ws (gH cs) t t.toNat 0;have s2:=xZ ws (gH cs) o (o - y).toNat y;rw [h.w];refine ⟨fun x hx=>?_,?_,by rw [cG];omega⟩
 ·rcases rR.mp hx with z | z
  ·have:=m1 x z;exact ⟨t,by omega,by omega,by omega,by omega,by omega⟩
  ·have:=m2 x z;exact ⟨o,by omega,by omega,by omega,by omega,by omega⟩
 ·rw [List.pairwise_append]
  exact ⟨s1,s2,fun a ha b hb'=>by have:=m1 a ha;have:=m2 b hb';omega⟩
theorem Opn.to {cs:Cs} {ws:List Int} {y t o:Int} {cards:List Bool} {W:List Int} (h:Opn cs ws y t o cards W): ∀k,4000000≤k→yY k k cs ws y t o cards=some (some (vP cs ws y t o cards W)):=by
 intro k hk;have n0:=h.b.n0;have n1:=h.b.n1;have y0:=h.b.y0;have y1:=h.b.y1;have t0:=h.b.t0;have t1:=h.b.t1;have o0:=h.b.o0;have o1:=h.b.o1;have cd:=h.b.cd;have l1:=yP ws (gH cs) t t.toNat 0;have l2:=yP ws (gH cs) o (o - y).toNat y;have hp:jW ws y t o cards=some true:=(bEc h.b).mpr h.z
 have ht:=(bHs h.b h.wlk k (by omega)).mpr h.d;unfold yY
 rw [nV cs k (by omega),h.b.ok,bD,if_pos rfl,hp,bD,if_pos rfl,bBv h.b.ok k (by omega),bD,if_pos ⟨bHu h.b.ok,by omega,by omega⟩,
  zK ws (gH cs) t t.toNat 0 [] k (by omega) (by omega),bD,if_pos h.w1,if_pos (by simp;omega),zK ws (gH cs) o (o - y).toNat y _ k (by omega) (by omega),bD,if_pos h.w2,if_pos (by simp;omega)]
 simp only [qK,←List.map_append]
 rw [←h.w];unfold vP at ht ⊢;rw [ht];rfl
theorem opn_of {cs:Cs} (hf:bFa cs) {ws:List Int} {y t o:Int} {cards:List Bool} (hn:ws.length≤1048576) (hc:cards.length≤1048576):
  ∃r:Option Mm,(∀k,4000000≤k→yY k k cs ws y t o cards=some r)∧(∀k,4000000≤k→mJ k cs ws y t o cards=some r.isSome)∧∀m,r=some m→∃W,Opn cs ws y t o cards W∧m=vP cs ws y t o cards W∧(∀k,4000000≤k→jF k cs ws y t o cards=some (W,true)):=by
 obtain ⟨r,h1,h2,h3⟩:=bLw (cs:=cs) hf (ws:=ws) (y:=y) (t:=t) (o:=o) (cards:=cards) hn hc;refine ⟨r,h1,h2,fun m hm=>?_⟩;obtain ⟨W,hb,hw,hm2,hk,hp,hW,ht⟩:=h3 m hm;obtain ⟨e,p1,p2⟩:=bIa hb hk;refine ⟨W,⟨hb,?_,p1,p2,e,?_⟩,hm2,hk⟩
 ·refine (bEc hb).mp ?_
  obtain ⟨p,hp1,_,_⟩:=bFm (cs:=cs) (y:=y) (t:=t) (o:=o) hf hb.ok hn hc
  cases p with
  |true=>exact hp1
  |false=>
   have q:=h1 4000000 (bV _);unfold yY at q;rw [nV cs 4000000 (by omega),hb.ok,bD,if_pos rfl,hp1,bD,if_neg (by simp)] at q;rw [hm] at q;simp at q
 ·have := ht 300 (bV _)
  rw [hm2] at this;exact (bHs hb hw 300 (bV _)).mp this
def Chn (sz:Int→Int) (e:Int):Int→List Int→Prop
  |i,[]=>i=e
  |i,x::r=>x=i∧Chn sz e (i+sz i) r
theorem bIj (ws:List Int) (F:List (List Int)) (e N:Int) (hN:e≤N): ∀(n:Nat) (i:Int),(e - i).toNat≤n→i≤e→(pw ws F e n i).2=true→Chn (jK ws F N) e i (pw ws F e n i).1
 |0,i,h,hi,_=>by simp only [pw,Chn];omega
 | n + 1, i, h, hi, ht => by
  rw [pw] at ht ⊢;by_cases c:i<e
  ·rw [if_pos c] at ht ⊢
   by_cases c2:jK ws F e i=0
   ·rw [if_pos c2] at ht;simp at ht
   ·rw [if_neg c2] at ht ⊢
    have hl:=zN ws F e i;have hu:=bEd (ws:=ws) (F:=F) (e:=e) (x:=i) (by omega) hN;refine ⟨rfl,?_⟩;rw [hu];exact bIj ws F e N hN n (i+jK ws F e i) (by omega) (by omega) ht
  ·rw [if_neg c];simp only [Chn];omega
theorem bCj {sz:Int→Int} {e:Int}: ∀(L:List Int) (i:Int),Chn sz e i L→(∀x∈L,0<sz x)→(∀x∈L,i≤x)∧∀x∈L,∀z∈L,x<z→x+sz x≤z
 |[],_,_,_=>⟨by simp,by simp⟩
 | a :: r, i, ⟨ha, hr⟩, hp => by
  have h1:=hp a (gE ..);obtain ⟨q1,q2⟩:=bCj r _ hr (fun x hx=>hp x (fZ _ hx));subst ha;refine ⟨fun x hx=>?_,fun x hx z hz hxz=>?_⟩
  ·rcases List.mem_cons.mp hx with rfl | hx
   ·exact Int.le_refl _
   ·have:=q1 x hx;omega
  ·rcases List.mem_cons.mp hx with e | hx2
   ·rcases List.mem_cons.mp hz with e2 | hz2
    ·omega
    ·subst e;exact q1 z hz2
   ·rcases List.mem_cons.mp hz with e2 | hz2
    ·have:=q1 x hx2;omega
    ·exact q2 x hx2 z hz2 hxz
section
variable {cs:Cs} {ws:List Int} {y t o:Int} {cards:List Bool} {W:List Int}
theorem Opn.part (h:Opn cs ws y t o cards W) {x:Int} (hx:x∈W):(0≤x∧x+xF cs ws x≤t∧0<xF cs ws x∧x∈(pw ws (gH cs) t t.toNat 0).1)∨(y≤x∧x+xF cs ws x≤o∧0<xF cs ws x∧x∈(pw ws (gH cs) o (o - y).toNat y).1):=by
 have n0:=h.b.n0;have n1:=h.b.n1;have t1:=h.b.t1;have o1:=h.b.o1;have y1:=h.b.y1;rw [h.w] at hx;unfold xF;rcases rR.mp hx with z|z
 ·have m := zL ws (gH cs) t t.toNat 0 x z
  rw [bEd m.2.2.1 (show t≤ws.length by omega)];exact .inl ⟨by omega,by omega,by omega,z⟩
 ·have m := zL ws (gH cs) o (o - y).toNat y x z
  rw [bEd m.2.2.1 (show o≤ws.length by omega)];exact .inr ⟨by omega,by omega,by omega,z⟩
theorem Opn.apart (h:Opn cs ws y t o cards W) {x z:Int} (hx:x∈W) (hz:z∈W) (hxz:x<z):x+xF cs ws x≤z:=by
 have n0:=h.b.n0;have n1:=h.b.n1;have t0:=h.b.t0;have t1:=h.b.t1;have o0:=h.b.o0;have o1:=h.b.o1;have y1:=h.b.y1;have c1:=bIj ws (gH cs) t ws.length (by omega) t.toNat 0 (by omega) (by omega) h.w1;have c2:=bIj ws (gH cs) o ws.length (by omega) (o - y).toNat y (by omega) (by omega) h.w2;have pos: ∀x∈W,0<jK ws (gH cs) ws.length x:=fun x hx=>by have:=h.part hx;unfold xF at this;omega
 have a1:=bCj _ _ c1 (fun x hx=>pos x (by rw [h.w];exact mK _ hx));have a2:=bCj _ _ c2 (fun x hx=>pos x (by rw [h.w];exact sI _ hx));rcases h.part hx with ⟨p1,p2,p3,p4⟩|⟨p1,p2,p3,p4⟩
 ·rcases h.part hz with ⟨q1, q2, q3, q4⟩ | ⟨q1, q2, q3, q4⟩
  ·exact a1.2 x p4 z q4 hxz
  ·omega
 ·rcases h.part hz with ⟨q1, q2, q3, q4⟩ | ⟨q1, q2, q3, q4⟩
  ·omega
  ·exact a2.2 x p4 z q4 hxz
theorem Opn.know (h:Opn cs ws y t o cards W) {x:Int} (hx:x∈W):0≤x∧x<ws.length∧0≤xF cs ws x - vD (rd ws x)∧xF cs ws x - vD (rd ws x)≤8∧x+xF cs ws x≤ws.length∧(vD (rd ws x)=1∨vD (rd ws x)=2)∧(rd ws x<0→vD (rd ws x)=2):=by
  obtain ⟨a,b,c,d,e,f,g,_⟩:=sO h.b h.wlk hx;exact ⟨a,b,c,d,e,f,g⟩
end
def ld (cs:Cs) (ws:List Int) (x r:Int):Bool:=decide (vD (rd ws x)≤r)&&bBp cs (rd ws x) (r - vD (rd ws x))
def bEz (cs:Cs) (ws:List Int) (x:Int):Nat→Int→List Int
  |0,_=>[]
  |d+1,r=>if ld cs ws x r=true then (x+r)::bEz cs ws x d (r+1) else bEz cs ws x d (r+1)
def kids (cs:Cs) (ws:List Int) (x:Int):List Int:=bEz cs ws x (xF cs ws x).toNat 0
section
variable {cs:Cs} {ws:List Int} {y t o:Int} {cards:List Bool} {W:List Int}
theorem Opn.sz0 (H:Opn cs ws y t o cards W) {x:Int} (hx:x∈W):0<xF cs ws x:=by
  rcases Opn.part H hx with h|h<;>exact h.2.2.1
theorem Opn.lead (H:Opn cs ws y t o cards W) {x:Int} (hx:x∈W) {r:Int} (r1:r<xF cs ws x) (hl:ld cs ws x r=true):vD (rd ws x)≤r∧bBp cs (rd ws x) (r - vD (rd ws x))=true∧(rd ws (x+r)=0∨rd ws (x+r) - 1∈W)∧
  (x≥y→1≤rd ws (x+r)→rd ws (x+r)≤y→fW false cards ((x+r - y)/4)=true):=by
 unfold ld at hl;rw [dS,rK] at hl;have hd:=H.d x hx (r - vD (rd ws x)) (by omega) (by omega);unfold Wd VOk at hd;rw [if_pos hl.2,show x+vD (rd ws x)+(r - vD (rd ws x))=x+r by omega] at hd;exact ⟨hl.1,hl.2,hd.1,fun a b c=>hd.2 hl.2 a b c⟩
theorem Opn.val (H:Opn cs ws y t o cards W) {v:Int} (hv:v=0∨v - 1∈W):0≤v∧v≤ws.length:=by
 rcases hv with h|h
 ·omega
 ·have:=qG H.wlk h;omega
theorem bHi (x:Int): ∀(n:Nat) (d:Nat) (r:Int),(∀i,r≤i→i<r+n→ld cs ws x i=false)→bEz cs ws x (d+n) r=bEz cs ws x d (r+n)
 |0,d,r,_=>by rw [show r+((0:Nat):Int)=r by omega];rfl
 |n+1,d,r,h=>by
  rw [show d+(n+1)=(d+n)+1 by omega,bEz,if_neg (by rw [h r (by omega) (by omega)];simp),bHi x n d (r+1) (fun i h1 h2=>h i (by omega) (by omega))]
  congr 1
  omega
theorem bJp (H:Opn cs ws y t o cards W) {x:Int} (hx:x∈W): ∀(d:Nat) (k:Int),0≤k→k+d=xF cs ws x - vD (rd ws x)→bIp (vP cs ws y t o cards W) (x+1) (x+vD (rd ws x)) d k=some (bEz cs ws x d (vD (rd ws x)+k))
 |0,k,k0,hk=>rfl
 |d+1,k,k0,hk=>by
  have n0:=H.b.n0;have n1:=H.b.n1;have y0:=H.b.y0;have y1:=H.b.y1;obtain ⟨h0,h1,h2,h3,h4,h5,_,hco,hfi,hle,_⟩:=sO (t:=t) (o:=o) (cards:=cards) H.b H.wlk hx;have e:ld cs ws x (vD (rd ws x)+k)=bBp cs (rd ws x) k:=by unfold ld;rw [bB (by omega),jD,show vD (rd ws x)+k - vD (rd ws x)=k by omega]
  rw [bIp,hle k k0 (by omega),bD,bJp H hx d (k+1) (by omega) (by omega),bD,bEz,e,dX (by omega) (by omega),show x+vD (rd ws x)+k=x+(vD (rd ws x)+k) by omega,show vD (rd ws x)+(k+1)=vD (rd ws x)+k+1 by omega]
theorem ledF_eq (H:Opn cs ws y t o cards W) {x:Int} (hx:x∈W):bKs (vP cs ws y t o cards W) (x+1)=some (kids cs ws x):=by
 obtain ⟨h0,h1,h2,h3,h4,h5,_,hco,hfi,hle,_⟩:=sO (t:=t) (o:=o) (cards:=cards) H.b H.wlk hx;unfold bKs;rw [hco,bD,if_pos (by omega),hfi,bD,bJp H hx _ 0 (by omega) (by omega)];unfold kids;have:=bHi (cs:=cs) (ws:=ws) x (vD (rd ws x)).toNat (xF cs ws x - vD (rd ws x)).toNat 0 (fun i i0 i1=>by unfold ld;rw [bJ (by omega)];rfl)
 rw [show (xF cs ws x - vD (rd ws x)).toNat+(vD (rd ws x)).toNat=(xF cs ws x).toNat by omega] at this;rw [this]
 congr 2
 omega
end
inductive Rch (cs:Cs) (ws:List Int) (roots:List Int):Int→Prop
  |root {v:Int}:v∈roots→v≠0→Rch cs ws roots v
  |kid {u r:Int}:Rch cs ws roots u→0≤r→r<xF cs ws (u - 1)→ld cs ws (u - 1) r=true→rd ws (u - 1+r)≠0→Rch cs ws roots (rd ws (u - 1+r))
def bGf (q:List Int) (v:Int):List Int:=if v=0 then q else if v∈q then q else q++[v]
def thQ (cs:Cs) (ws:List Int) (x:Int):Nat→Int→List Int→List Int
  |0,_,q=>q
  |d+1,r,q=>thQ cs ws x d (r+1) (if ld cs ws x r=true then bGf q (rd ws (x+r)) else q)
def twQ (cs:Cs) (ws:List Int) (q:List Int) (x:Int):List Int:=thQ cs ws x (xF cs ws x).toNat 0 q
def chQ (cs:Cs) (ws:List Int):Nat→Nat→List Int→List Int
  |0,_,q=>q
  |d+1,i,q=>if q.length≤i then q else chQ cs ws d (i+1) (twQ cs ws q (rd q i - 1))
def bHf (cs:Cs) (ws:List Int) (roots:List Int):List Int:=chQ cs ws 201 0 (roots.foldl bGf [])
def bAp (cs:Cs) (ws:List Int) (roots:List Int):List Int:=(bHf cs ws roots).mergeSort (fun x y=>decide (x≤y))
theorem bMl: ∀{a b:List Int},a.Pairwise (· < ·)→b.Pairwise (· < ·)→(∀x,x∈a↔x∈b)→a=b
 |[],[],_,_,_=>rfl
 |[],y::s,_,_,h=>absurd ((h y).mpr (gE ..)) (by simp)
 |x::r,[],_,_,h=>absurd ((h x).mp (gE ..)) (by simp)
 | x :: r, y :: s, ha, hb, h => by
  rw [List.pairwise_cons] at ha hb
  have e:x=y:=by
   rcases List.mem_cons.mp ((h x).mp (gE ..)) with q|q
   ·exact q
   ·rcases List.mem_cons.mp ((h y).mpr (gE ..)) with p | p
    ·exact p.symm
    ·have:=ha.1 y p;have:=hb.1 x q;omega
  subst e;rw [bMl ha.2 hb.2 (fun z=>?_)]
  constructor
  ·intro hz
   rcases List.mem_cons.mp ((h z).mp (fZ _ hz)) with q|q
   ·have:=ha.1 z hz;omega
   ·exact q
  ·intro hz
   rcases List.mem_cons.mp ((h z).mpr (fZ _ hz)) with q|q
   ·have:=hb.1 z hz;omega
   ·exact q
theorem yU (q:List Int) (v x:Int):x∈bGf q v↔x∈q∨(x=v∧v≠0):=by
 unfold bGf;by_cases c0:v=0
 ·rw [if_pos c0]
  exact ⟨.inl,fun h=>h.elim id (fun z=>absurd c0 z.2)⟩
 ·by_cases c1 : v ∈ q
  ·rw [if_neg c0, if_pos c1]
   exact ⟨.inl,fun h=>h.elim id (fun z=>by rw [z.1];exact c1)⟩
  ·rw [if_neg c0, if_neg c1, rR, pZ]
   exact ⟨fun h=>h.elim .inl (fun z=> .inr ⟨z,c0⟩),fun h=>h.elim .inl (fun z=> .inr z.1)⟩
theorem bDk {q:List Int} {v:Int} (h:q.Nodup):(bGf q v).Nodup:=by
 unfold bGf
 split
 ·exact h
 ·split
  ·exact h
  ·rename_i c
   rw [List.nodup_append];refine ⟨h,by simp,fun a ha b hb=>?_⟩;rw [pZ] at hb;intro e;rw [e,hb] at ha;exact c ha
theorem cmQ_pre (q:List Int) (v:Int): ∃l,bGf q v=q++l:=by
 unfold bGf
 split
 ·exact ⟨[],by simp⟩
 ·split
  ·exact ⟨[],by simp⟩
  ·exact ⟨[v],rfl⟩
structure QI (cs:Cs) (ws:List Int) (roots:List Int) (W:List Int) (q:List Int):Prop where
  nod:q.Nodup
  rch: ∀x∈q,Rch cs ws roots x
section
variable {cs:Cs} {ws:List Int} {y t o:Int} {cards:List Bool} {W roots q:List Int}
theorem Rch.inW (H:Opn cs ws y t o cards W) (hr: ∀v∈roots,v=0∨v - 1∈W) {v:Int} (h:Rch cs ws roots v):v≠0∧v - 1∈W:=by
 induction h with
 |root h1 h2=>exact ⟨h2,(hr _ h1).resolve_left h2⟩
 |kid _ r0 r1 hl hn ih=>exact ⟨hn,(H.lead ih.2 r1 hl).2.2.1.resolve_left hn⟩
theorem QI.len (H:Opn cs ws y t o cards W) (hr: ∀v∈roots,v=0∨v - 1∈W) (h:QI cs ws roots W q):q.length≤200:=by
 have h1:q.length≤(W.map (· +1)).length:=List.Nodup.length_le_of_subset h.nod (fun a ha=>List.mem_map.mpr ⟨a - 1,((h.rch a ha).inW H hr).2,by omega⟩)
 rw [gN] at h1;have:=H.wlk.len
 omega
theorem bId (H:Opn cs ws y t o cards W) (hr: ∀v∈roots,v=0∨v - 1∈W) {u:Int} (hu:Rch cs ws roots u): ∀(d:Nat) (r:Int) (q:List Int),0≤r→r+d=xF cs ws (u - 1)→QI cs ws roots W q→QI cs ws roots W (thQ cs ws (u - 1) d r q)∧(∃l,thQ cs ws (u - 1) d r q=q++l)∧
  ∀i,r≤i→i<xF cs ws (u - 1)→ld cs ws (u - 1) i=true→rd ws (u - 1+i)=0∨rd ws (u - 1+i)∈thQ cs ws (u - 1) d r q
 |0,r,q,_,hd,h=>⟨h,⟨[],by simp [thQ]⟩,fun i h1 h2=>by omega⟩
 | d + 1, r, q, r0, hd, h => by
  rw [thQ];by_cases c:ld cs ws (u - 1) r=true
  ·rw [if_pos c]
   have h1:QI cs ws roots W (bGf q (rd ws (u - 1+r))):=⟨bDk h.nod,fun x hx=>by
    rcases (yU q _ x).mp hx with z|z
    ·exact h.rch x z
    ·rw [z.1];exact .kid hu r0 (by omega) c z.2⟩
   obtain ⟨a1,⟨l1,e1⟩,k1⟩:=bId H hr hu d (r+1) _ (by omega) (by omega) h1;obtain ⟨l0,e0⟩:=cmQ_pre q (rd ws (u - 1+r));refine ⟨a1,⟨l0++l1,by rw [e1,e0,sJ]⟩,fun i i0 i1 hl=>?_⟩;by_cases ci:i=r
   ·subst ci
    by_cases c0:rd ws (u - 1+i)=0
    ·exact .inl c0
    ·right
     rw [e1];exact mK _ ((yU q _ _).mpr (.inr ⟨rfl,c0⟩))
   ·exact k1 i (by omega) i1 hl
  ·rw [if_neg c]
   obtain ⟨a1,e1,k1⟩:=bId H hr hu d (r+1) q (by omega) (by omega) h;refine ⟨a1,e1,fun i i0 i1 hl=>?_⟩;by_cases ci:i=r
   ·subst ci;exact absurd hl c
   ·exact k1 i (by omega) i1 hl
theorem bLm (H:Opn cs ws y t o cards W) (hr: ∀v∈roots,v=0∨v - 1∈W) {u:Int} (hu:Rch cs ws roots u) (h:QI cs ws roots W q):QI cs ws roots W (twQ cs ws q (u - 1))∧(∃l,twQ cs ws q (u - 1)=q++l)∧
  ∀i,0≤i→i<xF cs ws (u - 1)→ld cs ws (u - 1) i=true→rd ws (u - 1+i)=0∨rd ws (u - 1+i)∈twQ cs ws q (u - 1):=by
 have:=H.sz0 (hu.inW H hr).2
 exact bId H hr hu _ 0 q (by omega) (by omega) h
theorem bCa: ∀(L q:List Int),(∀v∈L,v∈roots)→QI cs ws roots W q→QI cs ws roots W (L.foldl bGf q)∧(∀x∈q,x∈L.foldl bGf q)∧∀v∈L,v=0∨v∈L.foldl bGf q
 |[],q,_,h=>⟨h,fun _ hx=>hx,fun v hv=>by simp at hv⟩
 | a :: r, q, hL, h => by
  rw [List.foldl_cons]
  have h1:QI cs ws roots W (bGf q a):=⟨bDk h.nod,fun x hx=>by
   rcases (yU q _ x).mp hx with z|z
   ·exact h.rch x z
   ·rw [z.1];exact .root (hL a (gE ..)) z.2⟩
  obtain ⟨a1,m1,k1⟩:=bCa r (bGf q a) (fun v hv=>hL v (fZ _ hv)) h1;refine ⟨a1,fun x hx=>m1 x ((yU q a x).mpr (.inl hx)),fun v hv=>?_⟩;rcases List.mem_cons.mp hv with e|hv
  ·by_cases c : v = 0
   ·exact .inl c
   ·exact .inr (m1 v ((yU q a v).mpr (.inr ⟨e,by rw [←e];exact c⟩)))
  ·exact k1 v hv
def CldQ (cs:Cs) (ws:List Int) (n:Nat) (q:List Int):Prop:= ∀j (h:j<q.length),j<n→∀i,0≤i→i<xF cs ws (q[j] - 1)→ld cs ws (q[j] - 1) i=true→rd ws (q[j] - 1+i)=0∨rd ws (q[j] - 1+i)∈q
theorem bIw (H:Opn cs ws y t o cards W) (hr: ∀v∈roots,v=0∨v - 1∈W): ∀(d i:Nat) (q:List Int),201≤d+i→QI cs ws roots W q→i≤q.length→CldQ cs ws i q→QI cs ws roots W (chQ cs ws d i q)∧(∀x∈q,x∈chQ cs ws d i q)∧CldQ cs ws (chQ cs ws d i q).length (chQ cs ws d i q)
 |0,i,q,hd,h,hi,hc=>by have:=h.len H hr;omega
 | d + 1, i, q, hd, h, hi, hc => by
  rw [chQ];by_cases c:q.length≤i
  ·rw [if_pos c]
   exact ⟨h,fun _ hx=>hx,fun j hj _=>hc j hj (by omega)⟩
  ·rw [if_neg c]
   have hlt:i<q.length:=by omega
   rw [bAu hlt];obtain ⟨a1,⟨l,e1⟩,k1⟩:=bLm H hr (h.rch q[i] (pN hlt)) h;have hl2:i+1≤(twQ cs ws q (q[i] - 1)).length:=by rw [e1,cG];omega
   obtain ⟨a2,m2,c2⟩:=bIw H hr d (i+1) _ (by omega) a1 hl2 (fun j hj hjn=>by
    have ej:(twQ cs ws q (q[i] - 1))[j]=q[j]'(by omega):=by simp only [e1];exact List.getElem_append_left (by omega)
    rw [ej];by_cases cj:j=i
    ·subst cj;exact k1
    ·intro z z0 z1 hl
     rcases hc j (by omega) (by omega) z z0 z1 hl with p|p
     ·exact .inl p
     ·exact .inr (by rw [e1];exact mK _ p))
   exact ⟨a2,fun x hx=>m2 x (by rw [e1];exact mK _ hx),c2⟩
theorem bHe (H:Opn cs ws y t o cards W) (hr: ∀v∈roots,v=0∨v - 1∈W):(bHf cs ws roots).Nodup∧∀x,x∈bHf cs ws roots↔Rch cs ws roots x:=by
 obtain ⟨a1,_,k1⟩:=bCa (cs:=cs) (ws:=ws) (roots:=roots) (W:=W) roots [] (fun _ h=>h) ⟨List.nodup_nil,fun x hx=>by simp at hx⟩;obtain ⟨a2,m2,c2⟩:=bIw H hr 201 0 _ (by omega) a1 (by omega) (fun j hj h=>by omega);refine ⟨a2.nod,fun x=>⟨a2.rch x,fun h=>?_⟩⟩
 induction h with
 |root h1 h2=>exact m2 _ ((k1 _ h1).resolve_left h2)
 |kid hu r0 r1 hl hn ih=>
  obtain ⟨j,hj,e⟩:=pC ih;have:=c2 j hj hj
  have e2:(chQ cs ws 201 0 (roots.foldl bGf []))[j]=_:=e
  simp only [e2] at this;exact (this _ r0 r1 hl).resolve_left hn
theorem bMa (H:Opn cs ws y t o cards W) (hr: ∀v∈roots,v=0∨v - 1∈W):(bAp cs ws roots).Pairwise (· < ·)∧∀x,x∈bAp cs ws roots↔Rch cs ws roots x:=by
 obtain ⟨nd,hm⟩:=bHe H hr;have hp:=List.mergeSort_perm (bHf cs ws roots) (fun x y=>decide (x≤y));refine ⟨?_,fun x=>?_⟩
 ·have h1 : (bAp cs ws roots).Pairwise (fun x y => decide (x ≤ y) = true) := List.pairwise_mergeSort (fun a b c h1 h2 => by simp only [dJ] at *; omega) (fun a b => by simp only [nZ, dJ]; omega) _
  have h2:(bAp cs ws roots).Nodup:=hp.nodup_iff.mpr nd
  have h3:(bAp cs ws roots).Pairwise (fun x y=>x≠y):=h2
  have:=List.Pairwise.and h1 h3
  exact this.imp (fun h=>by have:=h.2;have h4:=h.1;simp only [dJ] at h4;omega)
 ·rw [← hm x]
  exact hp.mem_iff
end
structure LI (n:Nat) (s:Lv) (q:List Int):Prop where
 hq:s.q=q
 len:s.sn.length=n+1
 at_: ∀a:Int,0≤a→a≤n→fW false s.sn a=decide (a∈q)
section
variable {cs:Cs} {ws:List Int} {y t o:Int} {cards:List Bool} {W roots q:List Int} {s:Lv}
theorem bFl (H : Opn cs ws y t o cards W) (hr : ∀ v ∈ roots, v = 0 ∨ v - 1 ∈ W) (a : QI cs ws roots W q) (h : LI ws.length s q) {v : Int} (hv : v = 0 ∨ v - 1 ∈ W) : ∃ s', bBu s v = some s' ∧ LI ws.length s' (bGf q v) := by
  have hl:=a.len H hr;have hval:=Opn.val H hv;unfold bBu bGf;by_cases c0:v=0
  · rw [if_pos c0,if_pos c0];exact ⟨s,rfl,h⟩
  rw [if_neg c0,if_neg c0,if_pos ⟨by omega,by rw [h.len];omega,by rw [h.hq];omega⟩,h.at_ v (by omega) (by omega)];by_cases c1:v∈q
  · rw [if_pos c1,if_pos (bB c1)];exact ⟨s,rfl,h⟩
  · rw [if_neg c1, if_neg (by rw [bJ c1]; simp)]
    refine ⟨_,rfl,by dsimp only;rw [h.hq],by dsimp only;rw [fI];exact h.len,fun b b0 b1=>?_⟩
    dsimp only
    by_cases cb:b=v
    · subst cb
      have:b∈q++[b]:=sI _ (pZ.mpr rfl)
      rw [bB this];unfold fW;rw [bM,pL (by rw [h.len];omega)];rfl
    · have e : (b ∈ q ++ [v]) ↔ b ∈ q := by
        rw [rR,pZ];exact ⟨fun z=>z.elim id (fun z=>absurd z cb),.inl⟩
      simp only [e]
      rw [←h.at_ b b0 b1];unfold fW;rw [bM,bM,sR (by omega)]
theorem bCh (H:Opn cs ws y t o cards W) (hr: ∀v∈roots,v=0∨v - 1∈W) {u:Int} (hu:Rch cs ws roots u): ∀(d:Nat) (r:Int) (s:Lv) (q:List Int),0≤r→r+d=xF cs ws (u - 1)→QI cs ws roots W q→LI ws.length s q→∃s',xA (bDs (vP cs ws y t o cards W)) s (bEz cs ws (u - 1) d r)=some s'∧LI ws.length s' (thQ cs ws (u - 1) d r q)
 |0,r,s,q,_,_,_,h=>⟨s,rfl,h⟩
 | d + 1, r, s, q, r0, hd, a, h => by
  rw [bEz,thQ];have hw:=(hu.inW H hr).2;have kw:=Opn.know H hw;by_cases c:ld cs ws (u - 1) r=true
  ·have hv := (H.lead hw (show r < xF cs ws (u - 1) by omega) c).2.2.1
   rw [if_pos c,if_pos c,xA];obtain ⟨s1,e1,h1⟩:=bFl H hr a h hv
   have e2:bDs (vP cs ws y t o cards W) s (u - 1+r)=some s1:=by
    unfold bDs;rw [show (vP cs ws y t o cards W).words=ws from rfl,if_pos (by omega)];exact e1
   rw [e2,bD];refine bCh H hr hu d (r+1) s1 _ (by omega) (by omega) ⟨bDk a.nod,fun x hx=>?_⟩ h1;rcases (yU q _ x).mp hx with z|z
   ·exact a.rch x z
   ·rw [z.1];exact .kid hu r0 (by omega) c z.2
  ·rw [if_neg c, if_neg c]
   exact bCh H hr hu d (r+1) s q (by omega) (by omega) a h
theorem bEm (H:Opn cs ws y t o cards W) (hr: ∀v∈roots,v=0∨v - 1∈W): ∀(d i k:Nat) (s:Lv) (q:List Int),201≤d+i→d<k→i≤q.length→QI cs ws roots W q→LI ws.length s q→∃s',bBe (vP cs ws y t o cards W) k i s=some s'∧LI ws.length s' (chQ cs ws d i q)
 |0,i,k,s,q,hd,_,hi,a,_=>by have:=a.len H hr;omega
 | d + 1, i, k, s, q, hd, hk, hi, a, h => by
  obtain ⟨k,rfl⟩: ∃m,k=m+1:=⟨k - 1,by omega⟩;rw [bBe,chQ,h.hq];by_cases c:q.length≤i
  ·rw [if_pos c,if_pos c];exact ⟨s,rfl,h⟩
  ·rw [if_neg c, if_neg c]
   have hlt:i<q.length:=by omega
   have hu:=a.rch q[i] (pN hlt);rw [bAu hlt];obtain ⟨B,hB⟩: ∃B,B=q[i]:=⟨_,rfl⟩;rw [←hB] at hu ⊢;have hw:=(hu.inW H hr).2;have z0:=H.sz0 hw;obtain ⟨s1,e1,h1⟩:=bCh H hr hu (xF cs ws (B - 1)).toNat 0 s q (by omega) (by omega) a h;obtain ⟨a1,⟨l,hl⟩,_⟩:=bLm H hr hu a;obtain ⟨s2,e2,h2⟩:=bEm H hr d (i+1) k s1 (twQ cs ws q (B - 1)) (by omega) (by omega) (by rw [hl,cG];omega) a1 h1;have e4:=ledF_eq H hw;rw [show B - 1+1=B by omega] at e4;refine ⟨s2,?_,h2⟩;rw [e4,bD];unfold kids;rw [e1,bD,e2]
theorem bDu (H:Opn cs ws y t o cards W) (hr: ∀v∈roots,v=0∨v - 1∈W): ∀(L:List Int) (s:Lv) (q:List Int),(∀v∈L,v∈roots)→QI cs ws roots W q→LI ws.length s q→∃s',xA bBu s L=some s'∧LI ws.length s' (L.foldl bGf q)
 |[],s,q,_,_,h=>⟨s,rfl,h⟩
 | v :: r, s, q, hL, a, h => by
  have hv:=hL v (gE ..);obtain ⟨s1,e1,h1⟩:=bFl H hr a h (hr v hv)
  obtain ⟨s2,e2,h2⟩:=bDu H hr r s1 (bGf q v) (fun z hz=>hL z (fZ _ hz)) ⟨bDk a.nod,fun x hx=>by
   rcases (yU q _ x).mp hx with z|z
   ·exact a.rch x z
   ·rw [z.1];exact .root hv z.2⟩ h1
  exact ⟨s2,by rw [xA,e1,bD,e2],h2⟩
theorem bLz (H:Opn cs ws y t o cards W) (hr: ∀v∈roots,v=0∨v - 1∈W) (hl:roots.length≤4000000) (k:Nat) (hk:300≤k):bFh k (vP cs ws y t o cards W) roots=some (bAp cs ws roots):=by
 have n0:=H.b.n0;have n1:=H.b.n1;have y0:=H.b.y0;have y1:=H.b.y1;have a0:QI cs ws roots W []:=⟨List.nodup_nil,fun x hx=>by simp at hx⟩
 obtain ⟨s1,e1,h1⟩:=bDu H hr roots (bJn (vP cs ws y t o cards W)) [] (fun _ h=>h) a0 ⟨rfl,by unfold bJn;rw [List.length_replicate];rfl,fun a _ _=>by
  unfold bJn fW
  dsimp only
  rw [bM,List.getElem?_replicate]
  split<;>simp⟩
 obtain ⟨a1,_,_⟩:=bCa (cs:=cs) (ws:=ws) (roots:=roots) (W:=W) roots [] (fun _ h=>h) a0;obtain ⟨s2,e2,h2⟩:=bEm H hr 201 0 k s1 _ (by omega) (by omega) (by omega) a1 h1;have a2:=(bIw H hr 201 0 _ (by omega) a1 (by omega) (fun j hj h=>by omega)).1;have:=a2.len H hr
 unfold bFh;rw [if_pos ⟨by show ws.length≤2000000;omega,hl⟩,e1,bD,e2,bD,h2.hq,if_pos (by omega)];rfl
end
theorem refs_eq {cs:Cs} {ws:List Int} {y t o:Int} {cards:List Bool} (hb:Bnd cs ws y t o cards) {c hd cnt x:Int} (hc:c=rd ws x) (h0:0≤x) (hhd:hd=1∨hd=2) (hcn:0≤cnt) (hcn8:cnt≤8) (hsz:x+hd+cnt≤ws.length) (hhe:jH c=some hd) (hl21: ∀k,20≤k→kN k cs ws x ws.length=some (hd+cnt)) (hcc:c= -1∨c= -2∨(0≤c∧c<cs.length∧hd=1∧cnt=(bGk cs c).length)):
  ∀k,200≤k→kO k cs ws x=some (tW cs c hd (hd+cnt)):=by
 intro k hk;unfold kO;rw [hl21 k (by omega),bD,if_pos (by omega),if_pos (by omega),if_pos h0,if_pos (by omega),←hc,hhe,bD]
 have:=bJj hb.ok (c:=c) (hd:=hd) (s:=(hd+cnt).toNat) (by omega) hhd (by rcases hcc with z|z|z;exact .inl z;exact .inr (.inl z);exact .inr (.inr ⟨z.1,z.2.1,z.2.2.1,by omega⟩)) ((hd+cnt).toNat - hd.toNat) k hd.toNat (List.replicate (hd+cnt).toNat false) (by omega) (by omega) (by omega) (by simp) (fun i hi=>by
  rw [bM,List.getElem?_replicate,if_pos hi]
  rw [bJ (by omega)];rfl)
 rw [show ((hd.toNat:Nat):Int)=hd by omega,show (((hd+cnt).toNat:Nat):Int)=hd+cnt by omega] at this;exact this
def unm:List Bool→Nat
  |[]=>0
  |b::r=>(if b=true then 0 else 1)+unm r
theorem bJh: ∀(B:List Bool) (j:Nat),j<B.length→B.getD j false=false→unm (B.set j true)+1=unm B
 |[],j,h,_=>by simp at h
 |b::r,0,_,hb=>by
  have hb:b=false:=hb
  rw [hb,jB,unm,unm];simp;omega
 |b::r,j+1,h,hb=>by
  rw [jC,unm,unm];have:=bJh r j (by simpa using h) (by simpa using hb)
  omega
theorem bLl: ∀B:List Bool,unm B≤B.length
 |[]=>bV _
 |b::r=>by
  have:=bLl r
  rw [unm,dP]
  split<;>omega
def pvs (cs:Cs) (ws:List Int) (x:Int):Nat→Int→List Int
  |0,_=>[]
  |d+1,r=>if ld cs ws x r=true then rd ws (x+r)::pvs cs ws x d (r+1) else pvs cs ws x d (r+1)
theorem bJl (cs:Cs) (ws:List Int) (x:Int): ∀(d:Nat) (r:Int),(pvs cs ws x d r).length≤d
 |0,_=>bV _
 |d+1,r=>by
  have:=bJl cs ws x d (r+1)
  rw [pvs]
  split
  ·rw [dP];omega
  ·omega
theorem bFw (cs:Cs) (ws:List Int) (x:Int): ∀(d:Nat) (r v:Int),v∈pvs cs ws x d r↔∃i,r≤i∧i<r+d∧ld cs ws x i=true∧v=rd ws (x+i)
 |0,r,v=>⟨fun h=>by simp [pvs] at h,fun ⟨i,h1,h2,_⟩=>by omega⟩
 | d + 1, r, v => by
  have ih:=bFw cs ws x d (r+1) v;rw [pvs];by_cases c:ld cs ws x r=true
  ·rw [if_pos c, List.mem_cons, ih]
   constructor
   ·rintro (h | ⟨i, h1, h2, h3⟩)
    ·exact ⟨r,by omega,by omega,c,h⟩
    ·exact ⟨i,by omega,by omega,h3⟩
   ·rintro ⟨i, h1, h2, h3, h4⟩
    by_cases ci:i=r
    ·subst ci;exact .inl h4
    ·exact .inr ⟨i,by omega,by omega,h3,h4⟩
  ·rw [if_neg c, ih]
   constructor
   ·rintro ⟨i, h1, h2, h3⟩
    exact ⟨i,by omega,by omega,h3⟩
   ·rintro ⟨i, h1, h2, h3, h4⟩
    by_cases ci:i=r
    ·subst ci;exact absurd h3 c
    ·exact ⟨i,by omega,by omega,h3,h4⟩
section
variable {cs:Cs} {ws:List Int} {y t o:Int} {cards:List Bool} {W roots:List Int}
theorem refs_of (H:Opn cs ws y t o cards W) {x:Int} (hx:x∈W): ∃R:List Bool,(R.length:Int)=xF cs ws x∧(∀j:Int,0≤j→j<xF cs ws x→fW false R j=ld cs ws x j)∧∀k,200≤k→kO k cs ws x=some R:=by
 obtain ⟨cc,hd,cnt,hcc,h0,hhd,hcn,hcn8,hsz,hco,hfi,hhe,hl21,hle,hcl⟩:=zH (t:=t) (o:=o) (cards:=cards) H.b H.wlk _ rfl hx;obtain ⟨_,_,_,_,_,_,_,_,_,_,hl2⟩:=sO (t:=t) (o:=o) (cards:=cards) H.b H.wlk hx
 have e1:xF cs ws x=hd+cnt:=by
  have q1:=hl21 20 (bV _);rw [hl2 20 (bV _)] at q1;exact bC q1
 have e2:vD (rd ws x)=hd:=by
  unfold jH at hhe;unfold vD;rw [←hcc];by_cases c:cc<0
  ·rw [if_pos c] at hhe ⊢;exact bC hhe
  ·rw [if_neg c] at hhe ⊢;exact bC hhe
 refine ⟨tW cs cc hd (hd+cnt),by unfold tW;rw [gN,kL];omega,fun j j0 j1=>?_,refs_eq H.b (c:=cc) (hd:=hd) (cnt:=cnt) (x:=x) hcc h0 hhd hcn hcn8 hsz hhe hl21 hcl⟩;unfold fW tW ld;rw [bM,kM,tQ (by omega),e2,←hcc];show (decide (hd≤((j.toNat:Nat):Int))&&bBp cs cc (((j.toNat:Nat):Int) - hd))=_
 rw [tR j0]
structure MS (cs:Cs) (ws:List Int) (W roots:List Int) (B:List Bool) (T:List Int):Prop where
 len:B.length=ws.length
 mkd: ∀j:Int,0≤j→j<ws.length→fW false B j=true→Rch cs ws roots (j+1)
 td: ∀v∈T,v=0∨Rch cs ws roots v
 cl: ∀j:Int,0≤j→j<ws.length→fW false B j=true→∀r,0≤r→r<xF cs ws j→ld cs ws j r=true→rd ws (j+r)=0∨rd ws (j+r)∈T∨fW false B (rd ws (j+r) - 1)=true
 rt: ∀v∈roots,v=0∨v∈T∨fW false B (v - 1)=true
theorem bJm {x:Int} {R:List Bool} (hR: ∀j:Int,0≤j→j<R.length→fW false R j=ld cs ws x j) (x0:0≤x) (hx:x+R.length≤ws.length) (hn:ws.length≤1000) (B:List Bool): ∀(d j:Nat) (T:List Int) (k:Nat),j+d=R.length→T.length+d≤4000000→
  fR (k+d+1) cs B T (x+1) R j ws y t o cards=fS k cs B (T++pvs cs ws x d j) ws y t o cards
 |0,j,T,k,hj,_=>by
  rw [fR,if_neg (by omega),pvs,List.append_nil]
 | d + 1, j, T, k, hj, hT => by
  have e0:wrap64 (x+1 - 1)=x:=by rw [show x+1 - 1=x by omega];exact dX (by omega) (by omega)
  rw [show k+(d+1)+1=(k+d+1)+1 by omega,fR,if_pos (by omega),if_pos (by omega),hR j (by omega) (by omega),e0,dX (n:=x+(j:Int)) (by omega) (by omega),jA (i:=(j:Int)) (n:=1000000) (by omega) (by omega) (by omega),pvs];have ih:=fun T=>bJm hR x0 hx hn B d (j+1) T k (by omega)
  rw [show ((j+1:Nat):Int)=(j:Int)+1 by omega] at ih;by_cases c:ld cs ws x j=true
  ·rw [if_pos c, if_pos c, if_pos (by omega), if_pos (by omega), if_pos (by omega), ih _ (by rw [cG, gD]; omega), sJ]
   rfl
  ·rw [if_neg c,if_neg c,ih _ (by omega)]
theorem mark_l0 (H : Opn cs ws y t o cards W) (hr : ∀ v ∈ roots, v = 0 ∨ v - 1 ∈ W) : ∀ (N k : Nat) (B : List Bool) (T : List Int), 2 * T.length + 50 * unm B ≤ N → N + 300 ≤ k → N ≤ 3900000 → MS cs ws W roots B T →
    ∃B',fS k cs B T ws y t o cards=some B'∧B'.length=ws.length∧∀j:Int,0≤j→j<ws.length→(fW false B' j=true↔Rch cs ws roots (j+1)):=by
  have n0:=H.b.n0;have n1:=H.b.n1;have y0:=H.b.y0;have y1:=H.b.y1;intro N
  induction N using Nat.strongRecOn with
  |ind N ih=>
  intro k B T hN hk hM h;obtain ⟨k,rfl⟩: ∃m,k=m+2:=⟨k - 2,by omega⟩
  cases T with
  | nil =>
    refine ⟨B,by rw [fS,if_neg (by simp)],h.len,fun j j0 j1=>⟨h.mkd j j0 j1,fun hR=>?_⟩⟩
    have key: ∀v,Rch cs ws roots v→fW false B (v - 1)=true:=fun v hv=>by
      induction hv with
      |root h1 h2=>exact ((h.rt _ h1).resolve_left h2).resolve_left (by simp)
      | kid hu r0 r1 hl hn ihu =>
        have hw:=(hu.inW H hr).2;have hrg:=qG H.wlk hw;exact ((h.cl _ hrg.1 hrg.2 ihu _ r0 r1 hl).resolve_left hn).resolve_left (by simp)
    have:=key (j+1) hR
    rw [show j+1 - 1=j by omega] at this;exact this
  | cons v T =>
    have hT:T.length+1=(v::T).length:=rfl
    rw [dP] at hN;have hv:=h.td v (gE ..)
    have e1:fS (k+2) cs B (v::T) ws y t o cards=if v=0 then gX (k+1) cs B T v true ws y t o cards else if 0≤wrap64 (v - 1) then (if wrap64 (v - 1)<(B.length:Int) then gX (k+1) cs B T v (fW false B (wrap64 (v - 1))) ws y t o cards else none) else none:=by
      rw [fS,if_pos (by rw [dP];omega),if_pos (by rw [dP];omega),if_pos (by rw [dP];omega)];rfl
    rw [e1];by_cases c0:v=0
    · rw [if_pos c0, gX, if_pos rfl]
      exact ih (N - 2) (by omega) k B T (by omega) (by omega) (by omega) ⟨h.len,h.mkd,fun u hu=>h.td u (fZ _ hu),fun j j0 j1 hj r r0 r1 hl=>by
        rcases h.cl j j0 j1 hj r r0 r1 hl with z|z|z
        · exact .inl z
        · rcases List.mem_cons.mp z with z | z
          · exact .inl (by rw [z,c0])
          · exact .inr (.inl z)
        · exact .inr (.inr z),fun u hu=>by
        rcases h.rt u hu with z|z|z
        · exact .inl z
        · rcases List.mem_cons.mp z with z | z
          · exact .inl (by rw [z,c0])
          · exact .inr (.inl z)
        · exact .inr (.inr z)⟩
    have hv:=hv.resolve_left c0;have hw:=(hv.inW H hr).2;have hrg:=qG H.wlk hw;have ew:wrap64 (v - 1)=v - 1:=dX (by omega) (by omega)
    rw [if_neg c0,ew,if_pos (by omega),if_pos (by rw [h.len];omega),gX,ew]
    cases hb:fW false B (v - 1) with
    | true =>
      rw [if_pos rfl]
      exact ih (N - 2) (by omega) k B T (by omega) (by omega) (by omega) ⟨h.len,h.mkd,fun u hu=>h.td u (fZ _ hu),fun j j0 j1 hj r r0 r1 hl=>by
        rcases h.cl j j0 j1 hj r r0 r1 hl with z|z|z
        · exact .inl z
        · rcases List.mem_cons.mp z with z | z
          · exact .inr (.inr (by rw [z];exact hb))
          · exact .inr (.inl z)
        · exact .inr (.inr z),fun u hu=>by
        rcases h.rt u hu with z|z|z
        · exact .inl z
        · rcases List.mem_cons.mp z with z | z
          · exact .inr (.inr (by rw [z];exact hb))
          · exact .inr (.inl z)
        · exact .inr (.inr z)⟩
    | false =>
      obtain ⟨R,hRl,hR,hRe⟩:=refs_of H hw;have kw:=Opn.know H hw;have z0:=H.sz0 hw;rw [if_neg (by simp),if_pos (by omega),if_pos (by rw [h.len];omega),hRe k (by omega),bD];have hbl:B.getD (v - 1).toNat false=false:=hb
      have hu:=bJh B (v - 1).toNat (by rw [h.len];omega) hbl;have hpl:=bJl cs ws (v - 1) R.length ((0:Nat):Int);have hm:=bJm (cs:=cs) (ws:=ws) (y:=y) (t:=t) (o:=o) (cards:=cards) (x:=v - 1) (R:=R) (fun j j0 j1=>hR j j0 (by omega)) (by omega) (by omega) (by omega) (B.set (v - 1).toNat true) R.length 0 T (k - R.length - 1) (by omega) (by omega);rw [show k - R.length - 1+R.length+1=k by omega,show v - 1+1=v by omega] at hm;rw [show (0:Int)=((0:Nat):Int) from rfl,hm]
      have rds: ∀j:Int,0≤j→fW false (B.set (v - 1).toNat true) j=if j=v - 1 then true else fW false B j:=fun j j0=>by
        unfold fW;rw [bM,bM];by_cases c:j=v - 1
        · rw [if_pos c,c,pL (by rw [h.len];omega)];rfl
        · rw [if_neg c,sR (by omega)]
      refine ih (N - 14) (by omega) (k - R.length - 1) _ _ (by rw [cG];omega) (by omega) (by omega) ⟨by rw [fI];exact h.len,fun j j0 j1 hj=>?_,fun u hu2=>?_,fun j j0 j1 hj r r0 r1 hl=>?_,fun u hu2=>?_⟩
      · rw [rds j j0] at hj
        by_cases c:j=v - 1
        · rw [c,show v - 1+1=v by omega];exact hv
        · rw [if_neg c] at hj;exact h.mkd j j0 j1 hj
      · rcases rR.mp hu2 with z | z
        · exact h.td u (fZ _ z)
        · obtain ⟨i, i0, i1, hl, e⟩ := (bFw cs ws (v - 1) R.length ((0 : Nat) : Int) u).mp z
          by_cases cu:u=0
          · exact .inl cu
          · exact .inr (by rw [e];exact .kid hv (by omega) (by omega) hl (by rw [←e];exact cu))
      · have hkn : 0 ≤ rd ws (j + r) := by
          rw [rds j j0] at hj
          have hjw:j∈W:=by
            by_cases c:j=v - 1
            · rw [c];exact hw
            · rw [if_neg c] at hj
              have:=((h.mkd j j0 j1 hj).inW H hr).2
              rw [show j+1 - 1=j by omega] at this;exact this
          exact (Opn.val H (H.lead hjw r1 hl).2.2.1).1
        by_cases c:j=v - 1
        · subst c
          by_cases cz:rd ws (v - 1+r)=0
          · exact .inl cz
          · exact .inr (.inl (sI _ ((bFw cs ws (v - 1) R.length ((0:Nat):Int) _).mpr ⟨r,by omega,by omega,hl,rfl⟩)))
        · rw [rds j j0, if_neg c] at hj
          rcases h.cl j j0 j1 hj r r0 r1 hl with z|z|z
          · exact .inl z
          · rcases List.mem_cons.mp z with z | z
            · exact .inr (.inr (by rw [z,rds _ (by omega),if_pos rfl]))
            · exact .inr (.inl (mK _ z))
          · by_cases cz : rd ws (j + r) = 0
            · exact .inl cz
            · exact .inr (.inr (by rw [rds _ (by omega)];split;rfl;exact z))
      · have hun := (Opn.val H (hr u hu2)).1
        rcases h.rt u hu2 with z|z|z
        · exact .inl z
        · rcases List.mem_cons.mp z with z | z
          · exact .inr (.inr (by rw [z,rds _ (by omega),if_pos rfl]))
          · exact .inr (.inl (mK _ z))
        · by_cases cz : u = 0
          · exact .inl cz
          · exact .inr (.inr (by rw [rds _ (by omega)];split;rfl;exact z))
theorem mark_eq (H:Opn cs ws y t o cards W) (hr: ∀v∈roots,v=0∨v - 1∈W) (hl:roots.length≤1048576) (k:Nat) (hk:4000000≤k): ∃B,pH k cs ws y t o cards roots=some B∧B.length=ws.length∧∀j:Int,0≤j→j<ws.length→(fW false B j=true↔Rch cs ws roots (j+1)):=by
 have n0:=H.b.n0;have n1:=H.b.n1;have y0:=H.b.y0;have y1:=H.b.y1
 have hz: ∀j:Int,fW false (List.replicate ws.length false) j=false:=fun j=>by
  unfold fW;rw [bM,List.getElem?_replicate]
  split<;>rfl
 have hu:=bLl (List.replicate ws.length false);rw [List.length_replicate] at hu;obtain ⟨B,e,h1,h2⟩:=mark_l0 H hr 2200000 k (List.replicate ws.length false) roots (by omega) (by omega) (by omega) ⟨by rw [List.length_replicate],fun j _ _ hj=>(by rw [hz] at hj;cases hj),fun v hv=>(Classical.em (v=0)).elim .inl (fun c=> .inr (.root hv c)),fun j _ _ hj=>(by rw [hz] at hj;cases hj),fun v hv=> .inr (.inl hv)⟩;refine ⟨B,?_,h1,h2⟩;unfold pH;rw [if_pos (by omega),if_pos (by omega),bD,if_pos (by simp;omega),dK,qK];exact e
def bEi (B:List Bool):Nat→Nat→List Int
  |0,_=>[]
  |d+1,i=>if fW false B i=true then ((i:Int)+1)::bEi B d (i+1) else bEi B d (i+1)
theorem bEh (B:List Bool): ∀(d i:Nat) (x:Int),x∈bEi B d i↔∃j:Nat,i≤j∧j<i+d∧fW false B j=true∧x=(j:Int)+1
 |0,i,x=>⟨fun h=>by simp [bEi] at h,fun ⟨j,h1,h2,_⟩=>by omega⟩
 | d + 1, i, x => by
  have ih:=bEh B d (i+1) x;rw [bEi];by_cases c:fW false B i=true
  ·rw [if_pos c, List.mem_cons, ih]
   constructor
   ·rintro (h | ⟨j, h1, h2, h3⟩)
    ·exact ⟨i,bV _,by omega,c,h⟩
    ·exact ⟨j,by omega,by omega,h3⟩
   ·rintro ⟨j, h1, h2, h3, h4⟩
    by_cases cj:j=i
    ·subst cj;exact .inl h4
    ·exact .inr ⟨j,by omega,by omega,h3,h4⟩
  ·rw [if_neg c, ih]
   constructor
   ·rintro ⟨j, h1, h2, h3⟩
    exact ⟨j,by omega,by omega,h3⟩
   ·rintro ⟨j, h1, h2, h3, h4⟩
    by_cases cj:j=i
    ·subst cj;exact absurd h3 c
    ·exact ⟨j,by omega,by omega,h3,h4⟩
theorem bHp (B:List Bool): ∀(d i:Nat),(bEi B d i).Pairwise (· < ·)
 |0,i=>List.Pairwise.nil
 | d + 1, i => by
  have ih:=bHp B d (i+1);rw [bEi]
  split
  ·refine List.Pairwise.cons (fun x hx => ?_) ih
   obtain ⟨j,h1,h2,_,h4⟩:=(bEh B d (i+1) x).mp hx;omega
  ·exact ih
theorem bFq {B:List Bool} (hl:B.length≤1000): ∀(d i:Nat) (acc:List Int) (k:Nat),i+d=B.length→d<k→acc.length+d≤1000000→gM k acc B i=some (acc++bEi B d i)
 |0,i,acc,k,hi,hk,_=>by
  obtain ⟨k,rfl⟩: ∃m,k=m+1:=⟨k - 1,by omega⟩;rw [gM,if_neg (by omega),bEi,List.append_nil]
 |d+1,i,acc,k,hi,hk,ha=>by
  obtain ⟨k,rfl⟩: ∃m,k=m+1:=⟨k - 1,by omega⟩;have ih:=fun acc=>bFq hl d (i+1) acc k (by omega) (by omega)
  rw [show ((i+1:Nat):Int)=(i:Int)+1 by omega] at ih;rw [gM,if_pos (by omega),if_pos (by omega),jA (n:=1000000) (by omega) (by omega) (by omega),bEi];by_cases c:fW false B i=true
  ·rw [if_pos c,if_pos c,if_pos (by omega),ih _ (by rw [cG,gD];omega),sJ];rfl
  ·rw [if_neg c,if_neg c,ih _ (by omega)]
theorem bKu (H:Opn cs ws y t o cards W) (hr: ∀v∈roots,v=0∨v - 1∈W) {B:List Bool} (hB:B.length=ws.length) (hm: ∀j:Int,0≤j→j<ws.length→(fW false B j=true↔Rch cs ws roots (j+1))):bEi B B.length 0=bAp cs ws roots:=by
 obtain ⟨l1,l2⟩:=bMa H hr;refine bMl (bHp B _ 0) l1 (fun x=>?_);rw [l2 x,bEh]
 constructor
 ·rintro ⟨j, _, h2, h3, h4⟩
  rw [h4];exact (hm j (by omega) (by omega)).mp h3
 ·intro h
  have:=qG H.wlk (h.inW H hr).2
  refine ⟨(x - 1).toNat,by omega,by omega,?_,by omega⟩;rw [hm _ (by omega) (by omega),show (((x - 1).toNat:Nat):Int)+1=x by omega];exact h
end
def xV (W:List Int) (roots:List Int):Bool:=roots.all (fun v=>decide (v=0)||decide (v - 1∈W))
theorem bDv {W roots:List Int}:xV W roots=true↔∀v∈roots,v=0∨v - 1∈W:=by
 unfold xV;rw [nH];exact ⟨fun h v hv=>by have:=h v hv;rw [nZ,rK,rK] at this;exact this,fun h v hv=>by rw [nZ,rK,rK];exact h v hv⟩
theorem bCn {cs:Cs} {ws W:List Int} (hw:Wlk cs ws W) (m:Mm) (hm:m.begins=W.map (· +1)) (k:Nat) (hk:300≤k): ∀roots:List Int,rC k m roots=some (xV W roots)
 |[]=>rfl
 | v :: r => by
  have e:bDw k m v=some (decide (v=0)||decide (v - 1∈W)):=by
   unfold bDw;by_cases c:v=0
   ·rw [if_pos c,bB c];rfl
   ·rw [if_neg c,bIr hw m hm v k hk,bJ c,Bool.false_or]
  rw [rC,e,bD,bCn hw m hm k hk r];unfold xV;rw [List.all_cons]
  cases (decide (v=0)||decide (v - 1∈W)) with
  |true=>rfl
  |false=>rfl
theorem bHh {cs:Cs} {ws W:List Int} (hw:Wlk cs ws W) (hn:ws.length≤1048576) {roots:List Int} (hl:roots.length≤1048576) (d:Nat): ∀(k i:Nat),i+d=roots.length→d<k→kD k roots (jO W ws.length) i=some (xV W (roots.drop i)):=by
 induction d with
 |zero=>
  intro k i hi hk;obtain ⟨k,rfl⟩: ∃m,k=m+1:=⟨k - 1,by omega⟩;rw [kD,if_neg (by omega),kW (by omega)];rfl
 |succ d ih=>
  intro k i hi hk;obtain ⟨k,rfl⟩: ∃m,k=m+1:=⟨k - 1,by omega⟩;have hlt:i<roots.length:=by omega
  have:=ih k (i+1) (by omega) (by omega)
  rw [show ((i+1:Nat):Int)=(i:Int)+1 by omega] at this;rw [kD,if_pos (by omega),if_pos (by omega),bAu hlt,bJq hw hn,bD,jA (n:=1048577) (by omega) (by omega) (by omega),this,fO hlt];unfold xV;rw [List.all_cons]
  cases (decide (roots[i]=0)||decide (roots[i] - 1∈W)) with
  |true=>rfl
  |false=>rfl
section
variable {cs:Cs} {ws:List Int} {y t o:Int} {cards:List Bool} {W:List Int}
theorem bCs (H:Opn cs ws y t o cards W) (hok: ∀k,4000000≤k→mJ k cs ws y t o cards=some true) (hwk: ∀k,4000000≤k→jF k cs ws y t o cards=some (W,true)) {roots:List Int} (hl:roots.length≤1048576) (k:Nat) (hk:4000000≤k):mS k cs ws y t o cards roots=some (xV W roots):=by
 have n0:=H.b.n0;have n1:=H.b.n1;have y0:=H.b.y0;have y1:=H.b.y1;have hwl:=H.wlk.len;unfold mS;rw [hok k hk,bD,if_pos rfl,hwk k hk,bD]
 dsimp only
 rw [bFe (fun x hx=>qG H.wlk hx) (by omega) (by omega) k (by omega),bD];exact bHh H.wlk (by omega) hl roots.length k 0 (by omega) (by omega)
theorem bHl (H:Opn cs ws y t o cards W) {roots:List Int} (k:Nat) (hk:4000000≤k):bFj k k cs ws y t o cards roots=some (if xV W roots=true then some (vP cs ws y t o cards W) else none):=by
 unfold bFj;rw [H.to k hk,bD]
 dsimp only
 rw [bCn H.wlk _ rfl k (by omega),bD]
end
theorem bKz {cs:Cs} {ws:List Int} {y t o:Int} {cards:List Bool} {W:List Int} (H:Opn cs ws y t o cards W) {roots:List Int} (hl:roots.length≤1048576) (hr:xV W roots=true) (k:Nat) (hk:4000000≤k):nA k cs ws y t o cards roots=some (bAp cs ws roots):=by
 unfold nA;rw [if_pos (by omega),bHl H k hk,hr,if_pos rfl,bD];exact bLz H (bDv.mp hr) (by omega) k (by omega)
theorem bLa {cs:Cs} (hf:bFa cs) {ws:List Int} {y t o:Int} {cards:List Bool} (hn:ws.length≤1048576) (hc:cards.length≤1048576) {roots:List Int} (hl:roots.length≤1048576):
  ∃r:List Int,r.length≤1048576∧(∀k,4000000≤k→nA k cs ws y t o cards roots=some r)∧(∀k,4000000≤k→qH k cs ws y t o cards roots=some r):=by
 obtain ⟨m,h1,h2,h3⟩:=opn_of hf (y:=y) (t:=t) (o:=o) hn hc
 cases m with
 | none =>
  refine ⟨[],by simp,fun k hk=>?_,fun k hk=>?_⟩
  ·unfold nA bFj
   rw [if_pos (by omega),h1 k hk];rfl
  ·unfold qH mS
   rw [h2 k hk];rfl
 | some m =>
  obtain ⟨W,H,hm,hk⟩:=h3 m rfl;have n0:=H.b.n0;have n1:=H.b.n1;have y0:=H.b.y0;have y1:=H.b.y1
  cases hr:xV W roots with
  | false =>
   refine ⟨[],by simp,fun k hk2=>?_,fun k hk2=>?_⟩
   ·unfold nA
    rw [if_pos (by omega),bHl H k hk2,hr];rfl
   ·unfold qH
    rw [bD,bCs H h2 hk hl k hk2,hr];rfl
  | true =>
   have hv:=bDv.mp hr;refine ⟨bAp cs ws roots,?_,fun k hk2=>bKz H hl hr k hk2,fun k hk2=>?_⟩
   ·have a := bHe H hv
    have h4:(bHf cs ws roots).length≤(W.map (· +1)).length:=List.Nodup.length_le_of_subset a.1 (fun x hx=>List.mem_map.mpr ⟨x - 1,(((a.2 x).mp hx).inW H hv).2,by omega⟩)
    have:=H.wlk.len
    rw [gN] at h4;unfold bAp;rw [List.length_mergeSort];omega
   ·obtain ⟨B, e, hB, hm2⟩ := mark_eq H hv hl k hk2
    unfold qH;rw [bD,bCs H h2 hk hl k hk2,hr,bD,if_pos rfl,e,bD];have:=bFq (B:=B) (by omega) B.length 0 [] k (by omega) (by omega) (by simp;omega)
    rw [show (0:Int)=((0:Nat):Int) from rfl,this,qK,bKu H hv hB hm2]
end Go.Proofs.YtbaklikaoleplaaGreat.Pure
namespace Go.Proofs.YtbaklikaoleplaaGreat.K
open Go.RowKit Go.Proofs.YtbaklikaoleplaaGreatW.PrintWords Go.Proofs.YtbaklikaoleplaaGreatW.PrintLast Go.Proofs.YtbaklikaoleplaaGreatW.PrintMore
attribute [local go_sem] gV gT jT jS fY fX gU gR
set_option linter.unusedVariables false
set_option linter.unusedSimpArgs false
structure OM (b gw cW gc cC:Nat) (w:World) (ws:List Int) (cards:List Bool):Prop where
 hw:Kd.R (Kd.int .i64) 3 w b (fun k=>k=gw) (.slice (some ⟨gw,0,none⟩) ws.length cW) ws
 hc:Kd.R Kd.bool 4 w b (fun k=>k=gc) (.slice (some ⟨gc,0,none⟩) cards.length cC) cards
 ne:gw≠gc
section
variable {b gw cW gc cC:Nat} {w w1:World} {ws:List Int} {cards:List Bool} {S:Nat→Prop}
theorem OM.bw (h:OM b gw cW gc cC w ws cards):b≤gw∧gw<w.heap.size:=⟨rU h.hw gw (by simp [Value.ownBlock]),rN h.hw gw (by simp [Value.ownBlock])⟩
theorem OM.bc (h:OM b gw cW gc cC w ws cards):b≤gc∧gc<w.heap.size:=⟨rU h.hc gc (by simp [Value.ownBlock]),rN h.hc gc (by simp [Value.ownBlock])⟩
theorem OM.ch (h:OM b gw cW gc cC w ws cards) (hc:Ch S w w1) (h1: ¬S gw) (h2: ¬S gc):OM b gw cW gc cC w1 ws cards:=⟨hc.R h.hw (fun k hk=>by rw [hk];exact h1),hc.R h.hc (fun k hk=>by rw [hk];exact h2),h.ne⟩
theorem OM.nbox (h:OM b gw cW gc cC w ws cards) {g:Nat} {cs:Array Value} (hg:w.heap[g]? =some (.cells cs 27 (0,0))):gw≠g∧gc≠g:=⟨fun e=>bGr hg h.hw (by decide) e.symm,fun e=>bGr hg h.hc (by decide) e.symm⟩
end
structure Fl (b0 gz gm gw cW gc cC:Nat) (wr:World) (v7 v8:Value) (ws:List Int) (y t o:Int) (cards:List Bool) (pl rt:List Int):Prop where
 om:OM b0 gw cW gc cC wr ws cards
 bx:wr.heap[gm]? =some (.cells #[.slice (some ⟨gw,0,none⟩) ws.length cW,.int .i64 y,.int .i64 t,.int .i64 o,.slice (some ⟨gc,0,none⟩) cards.length cC] 27 (0,0))
 bz:wr.heap[gz]? =some (.cells #[.slice none 0 0,.int .i64 0,.int .i64 0,.int .i64 0,.slice none 0 0] 27 (0,0))
 hp:Kd.R (Kd.int .i64) 3 wr b0 (fun k=>(b0≤k∧k≠gw)∧some k≠v7.ownBlock) v8 pl
 hr:Kd.R (Kd.int .i64) 3 wr b0 (fun k=>(b0≤k∧k≠gw)∧some k≠v8.ownBlock) v7 rt
 gm0:b0≤gz∧gz<gm
section
variable {b0 gz gm gw cW gc cC g:Nat} {wr w1:World} {v7 v8:Value} {ws ws':List Int} {y t o:Int} {cards cards':List Bool} {pl rt:List Int} {S:Nat→Prop}
theorem Fl.ch (h:Fl b0 gz gm gw cW gc cC wr v7 v8 ws y t o cards pl rt) (hc:Ch S wr w1) (hS: ∀k,S k→k<b0):Fl b0 gz gm gw cW gc cC w1 v7 v8 ws y t o cards pl rt:=by
  have hw:=h.om.bw;have hcc:=h.om.bc;have hm:=h.gm0;exact ⟨h.om.ch hc (fun q=>by have:=hS _ q;omega) (fun q=>by have:=hS _ q;omega),hc.blk h.bx (fun q=>by have:=hS _ q;omega),hc.blk h.bz (fun q=>by have:=hS _ q;omega),hc.R h.hp (fun k hk q=>by have:=hS _ q;omega),hc.R h.hr (fun k hk q=>by have:=hS _ q;omega),h.gm0⟩
theorem Fl.below (h:Fl b0 gz gm gw cW gc cC wr v7 v8 ws y t o cards pl rt) (hb:Below wr.heap.size wr w1):Fl b0 gz gm gw cW gc cC w1 v7 v8 ws y t o cards pl rt:=h.ch ((Ch.refl (fun _=>False) _).below hb) (fun _ h=>h.elim)
theorem OM.ctype (h:OM b0 gw cW gc cC wr ws cards): ∃cells,wr.heap[gc]? =some (.cells cells 4 (0,0)):=Kd.R_typed h.hc gc (by simp [Value.ownBlock])
theorem OM.apart (h:OM b0 gw cW gc cC wr ws cards) {ok:Nat→Prop} {v:Value} {xs:List Int} (hr:Kd.R (Kd.int .i64) 3 wr b0 ok v xs):Kd.R (Kd.int .i64) 3 wr b0 (fun k=>ok k∧k≠gc) v xs:=by
  obtain ⟨cells,hcc⟩:=h.ctype;exact sU hr hcc (by decide)
end
end Go.Proofs.YtbaklikaoleplaaGreat.K
namespace Go.Proofs.YtbaklikaoleplaaGreat.K
open Go.RowKit Go.Proofs.YtbaklikaoleplaaGreatW.PrintWords Go.Proofs.YtbaklikaoleplaaGreatW.PrintLast Go.Proofs.YtbaklikaoleplaaGreatW.PrintMore
attribute [local go_sem] gV gT jT jS fY fX gU gR
set_option linter.unusedVariables false
set_option linter.unusedSimpArgs false
open Go.Proofs.YtbaklikaoleplaaGreat.Pure
structure Dm (W:World) (b0:Nat) (ok:Nat→Prop) (v5 v0 v4 v7:Value) (cs:Cs) (ws:List Int) (cards:List Bool) (rt:List Int):Prop where
 h5:Kd.V yD 78 W b0 ok v5 cs
 h0:Kd.V (Kd.int .i64) 3 W b0 ok v0 ws
 h4:Kd.V Kd.bool 4 W b0 ok v4 cards
 h7:Kd.V (Kd.int .i64) 3 W b0 ok v7 rt
 l5:1≤cs.length∧cs.length≤9∧∀x∈cs,x.f1.length≤3
 l0:1≤ws.length∧ws.length≤1000
 l4:cards.length≤1000
 l7:rt.length≤100
section
variable {b0 g gz gm:Nat} {W w w0 w1:World} {v5 v0 v4 v7:Value} {cs:Cs} {ws:List Int} {cards:List Bool} {rt:List Int} {ok ok' S:Nat→Prop} {M L:Int}
theorem Dm.ch (h:Dm W b0 ok v5 v0 v4 v7 cs ws cards rt) (hc:Ch S W w1) (hS: ∀k,ok k→¬S k):Dm w1 b0 ok v5 v0 v4 v7 cs ws cards rt:=
  ⟨Kd.V_kept h.h5 hc.kept hS,Kd.V_kept h.h0 hc.kept hS,Kd.V_kept h.h4 hc.kept hS,Kd.V_kept h.h7 hc.kept hS,h.l5,h.l0,h.l4,h.l7⟩
end
structure Ms (b0 s1 gz gm gw cW gc cC:Nat) (W:World) (v5 v7:Value) (cs:Cs) (ws:List Int) (y t o:Int) (cards:List Bool) (rt:List Int):Prop where
 om:OM s1 gw cW gc cC W ws cards
 h5:Kd.V yD 78 W b0 (fun k=>gz<k∧k<s1) v5 cs
 h7:Kd.R (Kd.int .i64) 3 W s1 (fun k=>k≠gw) v7 rt
 bm:W.heap[gm]? =some (.cells #[.slice (some ⟨gw,0,none⟩) ws.length cW,.int .i64 y,.int .i64 t,.int .i64 o,.slice (some ⟨gc,0,none⟩) cards.length cC] 27 (0,0))
 bz:W.heap[gz]? =some (.cells #[.slice none 0 0,.int .i64 0,.int .i64 0,.int .i64 0,.slice none 0 0] 27 (0,0))
 ge:b0≤gz∧gz<s1∧s1≤gm
 l5:1≤cs.length∧cs.length≤9∧∀x∈cs,x.f1.length≤3
 l0:14≤ws.length∧ws.length≤160
 l4:4≤cards.length∧cards.length≤40
 l7:rt.length≤60
section
variable {b0 s1 g gz gm gw cW gc cC:Nat} {W w1:World} {v5 v7 v:Value} {cs:Cs} {ws:List Int} {y t o:Int} {cards:List Bool} {rt:List Int} {S:Nat→Prop}
theorem Ms.ch (h:Ms b0 s1 gz gm gw cW gc cC W v5 v7 cs ws y t o cards rt) (hc:Ch S W w1) (hS: ∀k,S k→k<b0∨W.heap.size≤k):Ms b0 s1 gz gm gw cW gc cC w1 v5 v7 cs ws y t o cards rt:=by
  have a:=h.om.bw;have b:=h.om.bc;have c:=h.ge;have d:=cK h.bm;exact ⟨h.om.ch hc (fun q=>by have:=hS _ q;omega) (fun q=>by have:=hS _ q;omega),Kd.V_mono (Kd.V_kept (Kd.V_bound h.h5) hc.kept (fun k hk q=>by have:=hS _ q;omega)) (fun _ hk=>hk.1),fG (hc.R (qT h.h7) (fun k hk q=>by have:=hS _ q;omega)) (fun _ hk=>hk.1),hc.blk h.bm (fun q=>by have:=hS _ q;omega),hc.blk h.bz (fun q=>by have:=hS _ q;have:=cK h.bz;omega),h.ge,h.l5,h.l0,h.l4,h.l7⟩
theorem Ms.below (h:Ms b0 s1 gz gm gw cW gc cC W v5 v7 cs ws y t o cards rt) (hb:Below W.heap.size W w1):Ms b0 s1 gz gm gw cW gc cC w1 v5 v7 cs ws y t o cards rt:=h.ch ((Ch.refl (fun _=>False) _).below hb) (fun _ h=>h.elim)
theorem Ms.r7 (h:Ms b0 s1 gz gm gw cW gc cC W v5 v7 cs ws y t o cards rt):Kd.R (Kd.int .i64) 3 W s1 (fun k=>k≠gw∧k≠gc) v7 rt:=h.om.apart h.h7
theorem Ms.roots (h:Ms b0 s1 gz gm gw cW gc cC W v5 v7 cs ws y t o cards rt) (hg:W.grownBy w1 v7.ownBlock) {rt':List Int} (hv:Kd.R (Kd.int .i64) 3 w1 s1 (fun k=>k≠gw∧k≠gc) v rt') (hl:rt'.length≤100):
  Dm w1 b0 (fun k=>b0≤k∧k≠gz) v5 (.slice (some ⟨gw,0,none⟩) ws.length cW) (.slice (some ⟨gc,0,none⟩) cards.length cC) v cs ws cards rt'∧w1.heap[gm]? =some (.cells #[.slice (some ⟨gw,0,none⟩) ws.length cW,.int .i64 y,.int .i64 t,.int .i64 o,.slice (some ⟨gc,0,none⟩) cards.length cC] 27 (0,0))∧w1.heap[gz]? =some (.cells #[.slice none 0 0,.int .i64 0,.int .i64 0,.int .i64 0,.slice none 0 0] 27 (0,0)):=by
 have a:=h.om.bw;have b:=h.om.bc;have c:=h.ge;have n:=h.om.nbox h.bm;have n2:=h.om.nbox h.bz;have hc:Ch (fun k=>v7.ownBlock=some k) W w1:=(Ch.refl _ W).grown hg (fun k e=> .inl e)
 have hb:=rU h.h7;have hz:=hc.blk h.bz (fun e=>Kd.R_ne h.h7 h.bz (by decide) e.symm);refine ⟨⟨Kd.V_mono (Kd.V_kept h.h5 hc.kept (fun k hk q=>by have:=hb k q;omega)) (fun k hk=>⟨by omega,by omega⟩),Kd.R_V (fG (hc.R h.om.hw (fun k hk q=>(h.r7.1 k q).1 hk)) (fun k hk=>⟨by omega,by omega⟩)),Kd.R_V (fG (hc.R h.om.hc (fun k hk q=>(h.r7.1 k q).2 hk)) (fun k hk=>⟨by omega,by omega⟩)),?_,h.l5,⟨by have:=h.l0;omega,by have:=h.l0;omega⟩,by have:=h.l4;omega,hl⟩,hc.blk h.bm (fun e=>Kd.R_ne h.h7 h.bm (by decide) e.symm),hz⟩;exact Kd.R_V (fG (sU (qT hv) hz (by decide)) (fun k hk=>⟨by have:=hk.1.2.1;omega,hk.2⟩))
end
end Go.Proofs.YtbaklikaoleplaaGreat.K
namespace Go.Proofs.YtbaklikaoleplaaGreat.Pure
open Go.RowKit Go.Proofs.YtbaklikaoleplaaGreat.K Go.Proofs.YtbaklikaoleplaaGreatW.PrintWords Go.Proofs.YtbaklikaoleplaaGreatW.PrintLast Go.Proofs.YtbaklikaoleplaaGreatW.PrintMore
set_option linter.unusedVariables false
set_option linter.unusedSimpArgs false
theorem bEa (xs:List Bool) (i:Nat):fW false xs (i:Int)=xs.getD i false:=by simp [fW]
theorem bIu (xs ys:List Bool) (hl:xs.length=ys.length) (hb:xs.length≤140737488355328) (d:Nat): ∀(k:Nat) (i:Nat),i≤xs.length→xs.length - i=d→d<k→
  gJ k xs ys i=some (decide (xs.drop i=ys.drop i)):=by
 induction d with
 |zero=>
  intro k i hi hd hk;obtain ⟨k,rfl⟩: ∃m,k=m+1:=⟨k - 1,by omega⟩;have:i=xs.length:=by omega
  subst this;simp only [gJ]
  rw [if_neg (by omega)];simp [hl]
 | succ d ih =>
  intro k i hi hd hk;obtain ⟨k,rfl⟩: ∃m,k=m+1:=⟨k - 1,by omega⟩;simp only [gJ]
  rw [if_pos (by omega),if_pos (by omega),if_pos (by omega),jA (n:=xs.length) (by omega) (by omega) (by omega),bEa,bEa,yF xs i false (by omega),yF ys i false (by omega)];by_cases h:xs.getD i false=ys.getD i false
  ·rw [if_neg (by rw [h]; simp)]
   have:=ih k (i+1) (by omega) (by omega) (by omega)
   rw [show ((i:Int)+1)=((i+1:Nat):Int) from by omega,this];simp only [List.cons.injEq,h,true_and]
  ·rw [if_pos (by simpa using h)]
   simp only [List.cons.injEq,h,false_and,decide_false]
theorem bIv (xs ys:List Bool) (hb:xs.length≤140737488355328):Ev (fun k=>mB k xs ys) (decide (xs=ys)):=by
 by_cases hl:xs.length=ys.length
 ·refine Ev.of (k := xs.length + 1) (xN xs ys) ?_
  simp only [mB]
  rw [if_pos (by omega)];have:=bIu xs ys hl hb xs.length (xs.length+1) 0 (by omega) (by omega) (by omega)
  simpa using this
 ·refine Ev.of (k := 0) (xN xs ys) ?_
  simp only [mB]
  rw [if_neg (by omega)];have:xs≠ys:=fun h=>hl (by rw [h])
  simp [this]
theorem bMh (x0:List Int) (x1 x2 x3:Int) (x4:List Bool) (y0:List Int) (y1 y2 y3:Int) (y4:List Bool) (h0:x0.length≤140737488355328) (h4:x4.length≤140737488355328):
  Ev (fun k=>sC k x0 x1 x2 x3 x4 y0 y1 y2 y3 y4) (decide (x0=y0∧x1=y1∧x2=y2∧x3=y3∧x4=y4)):=by
 simp only [sC]
 refine (bCi x0 y0 h0).bind ?_;by_cases e0:x0=y0
 ·simp only [e0, decide_true, qL, true_and]
  by_cases e1:x1=y1
  ·simp only [e1, qL, true_and]
   by_cases e2:x2=y2
   ·simp only [e2, qL, true_and]
    by_cases e3:x3=y3
    ·simp only [e3, qL, true_and]
     refine (bIv x4 y4 h4).bind ?_;by_cases e4:x4=y4
     ·simp only [e4,decide_true,qL];exact Ev.now _
     ·simp only [e4,decide_false,if_false,nI];exact Ev.now _
    ·simp only [e3,if_false,false_and,decide_false];exact Ev.now _
   ·simp only [e2,if_false,false_and,decide_false];exact Ev.now _
  ·simp only [e1,if_false,false_and,decide_false];exact Ev.now _
 ·simp only [e0,decide_false,if_false,nI,false_and];exact Ev.now _
end Go.Proofs.YtbaklikaoleplaaGreat.Pure
