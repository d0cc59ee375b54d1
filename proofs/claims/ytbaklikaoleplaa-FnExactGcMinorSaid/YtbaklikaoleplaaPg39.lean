import Derived.Test.YtbaklikaoleplaaPg24
import Derived.Test.YtbaklikaoleplaaPg27
import Derived.Test.YtbaklikaoleplaaPg33
import Derived.Test.YtbaklikaoleplaaPg28
import Derived.Test.YtbaklikaoleplaaPg34
import Derived.Test.YtbaklikaoleplaaPg32
import Derived.Test.YtbaklikaoleplaaPg26
import Derived.Test.YtbaklikaoleplaaPg38
import Derived.Test.YtbaklikaoleplaaPg29
import Derived.Test.YtbaklikaoleplaaPg30
import Derived.Test.YtbaklikaoleplaaPg36
import Derived.Test.YtbaklikaoleplaaPg35
namespace Go.Proofs.Ytbaklikaoleplaa.Pure
open Go.RowKit Go.Proofs.Ytbaklikaoleplaa.K Go.Proofs.YtbaklikaoleplaaW.PrintWords Go.Proofs.YtbaklikaoleplaaW.PrintLast Go.Proofs.YtbaklikaoleplaaW.PrintMore
set_option linter.unusedVariables false
set_option linter.unusedSimpArgs false
def hdN (c:Int):Int:=if c<0 then 2 else 1
def szN (cs:Cs) (ws:List Int) (x:Int):Int:=mstep ws (allF cs) ws.length x
def VOk (cs:Cs) (W:List Int) (c k v:Int):Prop:=if ldB cs c k=true then v=0∨v - 1∈W else -128≤v∧v≤127
def Wd (cs:Cs) (ws:List Int) (y:Int) (cards:List Bool) (W:List Int) (x i k:Int):Prop:=
  VOk cs W (rd ws x) k (rd ws i)∧(ldB cs (rd ws x) k=true→x≥y→1≤rd ws i→rd ws i≤y→rdOf false cards ((i - y)/4)=true)
structure Opn (cs:Cs) (ws:List Int) (y t o:Int) (cards:List Bool) (W:List Int):Prop where
 b:Bnd cs ws y t o cards
 z: ∀j:Nat,j<ws.length→Zr ws y t o j
 w1:(pw ws (allF cs) t t.toNat 0).2=true
 w2:(pw ws (allF cs) o (o - y).toNat y).2=true
 w:W=(pw ws (allF cs) t t.toNat 0).1++(pw ws (allF cs) o (o - y).toNat y).1
 d: ∀x∈W,∀k,0≤k→k<szN cs ws x - hdN (rd ws x)→Wd cs ws y cards W x (x+hdN (rd ws x)+k) k
def mmOf (cs:Cs) (ws:List Int) (y t o:Int) (cards:List Bool) (W:List Int):Mm:=⟨ws,y,t,o,cards,allF cs,W.map (· +1)⟩
theorem parts_zero {cs:Cs} {ws:List Int} {y t o:Int} {cards:List Bool} (hb:Bnd cs ws y t o cards):impl_partsOk.f ws y t o cards=some true↔∀j:Nat,j<ws.length→Zr ws y t o j:=by
 have n0:=hb.n0;have n1:=hb.n1;have y0:=hb.y0;have y1:=hb.y1;have t0:=hb.t0;have t1:=hb.t1;have o0:=hb.o0;have o1:=hb.o1;have cd:=hb.cd;have w:wrap64 ((ws.length:Int) - y)=(ws.length:Int) - y:=wrap64_of (by omega) (by omega)
 have w4:cardsN (wrap64 ((ws.length:Int) - y))=((ws.length:Int) - y+3)/4:=by
  rw [w];unfold cardsN;rw [wrap64_of (n:=(ws.length:Int) - y+4) (by omega) (by omega),wrap64_of (n:=(ws.length:Int) - y+4 - 1) (by omega) (by omega),Int.tdiv_eq_ediv_of_nonneg (by omega),show (ws.length:Int) - y+4 - 1=(ws.length:Int) - y+3 by omega,wrap64_of (by omega) (by omega)]
 have e0:pOk ws y t o cards 0=true:=decide_eq_true ⟨y0,y1⟩
 have e1:pOk ws y t o cards 1=true:=decide_eq_true (by rw [w];exact ⟨n0,n1⟩)
 have e2:pOk ws y t o cards 2=true:=decide_eq_true ⟨t0,t1⟩
 have e3:pOk ws y t o cards 3=true:=decide_eq_true ⟨o0,o1⟩
 have e4:pOk ws y t o cards 4=true:=beq_iff_eq.mpr (by rw [w4];exact cd)
 have h5:pOk ws y t o cards 5=true↔∀j:Nat,t≤j→(j:Int)≤y - 1→ws.getD j 0=0:=by
  show ((ws.take y.toNat).drop t.toNat).all (· ==0)=true↔_
  rw [all_drop_iff]
  constructor
  ·intro h j h1 h2
   have:=h j (by omega) (by rw [List.length_take];omega)
   rw [List.getD_eq_getElem?_getD,List.getElem?_take,if_pos (by omega)] at this;rw [List.getD_eq_getElem?_getD];exact this
  ·intro h j h1 h2
   rw [List.length_take] at h2;rw [List.getD_eq_getElem?_getD,List.getElem?_take,if_pos (by omega)];have:=h j (by omega) (by omega)
   rw [List.getD_eq_getElem?_getD] at this;exact this
 have h6:pOk ws y t o cards 6=true↔∀j:Nat,o≤j→j<ws.length→ws.getD j 0=0:=by
  show ((ws.drop y.toNat).drop (o - y).toNat).all (· ==0)=true↔_
  rw [List.drop_drop,all_drop_iff]
  constructor
  ·intro h j h1 h2;exact h j (by omega) h2
  ·intro h j h1 h2;exact h j (by omega) h2
 unfold impl_partsOk.f;rw [if_pos (by omega),e0,e1,e2,e3,e4];simp only [Bool.true_and,Option.some.injEq,Bool.and_eq_true]
 rw [h5,h6]
 constructor
 ·rintro ⟨q1, q2⟩ j hj z
  rcases z with z|z
  ·exact q1 j z.1 z.2
  ·exact q2 j z hj
 ·intro q
  exact ⟨fun j h1 h2=>q j (by omega) (Or.inl ⟨h1,h2⟩),fun j h1 h2=>q j h2 (Or.inr h1)⟩
theorem thing_know {cs:Cs} {ws:List Int} {y t o:Int} {cards:List Bool} (hb:Bnd cs ws y t o cards) {W:List Int} (hw:Wlk cs ws W) {x:Int} (hx:x∈W):
  0≤x∧x<ws.length∧0≤szN cs ws x - hdN (rd ws x)∧szN cs ws x - hdN (rd ws x)≤8∧x+szN cs ws x≤ws.length∧(hdN (rd ws x)=1∨hdN (rd ws x)=2)∧(rd ws x<0→hdN (rd ws x)=2)∧
   thing_count.f (mmOf cs ws y t o cards W) (x+1)=some (szN cs ws x - hdN (rd ws x))∧thing_first.f (mmOf cs ws y t o cards W) (x+1)=some (x+hdN (rd ws x))∧
   (∀k,0≤k→k<szN cs ws x - hdN (rd ws x)→thing_leads.f (mmOf cs ws y t o cards W) (x+1) k=some (ldB cs (rd ws x) k))∧∀k,20≤k→spec_l21Size.f k cs ws x ws.length=some (szN cs ws x):=by
 have n0:=hb.n0;have n1:=hb.n1;have y0:=hb.y0;have y1:=hb.y1;obtain ⟨cc,hd,cnt,hcc,h0,hhd,hcn,hcn8,hsz,hco,hfi,hhe,hl21,hle,hcl⟩:=thing_facts (t:=t) (o:=o) (cards:=cards) hb hw _ rfl hx;have hxr:=wlk_range hw hx;have h20:=hl21 20 (Nat.le_refl _);rw [l21Size_eq hb.ok (by omega) h0 (Int.le_refl _) 20 (by omega),if_pos hxr.2] at h20;have h20:=Option.some.inj h20
 have hh:hdN (rd ws x)=hd:=by
  unfold spec_l21Head.f at hhe;unfold hdN;rw [←hcc];by_cases c:cc<0
  ·rw [if_pos c] at hhe ⊢;exact Option.some.inj hhe
  ·rw [if_neg c] at hhe ⊢;exact Option.some.inj hhe
 have hs:szN cs ws x - hdN (rd ws x)=cnt:=by unfold szN;rw [hh,h20];omega
 have hs2:szN cs ws x=hd+cnt:=by unfold szN;exact h20
 rw [hs,hh];refine ⟨h0,hxr.2,hcn,hcn8,by omega,hhd,fun hn=>?_,hco,hfi,fun k k0 k1=>by rw [←hcc];exact hle k k0 k1,fun k hk=>by rw [hs2];exact hl21 k hk⟩;rw [←hh];unfold hdN;rw [if_pos hn]
theorem word_iff {cs:Cs} {ws:List Int} {y t o:Int} {cards:List Bool} (hb:Bnd cs ws y t o cards) {W:List Int} (hw:Wlk cs ws W) {x:Int} (hx:x∈W) {k:Int} (k0:0≤k) (k1:k<szN cs ws x - hdN (rd ws x)) (q:Nat) (hq:300≤q):
  wordAt q (mmOf cs ws y t o cards W) (x+1) k=some true↔Wd cs ws y cards W x (x+hdN (rd ws x)+k) k:=by
 have n0:=hb.n0;have n1:=hb.n1;have y0:=hb.y0;have y1:=hb.y1;have cd:=hb.cd;obtain ⟨h0,h1,h2,h3,h4,h5,_,hco,hfi,hle,_⟩:=thing_know (t:=t) (o:=o) (cards:=cards) hb hw hx;obtain ⟨i,hi⟩: ∃i,i=x+hdN (rd ws x)+k:=⟨_,rfl⟩;obtain ⟨v,hv⟩: ∃v,v=rd ws i:=⟨_,rfl⟩;rw [←hi];have hi0:x<i∧i<ws.length:=by omega
 have hA:wordAt q (mmOf cs ws y t o cards W) (x+1) k=if ldB cs (rd ws x) k=true then (if v=0 then some true else (memory_has.f q (mmOf cs ws y t o cards W) v).bind fun h=>if h=true then cardOk (mmOf cs ws y t o cards W) (x+1) v i else some false) else impl_isWord.f v:=by
  unfold wordAt;rw [hfi,Option.bind_some,show (mmOf cs ws y t o cards W).words=ws from rfl,←hi,if_pos (by omega),hle k k0 k1,Option.bind_some,←hv]
 rw [hA];unfold Wd VOk;rw [←hv];by_cases l:ldB cs (rd ws x) k=true
 case neg=>
  rw [if_neg l,if_neg l]
  have hw8:impl_isWord.f v=some (decide (-128≤v∧v≤127)):=by
   unfold impl_isWord.f;by_cases q:v≥ -128
   ·rw [if_pos q];simp [show -128≤v from q]
   ·rw [if_neg q];simp [show¬ -128≤v from q]
  rw [hw8,Option.some.injEq,decide_eq_true_iff];exact ⟨fun h=>⟨h,fun e=>absurd e l⟩,fun h=>h.1⟩
 case pos=>
 rw [if_pos l,if_pos l];by_cases v0:v=0
 ·rw [if_pos v0]
  exact ⟨fun _=>⟨.inl v0,fun _ _ e=>by omega⟩,fun _=>rfl⟩
 rw [if_neg v0,has_eq hw _ rfl v q hq,Option.bind_some];by_cases vw:v - 1∈W
 case neg=>
  rw [decide_eq_false vw];exact ⟨fun h=>by simp at h,fun h=>absurd (h.1.resolve_left v0) vw⟩
 case pos=>
 have hvr:=wlk_range hw vw;rw [decide_eq_true vw,if_pos rfl]
 have hC:cardOk (mmOf cs ws y t o cards W) (x+1) v i=if x≥y then (if 1≤v∧v≤y then some (rdOf false cards ((i - y)/4)) else some true) else some true:=by
  unfold cardOk;show (if x+1>y then (if v>y then some true else (if 0≤wrap64 (Int.tdiv (wrap64 (i - y)) 4)∧wrap64 (Int.tdiv (wrap64 (i - y)) 4)<(cards.length:Int) then some (rdOf false cards (wrap64 (Int.tdiv (wrap64 (i - y)) 4))) else none)) else some true)=_
  by_cases z1:x≥y
  ·rw [if_pos (show x + 1 > y by omega), if_pos z1]
   by_cases z2:v>y
   ·rw [if_pos z2,if_neg (by omega)]
   ·rw [if_neg z2,if_pos (show 1≤v∧v≤y by omega),wrap64_of (n:=i - y) (by omega) (by omega),Int.tdiv_eq_ediv_of_nonneg (by omega),wrap64_of (n:=(i - y)/4) (by omega) (by omega),if_pos (by omega)]
  ·rw [if_neg (show¬x+1>y by omega),if_neg z1]
 rw [hC];by_cases z1:x≥y
 ·rw [if_pos z1]
  by_cases z2:1≤v∧v≤y
  ·rw [if_pos z2, Option.some.injEq]
   exact ⟨fun h=>⟨.inr vw,fun _ _ _ _=>h⟩,fun h=>h.2 l z1 z2.1 z2.2⟩
  ·rw [if_neg z2]
   exact ⟨fun _=>⟨.inr vw,fun _ _ a b=>absurd ⟨a,b⟩ z2⟩,fun _=>rfl⟩
 ·rw [if_neg z1]
  exact ⟨fun _=>⟨.inr vw,fun _ a=>absurd a z1⟩,fun _=>rfl⟩
theorem wordsl_iff (q:Nat) (m:Mm) (a n:Int): ∀(d:Nat) (k:Int) (j:Nat),0≤k→k+d=n→d+1≤j→(wordsOk.l q m a n j k=some true↔∀i,k≤i→i<n→wordAt q m a i=some true):=by
 intro d
 induction d with
 |zero=>
  intro k j h0 hd hj;obtain ⟨j,rfl⟩: ∃i,j=i+1:=⟨j - 1,by omega⟩;rw [wordsOk.l,if_neg (by omega)];exact ⟨fun _ i h1 h2=>by omega,fun _=>rfl⟩
 | succ d ih =>
  intro k j h0 hd hj;obtain ⟨j,rfl⟩: ∃i,j=i+1:=⟨j - 1,by omega⟩;rw [wordsOk.l,if_pos (by omega)];have ih:=ih (k+1) j (by omega) (by omega) (by omega)
  constructor
  ·intro h i h1 h2
   obtain ⟨b,hb,h⟩:=Option.bind_eq_some_iff.mp h
   cases b with
   |false=>simp at h
   |true=>
    rw [if_pos rfl] at h;rcases Int.lt_or_eq_of_le h1 with z|z
    ·exact ih.mp h i (by omega) h2
    ·rw [←z];exact hb
  ·intro h
   rw [h k (by omega) (by omega),Option.bind_some,if_pos rfl];exact ih.mpr (fun i h1 h2=>h i (by omega) h2)
theorem things_iff (q:Nat) (m:Mm): ∀L:List Int,thingsOk q m L=some true↔∀a∈L,wordsOk.f q m a=some true
 |[]=>by simp [thingsOk]
 | a :: r => by
  have ih:=things_iff q m r;rw [thingsOk]
  constructor
  ·intro h z hz
   obtain ⟨b,hb,h⟩:=Option.bind_eq_some_iff.mp h
   cases b with
   |false=>simp at h
   |true=>
    rw [if_pos rfl] at h;rcases List.mem_cons.mp hz with rfl|hz
    ·exact hb
    ·exact ih.mp h z hz
  ·intro h
   rw [h a (List.mem_cons_self ..),Option.bind_some,if_pos rfl];exact ih.mpr (fun z hz=>h z (List.mem_cons_of_mem _ hz))
theorem allw_iff {cs:Cs} {ws:List Int} {y t o:Int} {cards:List Bool} (hb:Bnd cs ws y t o cards) {W:List Int} (hw:Wlk cs ws W) (q:Nat) (hq:300≤q):
  thingsOk q (mmOf cs ws y t o cards W) (W.map (· +1))=some true↔∀x∈W,∀k,0≤k→k<szN cs ws x - hdN (rd ws x)→Wd cs ws y cards W x (x+hdN (rd ws x)+k) k:=by
 rw [things_iff]
 have one: ∀x∈W,wordsOk.f q (mmOf cs ws y t o cards W) (x+1)=some true↔∀k,0≤k→k<szN cs ws x - hdN (rd ws x)→Wd cs ws y cards W x (x+hdN (rd ws x)+k) k:=fun x hx=>by
  obtain ⟨h0,h1,h2,h3,h4,h5,_,hco,hfi,hle,_⟩:=thing_know (t:=t) (o:=o) (cards:=cards) hb hw hx;unfold wordsOk.f;rw [hco,Option.bind_some,if_pos (by omega),wordsl_iff q _ (x+1) _ (szN cs ws x - hdN (rd ws x)).toNat 0 _ (by omega) (by omega) (by omega)];exact ⟨fun h k k0 k1=>(word_iff hb hw hx k0 k1 q hq).mp (h k k0 k1),fun h k k0 k1=>(word_iff hb hw hx k0 k1 q hq).mpr (h k k0 k1)⟩
 constructor
 ·intro h x hx
  exact (one x hx).mp (h (x+1) (List.mem_map.mpr ⟨x,hx,rfl⟩))
 ·intro h a ha
  obtain ⟨x,hx,rfl⟩:=List.mem_map.mp ha;exact (one x hx).mpr (h x hx)
theorem Opn.wlk {cs:Cs} {ws:List Int} {y t o:Int} {cards:List Bool} {W:List Int} (h:Opn cs ws y t o cards W):Wlk cs ws W:=by
 have n0:=h.b.n0;have n1:=h.b.n1;have y0:=h.b.y0;have y1:=h.b.y1;have t0:=h.b.t0;have t1:=h.b.t1;have o0:=h.b.o0;have o1:=h.b.o1;have l1:=pw_len ws (allF cs) t t.toNat 0;have l2:=pw_len ws (allF cs) o (o - y).toNat y;have m1:=pw_mem ws (allF cs) t t.toNat 0;have m2:=pw_mem ws (allF cs) o (o - y).toNat y;have s1:=pw_sorted ws (allF cs) t t.toNat 0;have s2:=pw_sorted ws (allF cs) o (o - y).toNat y;rw [h.w];refine ⟨fun x hx=>?_,?_,by rw [List.length_append];omega⟩
 ·rcases List.mem_append.mp hx with z | z
  ·have:=m1 x z;exact ⟨t,by omega,by omega,by omega,by omega,by omega⟩
  ·have:=m2 x z;exact ⟨o,by omega,by omega,by omega,by omega,by omega⟩
 ·rw [List.pairwise_append]
  exact ⟨s1,s2,fun a ha b hb'=>by have:=m1 a ha;have:=m2 b hb';omega⟩
theorem Opn.to {cs:Cs} {ws:List Int} {y t o:Int} {cards:List Bool} {W:List Int} (h:Opn cs ws y t o cards W): ∀k,4000000≤k→mopen k k cs ws y t o cards=some (some (mmOf cs ws y t o cards W)):=by
 intro k hk;have n0:=h.b.n0;have n1:=h.b.n1;have y0:=h.b.y0;have y1:=h.b.y1;have t0:=h.b.t0;have t1:=h.b.t1;have o0:=h.b.o0;have o1:=h.b.o1;have cd:=h.b.cd;have l1:=pw_len ws (allF cs) t t.toNat 0;have l2:=pw_len ws (allF cs) o (o - y).toNat y;have hp:impl_partsOk.f ws y t o cards=some true:=(parts_zero h.b).mpr h.z
 have ht:=(allw_iff h.b h.wlk k (by omega)).mpr h.d;unfold mopen
 rw [impl_ClassesOk_eq cs k (by omega),h.b.ok,Option.bind_some,if_pos rfl,hp,Option.bind_some,if_pos rfl,allFields_eq h.b.ok k (by omega),Option.bind_some,if_pos ⟨allF_all h.b.ok,by omega,by omega⟩,
  pw_mwalk ws (allF cs) t t.toNat 0 [] k (by omega) (by omega),Option.bind_some,if_pos h.w1,if_pos (by simp;omega),pw_mwalk ws (allF cs) o (o - y).toNat y _ k (by omega) (by omega),Option.bind_some,if_pos h.w2,if_pos (by simp;omega)]
 simp only [List.nil_append,←List.map_append]
 rw [←h.w];unfold mmOf at ht ⊢;rw [ht];rfl
theorem opn_of {cs:Cs} (hf:fewF cs) {ws:List Int} {y t o:Int} {cards:List Bool} (hn:ws.length≤1048576) (hc:cards.length≤1048576):
  ∃r:Option Mm,(∀k,4000000≤k→mopen k k cs ws y t o cards=some r)∧(∀k,4000000≤k→spec_MemOk.f k cs ws y t o cards=some r.isSome)∧∀m,r=some m→∃W,Opn cs ws y t o cards W∧m=mmOf cs ws y t o cards W∧(∀k,4000000≤k→spec_l21Walk.f k cs ws y t o cards=some (W,true)):=by
 obtain ⟨r,h1,h2,h3⟩:=open_eq2 (cs:=cs) hf (ws:=ws) (y:=y) (t:=t) (o:=o) (cards:=cards) hn hc;refine ⟨r,h1,h2,fun m hm=>?_⟩;obtain ⟨W,hb,hw,hm2,hk,hp,hW,ht⟩:=h3 m hm;obtain ⟨e,p1,p2⟩:=walk_parts hb hk;refine ⟨W,⟨hb,?_,p1,p2,e,?_⟩,hm2,hk⟩
 ·refine (parts_zero hb).mp ?_
  obtain ⟨p,hp1,_,_⟩:=bounds_eq (cs:=cs) (y:=y) (t:=t) (o:=o) hf hb.ok hn hc
  cases p with
  |true=>exact hp1
  |false=>
   have q:=h1 4000000 (Nat.le_refl _);unfold mopen at q;rw [impl_ClassesOk_eq cs 4000000 (by omega),hb.ok,Option.bind_some,if_pos rfl,hp1,Option.bind_some,if_neg (by simp)] at q;rw [hm] at q;simp at q
 ·have := ht 300 (Nat.le_refl _)
  rw [hm2] at this;exact (allw_iff hb hw 300 (Nat.le_refl _)).mp this
theorem rd_set_ne {ws:List Int} {i j:Int} (v:Int) (hi:0≤i) (hj:0≤j) (h:j≠i):rd (ws.set i.toNat v) j=rd ws j:=by
  unfold rd;rw [List.getD_eq_getElem?_getD,List.getD_eq_getElem?_getD,List.getElem?_set_ne (by omega)]
theorem rd_set_eq {ws:List Int} {i:Int} (v:Int) (hi:0≤i) (h:i<ws.length):rd (ws.set i.toNat v) i=v:=by
  unfold rd;rw [List.getD_eq_getElem?_getD,List.getElem?_set_self (by omega)];rfl
section
variable {cs:Cs} {ws:List Int} {y t o:Int} {cards:List Bool} {W:List Int}
theorem Opn.part (h:Opn cs ws y t o cards W) {x:Int} (hx:x∈W):(0≤x∧x+szN cs ws x≤t∧0<szN cs ws x∧x∈(pw ws (allF cs) t t.toNat 0).1)∨(y≤x∧x+szN cs ws x≤o∧0<szN cs ws x∧x∈(pw ws (allF cs) o (o - y).toNat y).1):=by
 have n0:=h.b.n0;have n1:=h.b.n1;have t1:=h.b.t1;have o1:=h.b.o1;have y1:=h.b.y1;rw [h.w] at hx;unfold szN;rcases List.mem_append.mp hx with z|z
 ·have m := pw_mem ws (allF cs) t t.toNat 0 x z
  rw [mstep_up m.2.2.1 (show t≤ws.length by omega)];exact .inl ⟨by omega,by omega,by omega,z⟩
 ·have m := pw_mem ws (allF cs) o (o - y).toNat y x z
  rw [mstep_up m.2.2.1 (show o≤ws.length by omega)];exact .inr ⟨by omega,by omega,by omega,z⟩
theorem Opn.know (h:Opn cs ws y t o cards W) {x:Int} (hx:x∈W):0≤x∧x<ws.length∧0≤szN cs ws x - hdN (rd ws x)∧szN cs ws x - hdN (rd ws x)≤8∧x+szN cs ws x≤ws.length∧(hdN (rd ws x)=1∨hdN (rd ws x)=2)∧(rd ws x<0→hdN (rd ws x)=2):=by
  obtain ⟨a,b,c,d,e,f,g,_⟩:=thing_know h.b h.wlk hx;exact ⟨a,b,c,d,e,f,g⟩
end
structure Am where
 mv:List (Int×Int)
 o:Int
 full:Bool
def ld (cs:Cs) (ws:List Int) (x r:Int):Bool:=decide (hdN (rd ws x)≤r)&&ldB cs (rd ws x) (r - hdN (rd ws x))
def wnt (cs:Cs) (ws:List Int) (y:Int) (cards:List Bool) (cd:Bool) (x r:Int):Bool:=ld cs ws x r&&(!cd||rdOf false cards ((x+r - y)/4))
def cmA (cs:Cs) (ws:List Int) (y:Int) (s:Am) (v:Int):Am:=
 if v=0 then s else if v>y then s else if (lookM s.mv v).isSome=true∨s.full=true then s
 else if szN cs ws (v - 1)>(ws.length:Int) - s.o then {s with full:=true}
 else ⟨s.mv++[(v,s.o+1)],s.o+szN cs ws (v - 1),false⟩
def thA (cs:Cs) (ws:List Int) (y:Int) (cards:List Bool) (x:Int) (cd:Bool):Nat→Int→Am→Am
  |0,_,s=>s
  |d+1,r,s=>thA cs ws y cards x cd d (r+1) (if wnt cs ws y cards cd x r=true then cmA cs ws y s (rd ws (x+r)) else s)
def thW (cs:Cs) (ws:List Int) (y:Int) (cards:List Bool) (cd:Bool) (s:Am) (x:Int):Am:=thA cs ws y cards x cd (szN cs ws x).toNat 0 s
def chA (cs:Cs) (ws:List Int) (y:Int) (cards:List Bool):Nat→Nat→Am→Am
  |0,_,s=>s
  |d+1,i,s=>if s.mv.length≤i then s else chA cs ws y cards d (i+1) (thW cs ws y cards false s (rd (s.mv.map Prod.fst) i - 1))
def oldW (cs:Cs) (ws:List Int) (y o:Int):List Int:=(pw ws (allF cs) o (o - y).toNat y).1
def am0 (o:Int):Am:=⟨[],o,false⟩
def minorA (cs:Cs) (ws:List Int) (y o:Int) (cards:List Bool) (roots:List Int):Am:=
  chA cs ws y cards 201 0 ((oldW cs ws y o).foldl (thW cs ws y cards true) (roots.foldl (cmA cs ws y) (am0 o)))
def Kn (y:Int) (s:Am) (v:Int):Prop:=v=0∨v>y∨(lookM s.mv v).isSome=true
def locs (P:List Int) (mv:List (Int×Int)):List (Int×Int):=P.map (fun x=>(x,x))++mv.map (fun p=>(p.2 - 1,p.1 - 1))
def Chl (sz:Int→Int):Int→List (Int×Int)→Int→Prop
  |b,[],e=>b=e
  |b,p::r,e=>p.1=b∧Chl sz (b+sz p.2) r e
theorem Chl.add {sz:Int→Int}: ∀{l:List (Int×Int)} {b e c:Int},Chl sz b l e→∀q:List (Int×Int),Chl sz e q c→Chl sz b (l++q) c
 |[],b,e,c,h,q,hq=>by
  have h:b=e:=h
  rw [h];exact hq
 |p::r,b,e,c,h,q,hq=>⟨h.1,Chl.add h.2 q hq⟩
theorem Chl.mem {sz:Int→Int}: ∀{l:List (Int×Int)} {b e:Int},Chl sz b l e→(∀p∈l,0<sz p.2)→b≤e∧∀p∈l,b≤p.1∧p.1+sz p.2≤e
 |[],b,e,h,_=>by
  have h:b=e:=h
  exact ⟨by omega,fun p hp=>by simp at hp⟩
 |p::r,b,e,h,hp=>by
  obtain ⟨h1,h2⟩:=h;have hz:=hp p (List.mem_cons_self ..);obtain ⟨i1,i2⟩:=Chl.mem h2 (fun q hq=>hp q (List.mem_cons_of_mem _ hq));refine ⟨by omega,fun q hq=>?_⟩;rcases List.mem_cons.mp hq with rfl|hq
  ·omega
  ·have:=i2 q hq;omega
theorem Chl.cover {sz:Int→Int} {j:Int}: ∀{l:List (Int×Int)} {b e:Int},Chl sz b l e→b≤j→j<e→∃p∈l,p.1≤j∧j<p.1+sz p.2
 |[],b,e,h,h1,h2=>by
  have h:b=e:=h
  omega
 | p :: r, b, e, h, h1, h2 => by
  obtain ⟨q1,q2⟩:=h;by_cases c:j<b+sz p.2
  ·exact ⟨p,List.mem_cons_self ..,by omega,by omega⟩
  ·obtain ⟨q, hq, z⟩ := Chl.cover q2 (by omega) h2
   exact ⟨q,List.mem_cons_of_mem _ hq,z⟩
theorem Chl.one {sz:Int→Int} {j:Int}: ∀{l:List (Int×Int)} {b e:Int},Chl sz b l e→(∀p∈l,0<sz p.2)→∀p∈l,∀q∈l,p.1≤j→j<p.1+sz p.2→q.1≤j→j<q.1+sz q.2→p=q
 |[],b,e,h,_,p,hp,q,hq=>by simp at hp
 | a :: r, b, e, h, hz, p, hp, q, hq => by
  obtain ⟨h1,h2⟩:=h;have i:=Chl.mem h2 (fun q hq=>hz q (List.mem_cons_of_mem _ hq));intro a1 a2 b1 b2;rcases List.mem_cons.mp hp with e1|hp2
  ·rcases List.mem_cons.mp hq with e2 | hq2
   ·rw [e1,e2]
   ·have:=i.2 q hq2;rw [e1] at a1 a2;omega
  ·rcases List.mem_cons.mp hq with e2 | hq2
   ·have:=i.2 p hp2;rw [e2] at b1 b2;omega
   ·exact Chl.one h2 (fun q hq=>hz q (List.mem_cons_of_mem _ hq)) p hp2 q hq2 a1 a2 b1 b2
theorem lookM_mem {mv:List (Int×Int)} {a b:Int} (h:lookM mv a=some b):(a,b)∈mv:=by
 unfold lookM at h;obtain ⟨p,hp,rfl⟩:=Option.map_eq_some_iff.mp h;have h1:=List.find?_some hp;have h2:=List.mem_of_find?_eq_some hp;have h1:p.1=a:=by simpa using h1
 rw [←h1];exact h2
theorem lookM_none {mv:List (Int×Int)} {a:Int} (h:lookM mv a=none): ∀p∈mv,p.1≠a:=by
 intro p hp e;unfold lookM at h;rw [Option.map_eq_none_iff,List.find?_eq_none] at h;exact h p hp (by simp [e])
theorem lookM_of {mv:List (Int×Int)} (hn:(mv.map Prod.fst).Nodup) {p:Int×Int} (hp:p∈mv):lookM mv p.1=some p.2:=by
 cases h:lookM mv p.1 with
 |none=>exact absurd rfl (lookM_none h p hp)
 | some b =>
  have hm:=lookM_mem h
  induction mv with
  |nil=>simp at hp
  | cons q r ih =>
   rw [List.map_cons,List.nodup_cons] at hn;unfold lookM at h;rw [List.find?_cons] at h;by_cases c:q.1=p.1
   ·rw [show (q.1 == p.1) = true by simp [c]] at h
    have h:some q.2=some b:=h
    rcases List.mem_cons.mp hp with e|hp2
    ·rw [e,h]
    ·exact absurd (by rw [c];exact List.mem_map.mpr ⟨p,hp2,rfl⟩) hn.1
   ·rw [show (q.1 == p.1) = false by simp [c]] at h
    have hp2:p∈r:=(List.mem_cons.mp hp).resolve_left (fun e=>c (by rw [e]))
    exact ih hn.2 hp2 h (lookM_mem h)
theorem lookM_pre {mv l:List (Int×Int)} {a b:Int} (h:lookM mv a=some b):lookM (mv++l) a=some b:=by
 unfold lookM at h ⊢;obtain ⟨p,hp,e⟩:=Option.map_eq_some_iff.mp h;rw [List.find?_append,hp];exact congrArg some e
structure Ext (s s':Am):Prop where
 pre: ∃l,s'.mv=s.mv++l
 ful:s.full=true→s'=s
 up:s.o≤s'.o
theorem Ext.refl (s:Am):Ext s s:=⟨⟨[],by simp⟩,fun _=>rfl,Int.le_refl _⟩
theorem Ext.trans {a b c:Am} (h:Ext a b) (k:Ext b c):Ext a c:=by
 obtain ⟨l,hl⟩:=h.pre;obtain ⟨q,hq⟩:=k.pre;refine ⟨⟨l++q,by rw [hq,hl,List.append_assoc]⟩,fun f=>?_,Int.le_trans h.up k.up⟩;have e:=h.ful f;rw [k.ful (by rw [e];exact f),e]
theorem Ext.nf {a b:Am} (h:Ext a b) (f:b.full=false):a.full=false:=by
 cases c:a.full with
 |false=>rfl
 |true=>rw [h.ful c,c] at f;cases f
theorem Ext.kn {y:Int} {a b:Am} (h:Ext a b) {v:Int} (k:Kn y a v):Kn y b v:=by
 rcases k with k|k|k
 ·exact .inl k
 ·exact .inr (.inl k)
 ·obtain ⟨l, hl⟩ := h.pre
  obtain ⟨p,hp⟩:=Option.isSome_iff_exists.mp k;exact .inr (.inr (by rw [hl,lookM_pre hp];rfl))
structure AI (cs:Cs) (ws:List Int) (y o:Int) (W:List Int) (s:Am):Prop where
 chn:Chl (szN cs ws) y (locs (oldW cs ws y o) s.mv) s.o
 key: ∀p∈s.mv,1≤p.1∧p.1≤y∧p.1 - 1∈W
 nod:(s.mv.map Prod.fst).Nodup
 top:s.o≤ws.length
section
variable {cs:Cs} {ws:List Int} {y t o:Int} {cards:List Bool} {W:List Int}
theorem chn_locs {sz:Int→Int} {e:Int}: ∀(L:List Int) (i:Int),Chn sz e i L→Chl sz i (L.map fun x=>(x,x)) e
 |[],i,h=>h
 |x::r,i,h=>by
  obtain ⟨h1,h2⟩:=h;subst h1;exact ⟨rfl,chn_locs r _ h2⟩
theorem Opn.old (H:Opn cs ws y t o cards W) {x:Int} (hx:x∈oldW cs ws y o):x∈W∧y≤x:=by
  refine ⟨by rw [H.w];exact List.mem_append_right _ hx,?_⟩;exact (pw_mem ws (allF cs) o (o - y).toNat y x hx).1
theorem Opn.sz0 (H:Opn cs ws y t o cards W) {x:Int} (hx:x∈W):0<szN cs ws x:=by
  rcases H.part hx with h|h<;>exact h.2.2.1
theorem Opn.start0 (H:Opn cs ws y t o cards W):AI cs ws y o W (am0 o):=by
 have n0:=H.b.n0;have o0:=H.b.o0;have o1:=H.b.o1;refine ⟨?_,fun p hp=>by simp [am0] at hp,by simp [am0],o1⟩;unfold locs oldW am0;rw [List.map_nil,List.append_nil];exact chn_locs _ _ (pw_chn ws (allF cs) o ws.length (by omega) (o - y).toNat y (by omega) (by omega) H.w2)
theorem AI.pos (H:Opn cs ws y t o cards W) {s:Am} (h:AI cs ws y o W s): ∀p∈locs (oldW cs ws y o) s.mv,p.2∈W∧0<szN cs ws p.2:=by
 intro p hp
 have hw:p.2∈W:=by
  rcases List.mem_append.mp hp with q|q
  ·obtain ⟨x, hx, rfl⟩ := List.mem_map.mp q
   exact (H.old hx).1
  ·obtain ⟨x, hx, rfl⟩ := List.mem_map.mp q
   exact (h.key x hx).2.2
 exact ⟨hw,H.sz0 hw⟩
theorem cmA_or (s:Am) (v:Int):(cmA cs ws y s v=s∧(Kn y s v∨s.full=true))∨
  (s.full=false∧v≠0∧v≤y∧lookM s.mv v=none∧szN cs ws (v - 1)>(ws.length:Int) - s.o∧cmA cs ws y s v={s with full:=true})∨
  (s.full=false∧v≠0∧v≤y∧lookM s.mv v=none∧szN cs ws (v - 1)≤(ws.length:Int) - s.o∧cmA cs ws y s v=⟨s.mv++[(v,s.o+1)],s.o+szN cs ws (v - 1),false⟩):=by
 unfold cmA;by_cases c0:v=0
 ·exact .inl ⟨by rw [if_pos c0],.inl (.inl c0)⟩
 by_cases c1:v>y
 ·exact .inl ⟨by rw [if_neg c0,if_pos c1],.inl (.inr (.inl c1))⟩
 rw [if_neg c0,if_neg c1]
 cases c2:s.full with
 |true=>exact .inl ⟨by rw [if_pos (.inr rfl)],.inr rfl⟩
 |false=>
 cases c3:lookM s.mv v with
 |some b=>exact .inl ⟨by rw [if_pos (.inl rfl)],.inl (.inr (.inr (by rw [c3];rfl)))⟩
 |none=>
 rw [if_neg (by simp)];by_cases c4:szN cs ws (v - 1)>(ws.length:Int) - s.o
 ·exact .inr (.inl ⟨rfl,c0,by omega,rfl,c4,by rw [if_pos c4]⟩)
 ·exact .inr (.inr ⟨rfl,c0,by omega,rfl,by omega,by rw [if_neg c4]⟩)
theorem cmA_ext (H:Opn cs ws y t o cards W) {s:Am} {v:Int} (hv:v=0∨v - 1∈W):Ext s (cmA cs ws y s v)∧(Kn y (cmA cs ws y s v) v∨(cmA cs ws y s v).full=true):=by
 rcases cmA_or (cs:=cs) (ws:=ws) (y:=y) s v with ⟨e,k⟩|⟨f,v0,vy,hn,hz,e⟩|⟨f,v0,vy,hn,hz,e⟩
 ·rw [e];exact ⟨Ext.refl s,k⟩
 ·rw [e];exact ⟨⟨⟨[],by simp⟩,fun q=>(by rw [f] at q;cases q),Int.le_refl _⟩,.inr rfl⟩
 ·have := H.sz0 (hv.resolve_left v0)
  rw [e];exact ⟨⟨⟨_,rfl⟩,fun q=>(by rw [f] at q;cases q),by dsimp only;omega⟩,.inl (.inr (.inr (by rw [lookM_snoc hn,if_pos rfl];rfl)))⟩
theorem AI.come (H:Opn cs ws y t o cards W) {s:Am} (h:AI cs ws y o W s) {v:Int} (hv:v=0∨v - 1∈W):AI cs ws y o W (cmA cs ws y s v):=by
 rcases cmA_or (cs:=cs) (ws:=ws) (y:=y) s v with ⟨e,k⟩|⟨f,v0,vy,hn,hz,e⟩|⟨f,v0,vy,hn,hz,e⟩
 ·rw [e];exact h
 ·rw [e];exact ⟨h.chn,h.key,h.nod,h.top⟩
 ·have hw := hv.resolve_left v0
  have hr:=wlk_range H.wlk hw;rw [e];refine ⟨?_,fun p hp=>?_,?_,by dsimp only;omega⟩
  ·unfold locs
   dsimp only
   rw [List.map_append,←List.append_assoc];refine Chl.add h.chn _ ?_;exact ⟨by dsimp only;omega,by dsimp only;rfl⟩
  ·rcases List.mem_append.mp hp with q | q
   ·exact h.key p q
   ·rw [List.mem_singleton] at q
    subst q;exact ⟨by dsimp only;omega,vy,hw⟩
  ·dsimp only
   rw [List.map_append,List.nodup_append];refine ⟨h.nod,by simp,fun a ha b hb=>?_⟩;simp only [List.map_cons,List.map_nil,List.mem_singleton] at hb;subst hb;obtain ⟨p,hp,rfl⟩:=List.mem_map.mp ha;exact lookM_none hn p hp
theorem Opn.lead (H:Opn cs ws y t o cards W) {x:Int} (hx:x∈W) {r:Int} (r1:r<szN cs ws x) (hl:ld cs ws x r=true):hdN (rd ws x)≤r∧ldB cs (rd ws x) (r - hdN (rd ws x))=true∧(rd ws (x+r)=0∨rd ws (x+r) - 1∈W)∧
  (x≥y→1≤rd ws (x+r)→rd ws (x+r)≤y→rdOf false cards ((x+r - y)/4)=true):=by
 unfold ld at hl;rw [Bool.and_eq_true,decide_eq_true_iff] at hl;have hd:=H.d x hx (r - hdN (rd ws x)) (by omega) (by omega);unfold Wd VOk at hd;rw [if_pos hl.2,show x+hdN (rd ws x)+(r - hdN (rd ws x))=x+r by omega] at hd;exact ⟨hl.1,hl.2,hd.1,fun a b c=>hd.2 hl.2 a b c⟩
theorem thA_ext (H:Opn cs ws y t o cards W) {x:Int} (hx:x∈W) (cd:Bool): ∀(d:Nat) (r:Int) (s:Am),r+d=szN cs ws x→Ext s (thA cs ws y cards x cd d r s)∧(AI cs ws y o W s→AI cs ws y o W (thA cs ws y cards x cd d r s))∧
  ∀i,r≤i→i<szN cs ws x→wnt cs ws y cards cd x i=true→Kn y (thA cs ws y cards x cd d r s) (rd ws (x+i))∨(thA cs ws y cards x cd d r s).full=true
 |0,r,s,hd=>⟨Ext.refl s,id,fun i h1 h2=>by omega⟩
 | d + 1, r, s, hd => by
  rw [thA];by_cases c:wnt cs ws y cards cd x r=true
  ·rw [if_pos c]
   have hl:ld cs ws x r=true:=by unfold wnt at c;rw [Bool.and_eq_true] at c;exact c.1
   have hv:=(H.lead hx (show r<szN cs ws x by omega) hl).2.2.1;obtain ⟨e1,k1⟩:=cmA_ext H (s:=s) hv;obtain ⟨e2,a2,k2⟩:=thA_ext H hx cd d (r+1) (cmA cs ws y s (rd ws (x+r))) (by omega);refine ⟨e1.trans e2,fun a=>a2 (a.come H hv),fun i h1 h2 h3=>?_⟩;by_cases ci:i=r
   ·subst ci
    rcases k1 with k1|k1
    ·exact .inl (e2.kn k1)
    ·exact .inr (by rw [e2.ful k1];exact k1)
   ·exact k2 i (by omega) h2 h3
  ·rw [if_neg c]
   obtain ⟨e2,a2,k2⟩:=thA_ext H hx cd d (r+1) s (by omega);refine ⟨e2,a2,fun i h1 h2 h3=>?_⟩;by_cases ci:i=r
   ·subst ci;exact absurd h3 c
   ·exact k2 i (by omega) h2 h3
theorem thW_ext (H:Opn cs ws y t o cards W) {x:Int} (hx:x∈W) (cd:Bool) (s:Am):Ext s (thW cs ws y cards cd s x)∧(AI cs ws y o W s→AI cs ws y o W (thW cs ws y cards cd s x))∧
  ∀i,0≤i→i<szN cs ws x→wnt cs ws y cards cd x i=true→Kn y (thW cs ws y cards cd s x) (rd ws (x+i))∨(thW cs ws y cards cd s x).full=true:=by
 have:=H.sz0 hx
 exact thA_ext H hx cd _ 0 s (by omega)
theorem roots_ext (H:Opn cs ws y t o cards W): ∀(roots:List Int) (s:Am),(∀v∈roots,v=0∨v - 1∈W)→Ext s (roots.foldl (cmA cs ws y) s)∧(AI cs ws y o W s→AI cs ws y o W (roots.foldl (cmA cs ws y) s))∧∀v∈roots,Kn y (roots.foldl (cmA cs ws y) s) v∨(roots.foldl (cmA cs ws y) s).full=true
 |[],s,_=>⟨Ext.refl s,id,fun v h=>by simp at h⟩
 | a :: r, s, h => by
  rw [List.foldl_cons];have ha:=h a (List.mem_cons_self ..);obtain ⟨e1,k1⟩:=cmA_ext H (s:=s) ha;obtain ⟨e2,a2,k2⟩:=roots_ext H r (cmA cs ws y s a) (fun v hv=>h v (List.mem_cons_of_mem _ hv));refine ⟨e1.trans e2,fun q=>a2 (q.come H ha),fun v hv=>?_⟩;rcases List.mem_cons.mp hv with rfl|hv
  ·rcases k1 with k1 | k1
   ·exact .inl (e2.kn k1)
   ·exact .inr (by rw [e2.ful k1];exact k1)
  ·exact k2 v hv
theorem olds_ext (H:Opn cs ws y t o cards W) (cd:Bool): ∀(L:List Int) (s:Am),(∀x∈L,x∈W)→Ext s (L.foldl (thW cs ws y cards cd) s)∧(AI cs ws y o W s→AI cs ws y o W (L.foldl (thW cs ws y cards cd) s))∧
  ∀x∈L,∀i,0≤i→i<szN cs ws x→wnt cs ws y cards cd x i=true→Kn y (L.foldl (thW cs ws y cards cd) s) (rd ws (x+i))∨(L.foldl (thW cs ws y cards cd) s).full=true
 |[],s,_=>⟨Ext.refl s,id,fun v h=>by simp at h⟩
 | a :: r, s, h => by
  rw [List.foldl_cons];have ha:=h a (List.mem_cons_self ..);obtain ⟨e1,a1,k1⟩:=thW_ext H ha cd s;obtain ⟨e2,a2,k2⟩:=olds_ext H cd r (thW cs ws y cards cd s a) (fun v hv=>h v (List.mem_cons_of_mem _ hv));refine ⟨e1.trans e2,fun q=>a2 (a1 q),fun v hv i i0 i1 hw=>?_⟩;rcases List.mem_cons.mp hv with rfl|hv
  ·rcases k1 i i0 i1 hw with k1 | k1
   ·exact .inl (e2.kn k1)
   ·exact .inr (by rw [e2.ful k1];exact k1)
  ·exact k2 v hv i i0 i1 hw
theorem AI.len (H:Opn cs ws y t o cards W) {s:Am} (h:AI cs ws y o W s):s.mv.length≤200:=by
 have h1:(s.mv.map Prod.fst).length≤(W.map (· +1)).length:=by
  refine List.Nodup.length_le_of_subset h.nod (fun a ha=>?_);obtain ⟨p,hp,rfl⟩:=List.mem_map.mp ha;exact List.mem_map.mpr ⟨p.1 - 1,(h.key p hp).2.2,by omega⟩
 rw [List.length_map,List.length_map] at h1;have:=H.wlk.len
 omega
theorem rd_at {s:Am} {i:Nat} (h:i<s.mv.length):rd (s.mv.map Prod.fst) i=s.mv[i].1:=by
  rw [rd_mem (by rw [List.length_map];exact h),List.getElem_map]
def Cld (cs:Cs) (ws:List Int) (y:Int) (cards:List Bool) (n:Nat) (s:Am):Prop:= ∀j (h:j<s.mv.length),j<n→∀i,0≤i→i<szN cs ws (s.mv[j].1 - 1)→wnt cs ws y cards false (s.mv[j].1 - 1) i=true→Kn y s (rd ws (s.mv[j].1 - 1+i))∨s.full=true
theorem Cld.ext {n:Nat} {s s':Am} (h:Cld cs ws y cards n s) (hn:n≤s.mv.length) (e:Ext s s'):Cld cs ws y cards n s':=by
 intro j hj hjn i i0 i1 hw;obtain ⟨l,hl⟩:=e.pre;have e2:s'.mv[j]=s.mv[j]'(by omega):=by simp only [hl];exact List.getElem_append_left (by omega)
 rw [e2] at i1 hw ⊢;rcases h j (by omega) hjn i i0 i1 hw with k|k
 ·exact .inl (e.kn k)
 ·exact .inr (by rw [e.ful k];exact k)
theorem chA_ext (H:Opn cs ws y t o cards W): ∀(d i:Nat) (s:Am),201≤d+i→AI cs ws y o W s→i≤s.mv.length→Cld cs ws y cards i s→Ext s (chA cs ws y cards d i s)∧AI cs ws y o W (chA cs ws y cards d i s)∧Cld cs ws y cards (chA cs ws y cards d i s).mv.length (chA cs ws y cards d i s)
 |0,i,s,hd,ha,hi,hc=>by have:=ha.len H;omega
 | d + 1, i, s, hd, ha, hi, hc => by
  rw [chA];by_cases c:s.mv.length≤i
  ·rw [if_pos c]
   exact ⟨Ext.refl s,ha,fun j hj h2=>hc j hj (by omega)⟩
  ·rw [if_neg c]
   have hlt:i<s.mv.length:=by omega
   rw [rd_at hlt];have hk:=ha.key s.mv[i] (List.getElem_mem hlt);obtain ⟨e1,a1,k1⟩:=thW_ext H hk.2.2 false s;obtain ⟨l,hl⟩:=e1.pre;have hl2:i+1≤(thW cs ws y cards false s (s.mv[i].1 - 1)).mv.length:=by rw [hl,List.length_append];omega
   obtain ⟨e2,a2,c2⟩:=chA_ext H d (i+1) _ (by omega) (a1 ha) hl2 (fun j hj hjn=>by
    by_cases cj:j=i
    ·subst cj
     have e3:(thW cs ws y cards false s (s.mv[j].1 - 1)).mv[j]=s.mv[j]:=by simp only [hl];exact List.getElem_append_left hlt
     rw [e3];exact k1
    ·exact hc.ext (by omega) e1 j hj (by omega))
   exact ⟨e1.trans e2,a2,c2⟩
theorem thA_full (x:Int) (cd:Bool): ∀(d:Nat) (r:Int) (s:Am),s.full=true→thA cs ws y cards x cd d r s=s
 |0,_,s,_=>rfl
 | d + 1, r, s, h => by
  rw [thA]
  have e:cmA cs ws y s (rd ws (x+r))=s:=by
   unfold cmA
   split
   ·rfl
   ·split
    ·rfl
    ·rw [if_pos (.inr h)]
  rw [e,ite_self];exact thA_full x cd d (r+1) s h
theorem chA_full: ∀(d i:Nat) (s:Am),s.full=true→chA cs ws y cards d i s=s
 |0,_,s,_=>rfl
 | d + 1, i, s, h => by
  rw [chA]
  split
  ·rfl
  ·unfold thW
   rw [thA_full _ _ _ _ _ h];exact chA_full d (i+1) s h
end
def AtL (cs:Cs) (ws:List Int) (y o:Int) (s:Am) (i x:Int):Prop:=(i,x)∈locs (oldW cs ws y o) s.mv
def WV (y:Int) (s:Am) (D:Int→Prop) (j v u:Int):Prop:=(D j→u=nowF s.mv v∧Kn y s v)∧(¬D j→u=v)
structure WI (cs:Cs) (ws:List Int) (y o:Int) (s:Am) (D:Int→Prop) (tw:List Int):Prop where
 len:tw.length=ws.length
 out: ∀j,0≤j→(j<y∨s.o≤j)→rd tw j=rd ws j
 inn: ∀i x,AtL cs ws y o s i x→∀r,0≤r→r<szN cs ws x→WV y s D (i+r) (rd ws (x+r)) (rd tw (i+r))
 dn: ∀j,D j→j<s.o
def DL (cs:Cs) (ws:List Int) (y o:Int) (s:Am) (D:Int→Prop):Prop:= ∀i x r,AtL cs ws y o s i x→0≤r→r<szN cs ws x→D (i+r)→ld cs ws x r=true
def ClsA (cs:Cs) (ws:List Int) (y o:Int) (s:Am):Prop:= ∀i x r,AtL cs ws y o s i x→0≤r→r<szN cs ws x→ld cs ws x r=true→Kn y s (rd ws (x+r))
theorem rd_ext {a b:List Int} (hl:a.length=b.length) (h: ∀j:Int,0≤j→j<a.length→rd a j=rd b j):a=b:=by
 refine List.ext_getElem hl (fun i h1 h2=>?_);have:=h i (by omega) (by omega)
 rw [rd_mem h1,rd_mem h2] at this;exact this
section
variable {cs:Cs} {ws:List Int} {y t o:Int} {cards:List Bool} {W:List Int} {s s':Am} {D:Int→Prop} {tw:List Int}
theorem nowF_out (a:AI cs ws y o W s) {v:Int} (h:v=0∨v>y):nowF s.mv v=v:=by
 unfold nowF
 cases c:lookM s.mv v with
 |none=>rfl
 |some b=>
  have:=a.key _ (lookM_mem c)
  dsimp only at this;omega
theorem nowF_ext (a:AI cs ws y o W s) (b:AI cs ws y o W s') (e:Ext s s') {v:Int} (k:Kn y s v):nowF s'.mv v=nowF s.mv v:=by
 rcases k with k|k|k
 ·rw [nowF_out a (.inl k),nowF_out b (.inl k)]
 ·rw [nowF_out a (.inr k),nowF_out b (.inr k)]
 ·obtain ⟨l, hl⟩ := e.pre
  obtain ⟨p,hp⟩:=Option.isSome_iff_exists.mp k;unfold nowF;rw [hl,hp,lookM_pre hp]
theorem AI.atL (H:Opn cs ws y t o cards W) (a:AI cs ws y o W s) {i x:Int} (h:AtL cs ws y o s i x):x∈W∧0<szN cs ws x∧y≤i∧i+szN cs ws x≤s.o:=by
 have h1:=a.pos H _ h;have h2:=(Chl.mem a.chn (fun p hp=>(a.pos H p hp).2)).2 _ h;exact ⟨h1.1,h1.2,h2.1,h2.2⟩
theorem AI.lo (H:Opn cs ws y t o cards W) (a:AI cs ws y o W s):y≤s.o:=(Chl.mem a.chn (fun p hp=>(a.pos H p hp).2)).1
theorem AI.one (H:Opn cs ws y t o cards W) (a:AI cs ws y o W s) {i x i' x' j:Int} (h:AtL cs ws y o s i x) (h':AtL cs ws y o s i' x') (h1:i≤j) (h2:j<i+szN cs ws x) (h3:i'≤j) (h4:j<i'+szN cs ws x'):i=i'∧x=x':=by
  have:=Chl.one a.chn (fun p hp=>(a.pos H p hp).2) _ h _ h' h1 h2 h3 h4
  exact ⟨congrArg Prod.fst this,congrArg Prod.snd this⟩
theorem AI.cover (a:AI cs ws y o W s) {j:Int} (h1:y≤j) (h2:j<s.o): ∃i x r,AtL cs ws y o s i x∧0≤r∧r<szN cs ws x∧j=i+r:=by
  obtain ⟨p,hp,h3,h4⟩:=Chl.cover a.chn h1 h2;exact ⟨p.1,p.2,j - p.1,hp,by omega,by omega,by omega⟩
theorem atL_old {x:Int} (h:x∈oldW cs ws y o):AtL cs ws y o s x x:=List.mem_append_left _ (List.mem_map.mpr ⟨x,h,rfl⟩)
theorem atL_mv {p:Int×Int} (h:p∈s.mv):AtL cs ws y o s (p.2 - 1) (p.1 - 1):=List.mem_append_right _ (List.mem_map.mpr ⟨p,h,rfl⟩)
theorem AtL.or {i x:Int} (h:AtL cs ws y o s i x):(i=x∧x∈oldW cs ws y o)∨∃p∈s.mv,i=p.2 - 1∧x=p.1 - 1:=by
 rcases List.mem_append.mp h with q|q
 ·obtain ⟨z, hz, e⟩ := List.mem_map.mp q
  cases e
  exact .inl ⟨rfl,hz⟩
 ·obtain ⟨p, hp, e⟩ := List.mem_map.mp q
  cases e
  exact .inr ⟨p,hp,rfl,rfl⟩
theorem AtL.ext (e:Ext s s') {i x:Int} (h:AtL cs ws y o s i x):AtL cs ws y o s' i x:=by
 obtain ⟨l,hl⟩:=e.pre;rcases h.or with ⟨rfl,q⟩|⟨p,hp,rfl,rfl⟩
 ·exact atL_old q
 ·exact atL_mv (by rw [hl];exact List.mem_append_left _ hp)
theorem WI.start (H:Opn cs ws y t o cards W):WI cs ws y o (am0 o) (fun _=>False) ws:=
 ⟨rfl, fun _ _ _ => rfl, fun i x h r _ _ => ⟨fun q => q.elim, fun _ => by
  rcases h.or with ⟨rfl,_⟩|⟨p,hp,_⟩
  ·rfl
  ·simp [am0] at hp⟩,fun _ q=>q.elim⟩
theorem WI.ful (h:WI cs ws y o s D tw):WI cs ws y o {s with full:=true} D tw:=⟨h.len,h.out,h.inn,h.dn⟩
theorem WI.move (H:Opn cs ws y t o cards W) (a:AI cs ws y o W s) (h:WI cs ws y o s D tw) {v:Int} (a':AI cs ws y o W ⟨s.mv++[(v,s.o+1)],s.o+szN cs ws (v - 1),false⟩) (f:s.full=false) (z0:0<szN cs ws (v - 1)) {tw':List Int} (hl:tw'.length=ws.length)
  (h1: ∀r,0≤r→r<szN cs ws (v - 1)→rd tw' (s.o+r)=rd ws (v - 1+r)) (h2: ∀j,0≤j→(j<s.o∨s.o+szN cs ws (v - 1)≤j)→rd tw' j=rd tw j):WI cs ws y o ⟨s.mv++[(v,s.o+1)],s.o+szN cs ws (v - 1),false⟩ D tw':=by
 have lo:=a.lo H;have y0:=H.b.y0;have e:Ext s ⟨s.mv++[(v,s.o+1)],s.o+szN cs ws (v - 1),false⟩:=⟨⟨_,rfl⟩,fun q=>(by rw [f] at q;cases q),by dsimp only;omega⟩
 refine ⟨hl,fun j h0 hj=>?_,fun i x ha r r0 r1=>?_,fun j hj=>?_⟩
 ·dsimp only at hj
  rw [h2 j h0 (by omega)];exact h.out j h0 (by omega)
 ·rcases ha.or with ⟨rfl, q⟩ | ⟨p, hp, rfl, rfl⟩
  ·have q2 := a.atL H (atL_old (s := s) q)
   rw [h2 _ (by omega) (by omega)];have hv:=h.inn i i (atL_old q) r r0 r1;exact ⟨fun d=>by rw [(hv.1 d).1,nowF_ext a a' e (hv.1 d).2];exact ⟨rfl,e.kn (hv.1 d).2⟩,hv.2⟩
  ·rcases List.mem_append.mp hp with hp | hp
   ·have q2 := a.atL H (atL_mv (s := s) hp)
    rw [h2 _ (by omega) (by omega)];have hv:=h.inn _ _ (atL_mv hp) r r0 r1;exact ⟨fun d=>by rw [(hv.1 d).1,nowF_ext a a' e (hv.1 d).2];exact ⟨rfl,e.kn (hv.1 d).2⟩,hv.2⟩
   ·rw [List.mem_singleton] at hp
    subst hp;dsimp only at r1 ⊢;rw [show s.o+1 - 1+r=s.o+r by omega];exact ⟨fun d=>by have:=h.dn _ d;omega,fun _=>h1 r r0 r1⟩
 ·have := h.dn j hj
  dsimp only
  omega
theorem WI.congr {D':Int→Prop} (h:WI cs ws y o s D tw) (e: ∀j,D j↔D' j):WI cs ws y o s D' tw:=by
  have:D=D':=funext fun j=>propext (e j)
  rw [←this];exact h
theorem WI.write (H:Opn cs ws y t o cards W) (a:AI cs ws y o W s) (h:WI cs ws y o s D tw) {i x r:Int} (ha:AtL cs ws y o s i x) (r0:0≤r) (r1:r<szN cs ws x) (k:Kn y s (rd ws (x+r))):
  WI cs ws y o s (fun j=>D j∨j=i+r) (tw.set (i+r).toNat (nowF s.mv (rd ws (x+r)))):=by
 have q:=a.atL H ha;have tp:=a.top;have y0:=H.b.y0;have hl:=h.len;refine ⟨by rw [List.length_set];exact hl,fun j h0 hj=>?_,fun i' x' ha' r' r0' r1'=>?_,fun j hj=>?_⟩
 ·rw [rd_set_ne _ (by omega) h0 (by omega)]
  exact h.out j h0 hj
 ·have q' := a.atL H ha'
  by_cases c:i'+r'=i+r
  ·obtain ⟨e1, e2⟩ := a.one H ha ha' (j := i + r) (by omega) (by omega) (by omega) (by omega)
   subst e1 e2;obtain rfl:r'=r:=by omega
   rw [rd_set_eq _ (by omega) (by omega)];exact ⟨fun _=>⟨rfl,k⟩,fun z=>absurd (.inr rfl) z⟩
  ·rw [rd_set_ne _ (by omega) (by omega) c]
   have hv:=h.inn i' x' ha' r' r0' r1';exact ⟨fun d=>hv.1 (d.resolve_right c),fun d=>hv.2 (fun z=>d (.inl z))⟩
 ·rcases hj with hj | hj
  ·exact h.dn j hj
  ·omega
theorem WI.same (H:Opn cs ws y t o cards W) (a:AI cs ws y o W s) {D':Int→Prop} {tw':List Int} (h:WI cs ws y o s D tw) (h':WI cs ws y o s D' tw') (hd: ∀i x r,AtL cs ws y o s i x→0≤r→r<szN cs ws x→(D (i+r)↔D' (i+r))∨nowF s.mv (rd ws (x+r))=rd ws (x+r)):tw=tw':=by
 refine rd_ext (by rw [h.len,h'.len]) (fun j j0 j1=>?_);by_cases c:y≤j∧j<s.o
 ·obtain ⟨i, x, r, ha, r0, r1, rfl⟩ := a.cover c.1 c.2
  have v:=h.inn i x ha r r0 r1;have v':=h'.inn i x ha r r0 r1;by_cases d:D (i+r)<;>by_cases d':D' (i+r)
  ·rw [(v.1 d).1,(v'.1 d').1]
  ·rcases hd i x r ha r0 r1 with e | e
   ·exact absurd (e.mp d) d'
   ·rw [(v.1 d).1,v'.2 d',e]
  ·rcases hd i x r ha r0 r1 with e | e
   ·exact absurd (e.mpr d') d
   ·rw [(v'.1 d').1,v.2 d,e]
  ·rw [v.2 d,v'.2 d']
 ·rw [h.out j j0 (by omega),h'.out j j0 (by omega)]
theorem msz_of {ws':List Int} {i x e:Int} (h0:rd ws' i=rd ws x) (h1:rd ws x<0→rd ws' (i+1)=rd ws (x+1)) (hz:0<szN cs ws x) (he:i+szN cs ws x≤e):mstep ws' (allF cs) e i=szN cs ws x:=by
 unfold szN mstep at*;rw [h0];by_cases c0:rd ws x<0
 ·rw [if_pos c0] at hz he ⊢
  rw [if_pos c0,h1 c0];by_cases c1:x+1<(ws.length:Int)
  ·rw [if_pos c1] at hz he ⊢
   by_cases c2:measN (allF cs) (rd ws x) (rd ws (x+1))≤(ws.length:Int) - x
   ·rw [if_pos c2] at hz he ⊢
    have:1<measN (allF cs) (rd ws x) (rd ws (x+1)):=by
     unfold measN at hz ⊢;by_cases c3:rd ws x= -1∨rd ws x= -2
     ·rw [if_pos c3] at hz ⊢
      by_cases c4:0≤rd ws (x+1)∧rd ws (x+1)≤6
      ·rw [if_pos c4];omega
      ·rw [if_neg c4] at hz;omega
     ·rw [if_neg c3,if_neg (by omega)] at hz;omega
    rw [if_pos (by omega),if_pos (by omega)]
   ·rw [if_neg c2] at hz;omega
  ·rw [if_neg c1] at hz;omega
 ·rw [if_neg c0] at hz he ⊢
  rw [if_neg c0];by_cases c2:measN (allF cs) (rd ws x) 0≤(ws.length:Int) - x
  ·rw [if_pos c2] at hz he ⊢
   rw [if_pos (by omega)]
  ·rw [if_neg c2] at hz;omega
theorem WI.head (H:Opn cs ws y t o cards W) (a:AI cs ws y o W s) (h:WI cs ws y o s D tw) (hd:DL cs ws y o s D) {i x:Int} (ha:AtL cs ws y o s i x):rd tw i=rd ws x∧(rd ws x<0→rd tw (i+1)=rd ws (x+1)):=by
 have q:=a.atL H ha;have k:=H.know q.1;have n1: ∀r,r<hdN (rd ws x)→ld cs ws x r=false:=fun r hr=>by unfold ld;rw [decide_eq_false (by omega)];rfl
 constructor
 ·have := (h.inn i x ha 0 (by omega) q.2.1).2 (fun z => by have e := hd i x 0 ha (by omega) q.2.1 z; rw [n1 0 (by omega)] at e; cases e)
  rw [Int.add_zero,Int.add_zero] at this;exact this
 ·intro c
  have c2:=k.2.2.2.2.2.2 c;exact (h.inn i x ha 1 (by omega) (by omega)).2 (fun z=>by have e:=hd i x 1 ha (by omega) (by omega) z;rw [n1 1 (by omega)] at e;cases e)
theorem AI.cls (H:Opn cs ws y t o cards W) (a:AI cs ws y o W s) (f:s.full=false) (hc:Cld cs ws y cards s.mv.length s) (ho: ∀x∈oldW cs ws y o,∀i,0≤i→i<szN cs ws x→wnt cs ws y cards true x i=true→Kn y s (rd ws (x+i))∨s.full=true):ClsA cs ws y o s:=by
 intro i x r ha r0 r1 hl;rcases ha.or with ⟨rfl,q⟩|⟨p,hp,rfl,rfl⟩
 ·obtain ⟨hw, hy⟩ := H.old q
  obtain ⟨_,_,hv,hk⟩:=H.lead hw r1 hl;by_cases c:rdOf false cards ((i+r - y)/4)=true
  ·exact (ho i q r r0 r1 (by unfold wnt;rw [hl,c];rfl)).resolve_right (by rw [f];simp)
  ·rcases hv with hv | hv
   ·exact .inl hv
   ·have := wlk_range H.wlk hv
    refine .inr (.inl ?_);refine Classical.byContradiction (fun z=>c (hk hy (by omega) (by omega)))
 ·obtain ⟨j, hj, e⟩ := List.getElem_of_mem hp
  subst e;exact (hc j hj hj r r0 r1 (by unfold wnt;rw [hl];rfl)).resolve_right (by rw [f];simp)
end
structure MI (cs:Cs) (ws:List Int) (y t o:Int) (cards:List Bool) (D:Int→Prop) (s:Mv) (A:Am):Prop where
 hy:s.y=y
 ht:s.t=t
 ho:s.o=A.o
 hc:s.tc=cards
 hm:s.mv=A.mv
 hf:s.full=A.full
 w:WI cs ws y o A D s.tw
def kidR (cs:Cs) (ws:List Int) (x:Int):Nat→Int→List Int
  |0,_=>[]
  |d+1,r=>if ld cs ws x r=true then (x+r)::kidR cs ws x d (r+1) else kidR cs ws x d (r+1)
def kids (cs:Cs) (ws:List Int) (x:Int):List Int:=kidR cs ws x (szN cs ws x).toNat 0
theorem rd_splI {tw ys:List Int} {o j:Int} (h0:0≤o) (h1:o+ys.length≤tw.length) (j0:0≤j):rd (splI tw o.toNat ys) j=if o≤j∧j<o+ys.length then rd ys (j - o) else rd tw j:=by
 unfold splI rd;simp only [List.getD_eq_getElem?_getD]
 by_cases c:j<o
 ·rw [if_neg (by omega),List.append_assoc,List.getElem?_append_left (by rw [List.length_take];omega),List.getElem?_take,if_pos (by omega)]
 ·by_cases c2 : j < o + ys.length
  ·rw [if_pos (by omega), List.getElem?_append_left (by rw [List.length_append, List.length_take]; omega), List.getElem?_append_right (by rw [List.length_take]; omega), List.length_take]
   congr 2
   omega
  ·rw [if_neg (by omega), List.getElem?_append_right (by rw [List.length_append, List.length_take]; omega), List.length_append, List.length_take, List.getElem?_drop]
   congr 2
   omega
theorem splI_len {tw ys:List Int} {o:Int} (h0:0≤o) (h1:o+ys.length≤tw.length):(splI tw o.toNat ys).length=tw.length:=by
 unfold splI;rw [List.length_append,List.length_append,List.length_take,List.length_drop];omega
theorem rd_cut {ws:List Int} {a z r:Int} (a0:0≤a) (r0:0≤r) (r1:r<z):rd ((ws.take (a+z).toNat).drop a.toNat) r=rd ws (a+r):=by
 unfold rd;rw [List.getD_eq_getElem?_getD,List.getD_eq_getElem?_getD,List.getElem?_drop,List.getElem?_take,if_pos (by omega)]
 congr 2
 omega
theorem cut_len {ws:List Int} {a z:Int} (a0:0≤a) (z0:0≤z) (h:a+z≤ws.length):(((ws.take (a+z).toNat).drop a.toNat).length:Int)=z:=by
  rw [List.length_drop,List.length_take];omega
section
variable {cs:Cs} {ws:List Int} {y t o:Int} {cards:List Bool} {W:List Int} {s:Mv} {A:Am}
theorem Opn.val (H:Opn cs ws y t o cards W) {v:Int} (hv:v=0∨v - 1∈W):0≤v∧v≤ws.length:=by
 rcases hv with h|h
 ·omega
 ·have:=wlk_range H.wlk h;omega
theorem size_imp2 (H:Opn cs ws y t o cards W) {x:Int} (hx:x∈W):thing_size.f (mmOf cs ws y t o cards W) (x+1)=some (szN cs ws x):=by
 have n0:=H.b.n0;have n1:=H.b.n1;have y0:=H.b.y0;have y1:=H.b.y1;obtain ⟨h0,h1,h2,h3,h4,h5,_,hco,hfi,_⟩:=thing_know (t:=t) (o:=o) (cards:=cards) H.b H.wlk hx;unfold thing_size.f;rw [hfi,Option.bind_some,hco,Option.bind_some,wrap64_of (by omega) (by omega)]
 congr 1
 omega
theorem come_imp (H:Opn cs ws y t o cards W) {D:Int→Prop} (a:AI cs ws y o W A) (h:MI cs ws y t o cards D s A) {v:Int} (hv:v=0∨v - 1∈W): ∃s',comeG (mmOf cs ws y t o cards W) s v=some s'∧MI cs ws y t o cards D s' (cmA cs ws y A v):=by
 have n0:=H.b.n0;have n1:=H.b.n1;have y0:=H.b.y0;have y1:=H.b.y1;have lo:=a.lo H;have tp:=a.top;have hr:=H.val hv;have hl:=a.len H;obtain ⟨tw,y',t',o',tc,mv,full⟩:=s;obtain ⟨hy,ht,ho,hc,hm,hf,w⟩:=h;dsimp only at hy ht ho hc hm hf w;subst hy ht ho hc hm hf;have wl:=w.len;unfold comeG
 dsimp only
 rw [if_pos ⟨by omega,by omega,by omega⟩];unfold comeF;rw [show (mmOf cs ws y' t' o tc W).young=y' from rfl];rcases cmA_or (cs:=cs) (ws:=ws) (y:=y') A v with ⟨e,k⟩|⟨f,v0,vy,hn,hz,e⟩|⟨f,v0,vy,hn,hz,e⟩
 ·rw [e]
  refine ⟨⟨tw,y',t',A.o,tc,A.mv,A.full⟩,?_,⟨rfl,rfl,rfl,rfl,rfl,rfl,w⟩⟩;by_cases c0:v=0
  ·rw [if_pos c0]
  by_cases c1:v>y'
  ·rw [if_neg c0,if_pos c1]
  rw [if_neg c0,if_neg c1];unfold moveF;rw [if_pos];rcases k with (k|k|k)|k
  ·exact absurd k c0
  ·exact absurd k c1
  ·exact .inl k
  ·exact .inr k
 ·have hs := size_imp2 H (hv.resolve_left v0)
  rw [show v - 1+1=v by omega] at hs;rw [e];refine ⟨⟨tw,y',t',A.o,tc,A.mv,true⟩,?_,⟨rfl,rfl,rfl,rfl,rfl,rfl,w.ful⟩⟩;rw [if_neg v0,if_neg (by omega)];unfold moveF
  dsimp only
  rw [hn,f,if_neg (by simp),hs,Option.bind_some,if_pos (by omega)]
 ·have hw := hv.resolve_left v0
  have hs:=size_imp2 H hw;rw [show v - 1+1=v by omega] at hs;have z0:=H.sz0 hw;have a2:=a.come H hv;have kw:=H.know hw;rw [e] at a2 ⊢;have cl:=cut_len (ws:=ws) (a:=v - 1) (z:=szN cs ws (v - 1)) (by omega) (by omega) (by omega);refine ⟨⟨splI tw A.o.toNat ((ws.take (v - 1+szN cs ws (v - 1)).toNat).drop (v - 1).toNat),y',t',A.o+szN cs ws (v - 1),tc,A.mv++[(v,A.o+1)],false⟩,?_,⟨rfl,rfl,rfl,rfl,rfl,rfl,?_⟩⟩
  ·rw [if_neg v0, if_neg (by omega)]
   unfold moveF
   dsimp only
   rw [hn,f,if_neg (by simp),hs,Option.bind_some,if_neg (by omega),if_pos ⟨by omega,z0,by show v - 1+szN cs ws (v - 1)≤(ws.length:Int);omega,by omega,by show ws.length≤2000000;omega,by omega,by omega⟩];rfl
  ·refine w.move H a a2 f z0 (by rw [splI_len (by omega) (by rw [cl]; omega), wl]) (fun r r0 r1 => ?_) (fun j j0 hj => ?_)
   ·rw [rd_splI (by omega) (by rw [cl]; omega) (by omega), if_pos (by rw [cl]; omega), show A.o + r - A.o = r by omega]
    exact rd_cut (by omega) r0 r1
   ·rw [rd_splI (by omega) (by rw [cl];omega) j0,if_neg (by rw [cl];omega)]
theorem kid_none (x:Int): ∀(n:Nat) (d:Nat) (r:Int),(∀i,r≤i→i<r+n→ld cs ws x i=false)→kidR cs ws x (d+n) r=kidR cs ws x d (r+n)
 |0,d,r,_=>by rw [show r+((0:Nat):Int)=r by omega];rfl
 |n+1,d,r,h=>by
  rw [show d+(n+1)=(d+n)+1 by omega,kidR,if_neg (by rw [h r (by omega) (by omega)];simp),kid_none x n d (r+1) (fun i h1 h2=>h i (by omega) (by omega))]
  congr 1
  omega
theorem ledL_eq (H:Opn cs ws y t o cards W) {x:Int} (hx:x∈W): ∀(d:Nat) (k:Int),0≤k→k+d=szN cs ws x - hdN (rd ws x)→ledL (mmOf cs ws y t o cards W) (x+1) (x+hdN (rd ws x)) d k=some (kidR cs ws x d (hdN (rd ws x)+k))
 |0,k,k0,hk=>rfl
 |d+1,k,k0,hk=>by
  have n0:=H.b.n0;have n1:=H.b.n1;have y0:=H.b.y0;have y1:=H.b.y1;obtain ⟨h0,h1,h2,h3,h4,h5,_,hco,hfi,hle,_⟩:=thing_know (t:=t) (o:=o) (cards:=cards) H.b H.wlk hx;have e:ld cs ws x (hdN (rd ws x)+k)=ldB cs (rd ws x) k:=by unfold ld;rw [decide_eq_true (by omega),Bool.true_and,show hdN (rd ws x)+k - hdN (rd ws x)=k by omega]
  rw [ledL,hle k k0 (by omega),Option.bind_some,ledL_eq H hx d (k+1) (by omega) (by omega),Option.bind_some,kidR,e,wrap64_of (by omega) (by omega),show x+hdN (rd ws x)+k=x+(hdN (rd ws x)+k) by omega,show hdN (rd ws x)+(k+1)=hdN (rd ws x)+k+1 by omega]
theorem ledF_eq (H:Opn cs ws y t o cards W) {x:Int} (hx:x∈W):ledF (mmOf cs ws y t o cards W) (x+1)=some (kids cs ws x):=by
 obtain ⟨h0,h1,h2,h3,h4,h5,_,hco,hfi,hle,_⟩:=thing_know (t:=t) (o:=o) (cards:=cards) H.b H.wlk hx;unfold ledF;rw [hco,Option.bind_some,if_pos (by omega),hfi,Option.bind_some,ledL_eq H hx _ 0 (by omega) (by omega)];unfold kids;have:=kid_none (cs:=cs) (ws:=ws) x (hdN (rd ws x)).toNat (szN cs ws x - hdN (rd ws x)).toNat 0 (fun i i0 i1=>by unfold ld;rw [decide_eq_false (by omega)];rfl)
 rw [show (szN cs ws x - hdN (rd ws x)).toNat+(hdN (rd ws x)).toNat=(szN cs ws x).toNat by omega] at this;rw [this]
 congr 2
 omega
theorem fold_imp (H:Opn cs ws y t o cards W) {D:Int→Prop} {x:Int} (hx:x∈W) (cd:Bool) {f:Mv→Int→Option Mv}
  (hs: ∀s A r,AI cs ws y o W A→MI cs ws y t o cards D s A→0≤r→r<szN cs ws x→ld cs ws x r=true→∃s',f s (x+r)=some s'∧MI cs ws y t o cards D s' (if wnt cs ws y cards cd x r=true then cmA cs ws y A (rd ws (x+r)) else A)):
  ∀(d:Nat) (r:Int) (s:Mv) (A:Am),0≤r→r+d=szN cs ws x→AI cs ws y o W A→MI cs ws y t o cards D s A→∃s',foldO f s (kidR cs ws x d r)=some s'∧MI cs ws y t o cards D s' (thA cs ws y cards x cd d r A)
 |0,r,s,A,_,_,_,h=>⟨s,rfl,h⟩
 | d + 1, r, s, A, r0, hd, a, h => by
  rw [kidR,thA];by_cases c:ld cs ws x r=true
  ·rw [if_pos c, foldO]
   obtain ⟨s1,e1,h1⟩:=hs s A r a h r0 (by omega) c;rw [e1,Option.bind_some];refine fold_imp H hx cd hs d (r+1) s1 _ (by omega) (by omega) ?_ h1
   split
   ·exact a.come H (H.lead hx (by omega) c).2.2.1
   ·exact a
  ·rw [if_neg c]
   have e:wnt cs ws y cards cd x r=false:=by unfold wnt;rw [Bool.eq_false_iff.mpr c];rfl
   rw [e,if_neg (by simp)];exact fold_imp H hx cd hs d (r+1) s A (by omega) (by omega) a h
theorem step2_imp (H:Opn cs ws y t o cards W) {D:Int→Prop} {x:Int} (hx:x∈W): ∀s A r,AI cs ws y o W A→MI cs ws y t o cards D s A→0≤r→r<szN cs ws x→ld cs ws x r=true→∃s',step2 (mmOf cs ws y t o cards W) s (x+r)=some s'∧MI cs ws y t o cards D s' (cmA cs ws y A (rd ws (x+r))):=by
 intro s A r a h r0 r1 c;have kw:=H.know hx;unfold step2;rw [show (mmOf cs ws y t o cards W).words=ws from rfl,if_pos (by omega)];exact come_imp H a h (H.lead hx r1 c).2.2.1
theorem step1_imp (H:Opn cs ws y t o cards W) {D:Int→Prop} {x:Int} (hx:x∈W) (hy:y≤x): ∀s A r,AI cs ws y o W A→MI cs ws y t o cards D s A→0≤r→r<szN cs ws x→ld cs ws x r=true→∃s',step1 (mmOf cs ws y t o cards W) s (x+r)=some s'∧MI cs ws y t o cards D s' (if wnt cs ws y cards true x r=true then cmA cs ws y A (rd ws (x+r)) else A):=by
 intro s A r a h r0 r1 c;have kw:=H.know hx;have n0:=H.b.n0;have n1:=H.b.n1;have y0:=H.b.y0;have y1:=H.b.y1;have hcd:=H.b.cd;have e:wnt cs ws y cards true x r=rdOf false cards ((x+r - y)/4):=by unfold wnt;rw [c];rfl
 have e2:onCard (mmOf cs ws y t o cards W) (x+r)=some (rdOf false cards ((x+r - y)/4)):=by
  unfold onCard;show (if (-2000000≤x+r - y∧x+r - y≤2000000)∧0≤Int.tdiv (x+r - y) 4∧Int.tdiv (x+r - y) 4<(cards.length:Int)∧cards.length≤2000000 then some (rdOf false cards (Int.tdiv (x+r - y) 4)) else none)=_
  rw [Int.tdiv_eq_ediv_of_nonneg (by omega),if_pos ⟨by omega,by omega,by omega,by omega⟩]
 unfold step1;rw [e2,Option.bind_some,e]
 split
 ·exact step2_imp H hx s A r a h r0 r1 c
 ·exact ⟨s,rfl,h⟩
theorem olds_imp (H:Opn cs ws y t o cards W) {D:Int→Prop}: ∀(L:List Int) (s:Mv) (A:Am),(∀x∈L,x∈W∧y≤x)→AI cs ws y o W A→MI cs ws y t o cards D s A→∃s',foldL (mmOf cs ws y t o cards W) (step1 (mmOf cs ws y t o cards W)) s (L.map (· +1))=some s'∧MI cs ws y t o cards D s' (L.foldl (thW cs ws y cards true) A)
 |[],s,A,_,_,h=>⟨s,rfl,h⟩
 |x::r,s,A,hL,a,h=>by
  have hx:=hL x (List.mem_cons_self ..);have z0:=H.sz0 hx.1;obtain ⟨s1,e1,h1⟩:=fold_imp H hx.1 true (step1_imp H hx.1 hx.2) (szN cs ws x).toNat 0 s A (by omega) (by omega) a h;obtain ⟨s2,e2,h2⟩:=olds_imp H r s1 (thW cs ws y cards true A x) (fun z hz=>hL z (List.mem_cons_of_mem _ hz)) ((thW_ext H hx.1 true A).2.1 a) h1;refine ⟨s2,?_,h2⟩;rw [List.map_cons,foldL,ledF_eq H hx.1,Option.bind_some];unfold kids;rw [e1,Option.bind_some,e2]
theorem chase_imp (H:Opn cs ws y t o cards W) {D:Int→Prop}: ∀(d i k:Nat) (s:Mv) (A:Am),201≤d+i→d<k→i≤A.mv.length→AI cs ws y o W A→MI cs ws y t o cards D s A→∃s',chase (mmOf cs ws y t o cards W) k i s=some s'∧MI cs ws y t o cards D s' (chA cs ws y cards d i A)
 |0,i,k,s,A,hd,_,hi,a,_=>by have:=a.len H;omega
 | d + 1, i, k, s, A, hd, hk, hi, a, h => by
  obtain ⟨k,rfl⟩: ∃m,k=m+1:=⟨k - 1,by omega⟩;rw [chase,h.hf,h.hm];by_cases c:A.full=true∨A.mv.length≤i
  ·rw [if_pos c]
   refine ⟨s,rfl,?_⟩;rcases c with c|c
   ·rw [chA_full _ _ _ c];exact h
   ·rw [chA,if_pos c];exact h
  ·rw [if_neg c, chA, if_neg (fun q => c (.inr q))]
   have hlt:i<A.mv.length:=by omega
   have hk2:=(a.key _ (List.getElem_mem hlt)).2.2;rw [rd_at hlt];obtain ⟨B,hB⟩: ∃B,B=A.mv[i]:=⟨_,rfl⟩;rw [←hB] at hk2 ⊢;have z0:=H.sz0 hk2
   obtain ⟨s1,e1,h1⟩:=fold_imp H hk2 false (f:=step2 (mmOf cs ws y t o cards W)) (fun s A r a h r0 r1 c=>by
    have e:wnt cs ws y cards false (B.1 - 1) r=true:=by unfold wnt;rw [c];rfl
    rw [if_pos e]
    exact step2_imp H hk2 s A r a h r0 r1 c) (szN cs ws (B.1 - 1)).toNat 0 s A (by omega) (by omega) a h
   obtain ⟨e2,a2,_⟩:=thW_ext H hk2 false A;obtain ⟨l,hl⟩:=e2.pre;obtain ⟨s2,e3,h3⟩:=chase_imp H d (i+1) k s1 (thW cs ws y cards false A (B.1 - 1)) (by omega) (by omega) (by rw [hl,List.length_append];omega) (a2 a) h1;refine ⟨s2,?_,h3⟩;have e4:=ledF_eq H hk2;rw [show B.1 - 1+1=B.1 by omega] at e4;rw [e4,Option.bind_some];unfold kids;rw [e1,Option.bind_some,e3]
end
def DA (cs:Cs) (ws:List Int) (y o:Int) (s:Am) (j:Int):Prop:= ∃i x q,AtL cs ws y o s i x∧0≤q∧q<szN cs ws x∧ld cs ws x q=true∧j=i+q
section
variable {cs:Cs} {ws:List Int} {y t o:Int} {cards:List Bool} {W:List Int} {A:Am}
theorem minorA_facts (H:Opn cs ws y t o cards W) {roots:List Int} (hr: ∀v∈roots,v=0∨v - 1∈W):AI cs ws y o W (minorA cs ws y o cards roots)∧
  ((minorA cs ws y o cards roots).full=false→ClsA cs ws y o (minorA cs ws y o cards roots)∧∀v∈roots,Kn y (minorA cs ws y o cards roots) v):=by
 have a0:=H.start0;obtain ⟨e1,a1,k1⟩:=roots_ext H roots (am0 o) hr;obtain ⟨e2,a2,k2⟩:=olds_ext H true (oldW cs ws y o) (roots.foldl (cmA cs ws y) (am0 o)) (fun x hx=>(H.old hx).1);obtain ⟨e3,a3,c3⟩:=chA_ext H 201 0 _ (by omega) (a2 (a1 a0)) (by omega) (fun j hj h=>by omega);unfold minorA;refine ⟨a3,fun f=>⟨a3.cls H f c3 (fun x hx i i0 i1 hw=>?_),fun v hv=>?_⟩⟩
 ·rcases k2 x hx i i0 i1 hw with k | k
  ·exact .inl (e3.kn k)
  ·exact .inr (by rw [e3.ful k];exact k)
 ·rcases k1 v hv with k | k
  ·exact (e2.trans e3).kn k
  ·have := (e2.trans e3).nf f
   rw [this] at k;cases k
theorem lead_one (H:Opn cs ws y t o cards W) (a:AI cs ws y o W A) (hc:ClsA cs ws y o A) {i x:Int} (ha:AtL cs ws y o A i x) {f:Mv→Int→Option Mv}
  (hs: ∀(s:Mv) (D:Int→Prop) (r:Int),MI cs ws y t o cards D s A→0≤r→r<szN cs ws x→ld cs ws x r=true→f s (x+r)=some {s with tw:=s.tw.set (i+r).toNat (nowF s.mv (rd ws (x+r)))}):
  ∀(d:Nat) (r:Int) (s:Mv) (D:Int→Prop),0≤r→r+d=szN cs ws x→MI cs ws y t o cards D s A→∃s' D',foldO f s (kidR cs ws x d r)=some s'∧MI cs ws y t o cards D' s' A∧∀j,D' j↔D j∨∃q,r≤q∧q<szN cs ws x∧ld cs ws x q=true∧j=i+q
 |0,r,s,D,r0,hd,h=>⟨s,D,rfl,h,fun j=>⟨.inl,fun q=>q.elim id (fun ⟨q,h1,h2,_⟩=>by omega)⟩⟩
 | d + 1, r, s, D, r0, hd, h => by
  rw [kidR];by_cases c:ld cs ws x r=true
  ·rw [if_pos c, foldO, hs s D r h r0 (by omega) c, Option.bind_some]
   have w:=h.w.write H a ha r0 (by omega) (hc i x r ha r0 (by omega) c);rw [←h.hm] at w;obtain ⟨s',D',e,h',hD⟩:=lead_one H a hc ha hs d (r+1) {s with tw:=s.tw.set (i+r).toNat (nowF s.mv (rd ws (x+r)))} _ (by omega) (by omega) ⟨h.hy,h.ht,h.ho,h.hc,h.hm,h.hf,w⟩;refine ⟨s',D',e,h',fun j=>?_⟩;rw [hD j]
   constructor
   ·rintro ((z | z) | ⟨q, q1, q2, q3, q4⟩)
    ·exact .inl z
    ·exact .inr ⟨r,by omega,by omega,c,z⟩
    ·exact .inr ⟨q,by omega,q2,q3,q4⟩
   ·rintro (z | ⟨q, q1, q2, q3, q4⟩)
    ·exact .inl (.inl z)
    ·by_cases cq : q = r
     ·subst cq;exact .inl (.inr q4)
     ·exact .inr ⟨q,by omega,q2,q3,q4⟩
  ·rw [if_neg c]
   obtain ⟨s',D',e,h',hD⟩:=lead_one H a hc ha hs d (r+1) s D (by omega) (by omega) h;refine ⟨s',D',e,h',fun j=>?_⟩;rw [hD j]
   constructor
   ·rintro (z | ⟨q, q1, q2, q3, q4⟩)
    ·exact .inl z
    ·exact .inr ⟨q,by omega,q2,q3,q4⟩
   ·rintro (z | ⟨q, q1, q2, q3, q4⟩)
    ·exact .inl z
    ·by_cases cq : q = r
     ·subst cq;exact absurd q3 c
     ·exact .inr ⟨q,by omega,q2,q3,q4⟩
theorem lead1_imp (H:Opn cs ws y t o cards W) (a:AI cs ws y o W A) (hc:ClsA cs ws y o A): ∀(L:List Int) (s:Mv) (D:Int→Prop),(∀x∈L,x∈oldW cs ws y o)→MI cs ws y t o cards D s A→∃s' D',leadP1 (mmOf cs ws y t o cards W) s (L.map (· +1))=some s'∧MI cs ws y t o cards D' s' A∧
  ∀j,D' j↔D j∨∃x∈L,∃q,0≤q∧q<szN cs ws x∧ld cs ws x q=true∧j=x+q
 |[],s,D,_,h=>⟨s,D,rfl,h,fun j=>⟨.inl,fun q=>q.elim id (fun ⟨x,hx,_⟩=>by simp at hx)⟩⟩
 | x :: r, s, D, hL, h => by
  have n0:=H.b.n0;have n1:=H.b.n1;have y0:=H.b.y0;have y1:=H.b.y1;have hx:=hL x (List.mem_cons_self ..);have hw:=(H.old hx).1;have z0:=H.sz0 hw;have kw:=H.know hw
  obtain ⟨s1,D1,e1,h1,hD1⟩:=lead_one H a hc (atL_old hx) (f:=lead1F (mmOf cs ws y t o cards W)) (fun s D r h r0 r1 c=>by
   have hv:=H.val (H.lead hw r1 c).2.2.1;have wl:=h.w.len;unfold lead1F;rw [if_pos ⟨by omega,by show x+r<(ws.length:Int);omega,by omega,by omega,by show -2000000≤rd ws (x+r)∧rd ws (x+r)≤2000000;omega⟩]
   rfl) (szN cs ws x).toNat 0 s D (by omega) (by omega) h
  obtain ⟨s2,D2,e2,h2,hD2⟩:=lead1_imp H a hc r s1 D1 (fun z hz=>hL z (List.mem_cons_of_mem _ hz)) h1;refine ⟨s2,D2,?_,h2,fun j=>?_⟩
  ·rw [List.map_cons, leadP1, ledF_eq H hw, Option.bind_some]
   unfold kids;rw [e1,Option.bind_some,e2]
  ·rw [hD2 j, hD1 j]
   constructor
   ·rintro ((z | z) | ⟨x', hx', z⟩)
    ·exact .inl z
    ·exact .inr ⟨x,List.mem_cons_self ..,z⟩
    ·exact .inr ⟨x',List.mem_cons_of_mem _ hx',z⟩
   ·rintro (z | ⟨x', hx', z⟩)
    ·exact .inl (.inl z)
    ·rcases List.mem_cons.mp hx' with rfl | hx'
     ·exact .inl (.inr z)
     ·exact .inr ⟨x',hx',z⟩
theorem lead2_imp (H:Opn cs ws y t o cards W) (a:AI cs ws y o W A) (hc:ClsA cs ws y o A): ∀(L:List (Int×Int)) (s:Mv) (D:Int→Prop),(∀p∈L,p∈A.mv)→MI cs ws y t o cards D s A→∃s' D',leadP2 (mmOf cs ws y t o cards W) s (L.map Prod.fst)=some s'∧MI cs ws y t o cards D' s' A∧
  ∀j,D' j↔D j∨∃p∈L,∃q,0≤q∧q<szN cs ws (p.1 - 1)∧ld cs ws (p.1 - 1) q=true∧j=p.2 - 1+q
 |[],s,D,_,h=>⟨s,D,rfl,h,fun j=>⟨.inl,fun q=>q.elim id (fun ⟨x,hx,_⟩=>by simp at hx)⟩⟩
 | p :: r, s, D, hL, h => by
  have n0:=H.b.n0;have n1:=H.b.n1;have y0:=H.b.y0;have y1:=H.b.y1;have hx:=hL p (List.mem_cons_self ..);have ha:=atL_mv (cs:=cs) (ws:=ws) (y:=y) (o:=o) hx;have hq:=a.atL H ha;have hw:=hq.1;have tp:=a.top;have kw:=H.know hw;have hlk:(lookM s.mv p.1).getD 0=p.2:=by rw [h.hm,lookM_of a.nod hx];rfl
  have he:=ledF_eq H hw;rw [show p.1 - 1+1=p.1 by omega] at he
  obtain ⟨s1,D1,e1,h1,hD1⟩:=lead_one H a hc ha (f:=fun u z=>lead2F (mmOf cs ws y t o cards W) u (p.2 - p.1) z) (fun s D r h r0 r1 c=>by
   have hv:=H.val (H.lead hw r1 c).2.2.1;have wl:=h.w.len;unfold lead2F;rw [if_pos ⟨by omega,by show p.1 - 1+r<(ws.length:Int);omega,by omega,by omega,by show -2000000≤rd ws (p.1 - 1+r)∧rd ws (p.1 - 1+r)≤2000000;omega,by omega⟩,show p.1 - 1+r+(p.2 - p.1)=p.2 - 1+r by omega]
   rfl) (szN cs ws (p.1 - 1)).toNat 0 s D (by omega) (by omega) h
  obtain ⟨s2,D2,e2,h2,hD2⟩:=lead2_imp H a hc r s1 D1 (fun z hz=>hL z (List.mem_cons_of_mem _ hz)) h1;refine ⟨s2,D2,?_,h2,fun j=>?_⟩
  ·rw [List.map_cons, leadP2, hlk, if_pos ⟨by omega, by omega⟩, he, Option.bind_some]
   unfold kids;rw [e1,Option.bind_some,e2]
  ·rw [hD2 j, hD1 j]
   constructor
   ·rintro ((z | z) | ⟨x', hx', z⟩)
    ·exact .inl z
    ·exact .inr ⟨p,List.mem_cons_self ..,z⟩
    ·exact .inr ⟨x',List.mem_cons_of_mem _ hx',z⟩
   ·rintro (z | ⟨x', hx', z⟩)
    ·exact .inl (.inl z)
    ·rcases List.mem_cons.mp hx' with rfl | hx'
     ·exact .inl (.inr z)
     ·exact .inr ⟨x',hx',z⟩
theorem lead_imp (H:Opn cs ws y t o cards W) (a:AI cs ws y o W A) (hc:ClsA cs ws y o A) {s:Mv} (h:MI cs ws y t o cards (fun _=>False) s A): ∃s',leadF (mmOf cs ws y t o cards W) s ((oldW cs ws y o).map (· +1))=some s'∧MI cs ws y t o cards (DA cs ws y o A) s' A:=by
 have hlen:(oldW cs ws y o).length≤200:=by
  have e:W.length=_:=congrArg List.length H.w
  rw [List.length_append] at e;have:=H.wlk.len
  unfold oldW;omega
 obtain ⟨s1,D1,e1,h1,hD1⟩:=lead1_imp H a hc (oldW cs ws y o) s _ (fun x hx=>hx) h;obtain ⟨s2,D2,e2,h2,hD2⟩:=lead2_imp H a hc A.mv s1 D1 (fun x hx=>hx) h1;refine ⟨s2,?_,⟨h2.hy,h2.ht,h2.ho,h2.hc,h2.hm,h2.hf,h2.w.congr (fun j=>?_)⟩⟩
 ·have := a.len H
  unfold leadF;rw [if_pos ⟨by rw [List.length_map];omega,by rw [h.hm];omega⟩,e1,Option.bind_some,h1.hm,e2]
 ·rw [hD2 j, hD1 j]
  unfold DA
  constructor
  ·rintro ((z | ⟨x, hx, q, z⟩) | ⟨p, hp, q, z⟩)
   ·exact z.elim
   ·exact ⟨x,x,q,atL_old hx,z⟩
   ·exact ⟨_,_,q,atL_mv hp,z⟩
  ·rintro ⟨i, x, q, ha, z⟩
   rcases ha.or with ⟨rfl,hx⟩|⟨p,hp,rfl,rfl⟩
   ·exact .inl (.inr ⟨i,hx,q,z⟩)
   ·exact .inr ⟨p,hp,q,z⟩
theorem oldsF_eq (H:Opn cs ws y t o cards W) (k:Nat) (hk:300≤k):oldsF k (mmOf cs ws y t o cards W)=some ((oldW cs ws y o).map (· +1)):=by
 have n0:=H.b.n0;have n1:=H.b.n1;have y0:=H.b.y0;have y1:=H.b.y1;have t1:=H.b.t1;have hl:=H.wlk.len;obtain ⟨p,hp,h,q1,q2⟩:=search_eq (map1_sorted H.wlk.srt) (by rw [List.length_map];omega) (y+1);obtain ⟨P,hP⟩: ∃P,P=(pw ws (allF cs) t t.toNat 0).1:=⟨_,rfl⟩;have hP2: ∀x∈P,x<t:=fun x hx=>by rw [hP] at hx;exact (pw_mem ws (allF cs) t t.toNat 0 x hx).2.1
 have hw:W=P++oldW cs ws y o:=by rw [hP];exact H.w
 have hlen:W.length=P.length+(oldW cs ws y o).length:=by rw [hw,List.length_append]
 rw [List.length_map] at hp h
 have e:p=P.length:=by
  rcases Nat.lt_trichotomy p P.length with c|c|c
  ·have := q2 p (by rw [List.length_map]; omega) (Nat.le_refl _)
   rw [List.getElem_map] at this;have e3:W[p]'(by omega)=P[p]:=by simp only [hw];exact List.getElem_append_left c
   rw [e3] at this;have:=hP2 _ (List.getElem_mem c)
   omega
  ·exact c
  ·have := q1 P.length (by rw [List.length_map]; omega) c
   rw [List.getElem_map] at this;have hlt:P.length<W.length:=by omega
   have e3:W[P.length]'hlt=(oldW cs ws y o)[0]'(by omega):=by simp only [hw];rw [List.getElem_append_right (Nat.le_refl _)];simp
   rw [e3] at this;have:=(H.old (List.getElem_mem (show 0<(oldW cs ws y o).length by omega))).2
   omega
 unfold oldsF;rw [show (mmOf cs ws y t o cards W).young=y from rfl,if_pos (by omega),show (mmOf cs ws y t o cards W).begins=W.map (· +1) from rfl,h k (by omega),Option.bind_some,if_pos (by dsimp only;rw [List.length_map];omega)]
 dsimp only
 rw [e,Int.toNat_natCast]
 congr 1
 rw [hw,List.map_append];exact List.drop_left' (by rw [List.length_map])
theorem comes_imp (H:Opn cs ws y t o cards W) {D:Int→Prop}: ∀(roots:List Int) (s:Mv) (A:Am),(∀v∈roots,v=0∨v - 1∈W)→AI cs ws y o W A→MI cs ws y t o cards D s A→∃s',foldO (comeG (mmOf cs ws y t o cards W)) s roots=some s'∧MI cs ws y t o cards D s' (roots.foldl (cmA cs ws y) A)
 |[],s,A,_,_,h=>⟨s,rfl,h⟩
 |v::r,s,A,hr,a,h=>by
  have hv:=hr v (List.mem_cons_self ..);obtain ⟨s1,e1,h1⟩:=come_imp H a h hv;obtain ⟨s2,e2,h2⟩:=comes_imp H r s1 _ (fun z hz=>hr z (List.mem_cons_of_mem _ hz)) (a.come H hv) h1;exact ⟨s2,by rw [foldO,e1,Option.bind_some,e2],h2⟩
theorem minor_imp (H:Opn cs ws y t o cards W) {roots:List Int} (hr: ∀v∈roots,v=0∨v - 1∈W) (hl:roots.length≤4000000) (k:Nat) (hk:300≤k):
  ((minorA cs ws y o cards roots).full=true→minorF k (mmOf cs ws y t o cards W) roots=some none)∧
  ((minorA cs ws y o cards roots).full=false→∃tw,WI cs ws y o (minorA cs ws y o cards roots) (DA cs ws y o (minorA cs ws y o cards roots)) tw∧minorF k (mmOf cs ws y t o cards W) roots=some (some (⟨List.replicate y.toNat 0++tw.drop y.toNat,y,0,(minorA cs ws y o cards roots).o,List.replicate cards.length false,(minorA cs ws y o cards roots).mv,false⟩,roots.map (nowF (minorA cs ws y o cards roots).mv)))):=by
 have n0:=H.b.n0;have n1:=H.b.n1;have y0:=H.b.y0;have y1:=H.b.y1;have t1:=H.b.t1;have hcd:=H.b.cd;have a0:=H.start0;obtain ⟨af,cf⟩:=minorA_facts H hr;obtain ⟨s1,e1,h1⟩:=comes_imp H (D:=fun _=>False) roots (mv0 (mmOf cs ws y t o cards W)) (am0 o) hr a0 ⟨rfl,rfl,rfl,rfl,rfl,rfl,WI.start H⟩;have a1:=(roots_ext H roots (am0 o) hr).2.1 a0;obtain ⟨s2,e2,h2⟩:=olds_imp H (oldW cs ws y o) s1 _ (fun x hx=>H.old hx) a1 h1;have a2:=(olds_ext H true (oldW cs ws y o) (roots.foldl (cmA cs ws y) (am0 o)) (fun x hx=>(H.old hx).1)).2.1 a1;obtain ⟨s3,e3,h3⟩:=chase_imp H 201 0 k s2 _ (by omega) (by omega) (by omega) a2 h2
 have hlen:(oldW cs ws y o).length≤200:=by
  have e:W.length=_:=congrArg List.length H.w
  rw [List.length_append] at e;have:=H.wlk.len
  unfold oldW;omega
 obtain ⟨A,hA⟩: ∃A,A=minorA cs ws y o cards roots:=⟨_,rfl⟩;rw [←hA] at af cf ⊢;replace h3:MI cs ws y t o cards (fun _=>False) s3 A:=by rw [hA];exact h3
 have eM:minorF k (mmOf cs ws y t o cards W) roots=if s3.full=true then some none else (leadF (mmOf cs ws y t o cards W) s3 ((oldW cs ws y o).map (· +1))).bind fun s4=>if 0≤s4.y∧s4.y≤s4.tw.length then some (some ({s4 with tw:=List.replicate s4.y.toNat 0++s4.tw.drop s4.y.toNat,tc:=List.replicate s4.tc.length false,t:=0},roots.map (nowF s4.mv))) else none:=by
  unfold minorF;rw [if_pos ⟨⟨by show 0<ws.length;omega,by show ws.length≤2000000;omega,by show cards.length≤2000000;omega,hl⟩,fun x hx=>by have:=H.val (hr x hx);omega⟩,e1,Option.bind_some,oldsF_eq H k hk,Option.bind_some,if_pos (by rw [List.length_map];omega),e2,Option.bind_some,e3,Option.bind_some]
 rw [eM,h3.hf];refine ⟨fun f=>by rw [if_pos f],fun f=>?_⟩;obtain ⟨s4,e4,h4⟩:=lead_imp H af (cf f).1 h3;obtain ⟨tw,y',t',o',tc,mv,full⟩:=s4;obtain ⟨hy,ht,ho,hc,hm,hf,w⟩:=h4;dsimp only at hy ht ho hc hm hf w;have wl:=w.len;refine ⟨tw,w,?_⟩;rw [if_neg (by rw [f];simp),e4,Option.bind_some]
 dsimp only
 rw [if_pos (by omega),hy,ho,hc,hm,hf,f]
end
theorem refs_eq {cs:Cs} {ws:List Int} {y t o:Int} {cards:List Bool} (hb:Bnd cs ws y t o cards) {c hd cnt x:Int} (hc:c=rd ws x) (h0:0≤x) (hhd:hd=1∨hd=2) (hcn:0≤cnt) (hcn8:cnt≤8) (hsz:x+hd+cnt≤ws.length) (hhe:spec_l21Head.f c=some hd) (hl21: ∀k,20≤k→spec_l21Size.f k cs ws x ws.length=some (hd+cnt)) (hcc:c= -1∨c= -2∨(0≤c∧c<cs.length∧hd=1∧cnt=(cfl cs c).length)):
  ∀k,200≤k→spec_l21Refs.f k cs ws x=some (refsL cs c hd (hd+cnt)):=by
 intro k hk;unfold spec_l21Refs.f;rw [hl21 k (by omega),Option.bind_some,if_pos (by omega),if_pos (by omega),if_pos h0,if_pos (by omega),←hc,hhe,Option.bind_some]
 have:=refs_l0 hb.ok (c:=c) (hd:=hd) (s:=(hd+cnt).toNat) (by omega) hhd (by rcases hcc with z|z|z;exact .inl z;exact .inr (.inl z);exact .inr (.inr ⟨z.1,z.2.1,z.2.2.1,by omega⟩)) ((hd+cnt).toNat - hd.toNat) k hd.toNat (List.replicate (hd+cnt).toNat false) (by omega) (by omega) (by omega) (by simp) (fun i hi=>by
  rw [List.getD_eq_getElem?_getD,List.getElem?_replicate,if_pos hi]
  rw [decide_eq_false (by omega)];rfl)
 rw [show ((hd.toNat:Nat):Int)=hd by omega,show (((hd+cnt).toNat:Nat):Int)=hd+cnt by omega] at this;exact this
def DC (cs:Cs) (ws:List Int) (y o:Int) (cards:List Bool) (s:Am) (c j:Int):Prop:=j<c∧∃i x q,AtL cs ws y o s i x∧0≤q∧q<szN cs ws x∧ld cs ws x q=true∧j=i+q∧(i<o→rdOf false cards ((j - y)/4)=true)
structure SI (cs:Cs) (ws:List Int) (y t o:Int) (cards:List Bool) (c:Int) (s:Xv) (A:Am):Prop where
 hy:s.y=y
 ht:s.t=t
 ho:s.o=A.o
 hc:s.cd=cards
 hk:s.ok=!A.full
 nl:(s.nw.length:Int)=y
 nw: ∀a,1≤a→a≤y→rd s.nw (a - 1)=(lookM A.mv a).getD 0
 lo:c≤A.o
 w: ∃D,WI cs ws y o A D s.ws∧DL cs ws y o A D∧(A.full=false→∀j,D j↔DC cs ws y o cards A c j)
theorem rd_cpy {ws:List Int} {o j:Int} (o0:0≤o) (j0:0≤j): ∀k:Nat,j+k≤o→o+k≤ws.length→(cpyS ws o j k).length=ws.length∧∀i,0≤i→rd (cpyS ws o j k) i=if o≤i∧i<o+k then rd ws (j+(i - o)) else rd ws i
 |0,_,_=>⟨rfl,fun i i0=>by rw [if_neg (by omega)];rfl⟩
 | k + 1, h1, h2 => by
  obtain ⟨hl,hr⟩:=rd_cpy (ws:=ws) o0 j0 k (by omega) (by omega);refine ⟨by rw [cpyS,List.length_set,hl],fun i i0=>?_⟩;rw [cpyS,hr (j+(k:Int)) (by omega),if_neg (by omega)];by_cases c:i=o+k
  ·rw [c, rd_set_eq _ (by omega) (by rw [hl]; omega), if_pos (by omega)]
   congr 1
   omega
  ·rw [rd_set_ne _ (by omega) i0 c, hr i i0]
   by_cases c2:o≤i∧i<o+(k:Int)
   ·rw [if_pos c2,if_pos (by omega)]
   ·rw [if_neg c2,if_neg (by omega)]
theorem refsL_all (cs:Cs) (c hd s:Int) {j:Int} (h0:0≤j) (h1:j<s):rdOf false (refsL cs c hd s) j=(decide (hd≤j)&&ldB cs c (j - hd)):=by
 unfold rdOf refsL;rw [List.getD_eq_getElem?_getD,List.getElem?_map,List.getElem?_range (by omega)];show (decide (hd≤((j.toNat:Nat):Int))&&ldB cs c (((j.toNat:Nat):Int) - hd))=_
 rw [Int.toNat_of_nonneg h0]
section
variable {cs:Cs} {ws:List Int} {y t o:Int} {cards:List Bool} {W:List Int} {s:Xv} {A:Am} {c:Int}
theorem move_full (H:Opn cs ws y t o cards W) (h:SI cs ws y t o cards c s A) (f:A.full=true) (k:Nat) (v:Int):moveS k cs s v=some (v,s):=by
 have hk:s.ok=false:=by rw [h.hk,f];rfl
 unfold moveS;rw [if_pos hk,ite_self,ite_self]
theorem move_spec (H:Opn cs ws y t o cards W) (a:AI cs ws y o W A) (h:SI cs ws y t o cards c s A) (f:A.full=false) {v:Int} (hv:v=0∨v - 1∈W) (k:Nat) (hk:20≤k):
  ∃u s',moveS k cs s v=some (u,s')∧SI cs ws y t o cards c s' (cmA cs ws y A v)∧((cmA cs ws y A v).full=false→u=nowF (cmA cs ws y A v).mv v)∧((cmA cs ws y A v).full=true→u=v∧s'.ws=s.ws):=by
 have n0:=H.b.n0;have n1:=H.b.n1;have y0:=H.b.y0;have y1:=H.b.y1;have t1:=H.b.t1;have lo:=a.lo H;have tp:=a.top;have hr:=Opn.val H hv;obtain ⟨ws',y',t',o',cd',nw',ok'⟩:=s;obtain ⟨hy,ht,ho,hc,hok,nl,nw,hlo,D,w,dl,dd⟩:=h;dsimp only at hy ht ho hc hok nl nw w;subst hy ht ho hc;rw [f] at hok;subst hok;have wl:=w.len;unfold moveS
 dsimp only
 rcases cmA_or (cs:=cs) (ws:=ws) (y:=y') A v with ⟨e,kn⟩|⟨_,v0,vy,hn,hz,e⟩|⟨_,v0,vy,hn,hz,e⟩
 ·rw [e, f]
  have kn:=kn.resolve_right (by rw [f];simp);have hS:SI cs ws y' t' o cd' c ⟨ws',y',t',A.o,cd',nw',!false⟩ A:=⟨rfl,rfl,rfl,rfl,by rw [f],nl,nw,hlo,D,w,dl,dd⟩
  by_cases c0:v=0
  ·exact ⟨v,_,by rw [if_pos c0],hS,fun _=>(nowF_out a (.inl c0)).symm,fun q=>(by cases q)⟩
  by_cases c1:v>y'
  ·exact ⟨v,_,by rw [if_neg c0,if_pos c1],hS,fun _=>(nowF_out a (.inr c1)).symm,fun q=>(by cases q)⟩
  have kn:=(kn.resolve_left c0).resolve_left c1;obtain ⟨b,hb⟩:=Option.isSome_iff_exists.mp kn;have hm:=lookM_mem hb;have hq:=a.atL H (atL_mv hm);have hnw:=nw v (by omega) (by omega);rw [hb] at hnw;have hnw:rd nw' (v - 1)=b:=hnw
  refine ⟨b,_,?_,hS,fun _=>by unfold nowF;rw [hb];rfl,fun q=>(by cases q)⟩;rw [if_neg c0,if_neg c1,if_neg (by simp),if_pos ⟨by omega,⟨by omega,by omega⟩,by omega,by omega⟩,hnw,if_pos (by dsimp only at hq;omega)]
 all_goals
  have hw:=hv.resolve_left v0;have z0:=H.sz0 hw;have kw:=H.know hw
  have hp:v - 1+szN cs ws (v - 1)≤t':=by
   rcases H.part hw with q|q
   ·exact q.2.1
   ·omega
  have hms:mstep ws' (allF cs) y' (v - 1)=szN cs ws (v - 1):=msz_of (w.out _ (by omega) (by omega)) (fun q=>w.out _ (by omega) (by have:=kw.2.2.2.2.2.2 q;omega)) z0 (by omega)
  have hsz:spec_l21Size.f k cs ws' (v - 1) y'=some (szN cs ws (v - 1)):=by
   rw [l21Size_eq H.b.ok (by omega) (by omega) (by omega) k hk,if_pos (by omega),hms]
  have hnw:=nw v (by omega) (by omega);rw [hn] at hnw;have hnw:rd nw' (v - 1)=0:=hnw
  rw [if_neg v0,if_neg (show¬v>y' by omega),if_neg (show¬(!false)=false by simp),if_pos ⟨⟨by omega,by omega⟩,⟨by omega,by omega⟩,by omega,by omega⟩,hnw,if_neg (by omega),hsz,Option.bind_some,if_pos ⟨by omega,by omega,by omega⟩]
 ·rw [if_pos (by omega), e]
  exact ⟨v,_,rfl,⟨rfl,rfl,rfl,rfl,rfl,nl,nw,hlo,D,w.ful,dl,fun q=>(by cases q)⟩,fun q=>(by cases q),fun _=>⟨rfl,rfl⟩⟩
 ·have a2 := a.come H hv
  rw [e] at a2 ⊢;obtain ⟨cl,cr⟩:=rd_cpy (ws:=ws') (o:=A.o) (j:=v - 1) (by omega) (by omega) (szN cs ws (v - 1)).toNat (by omega) (by omega);have ex:Ext A ⟨A.mv++[(v,A.o+1)],A.o+szN cs ws (v - 1),false⟩:=⟨⟨_,rfl⟩,fun q=>(by rw [f] at q;cases q),by dsimp only;omega⟩
  have nowv:nowF (A.mv++[(v,A.o+1)]) v=A.o+1:=by unfold nowF;rw [lookM_snoc hn,if_pos rfl];rfl
  rw [if_neg (by omega)];refine ⟨A.o+1,_,rfl,⟨rfl,rfl,rfl,rfl,rfl,by dsimp only;rw [List.length_set];exact nl,fun z z1 z2=>?_,by dsimp only;omega,D,w.move H a a2 f z0 (by rw [cl,wl]) (fun r r0 r1=>?_) (fun j j0 hj=>?_),fun i x r ha r0 r1 hd=>?_,fun _ j=>?_⟩,fun _=>nowv.symm,fun q=>(by cases q)⟩
  ·dsimp only
   rw [lookM_snoc hn];by_cases cz:z=v
   ·rw [if_pos cz,cz,rd_set_eq _ (by omega) (by omega)];rfl
   ·rw [if_neg cz, rd_set_ne _ (by omega) (by omega) (by omega)]
    exact nw z z1 z2
  ·dsimp only
   rw [cr _ (by omega),if_pos (by omega),show v - 1+(A.o+r - A.o)=v - 1+r by omega];exact w.out _ (by omega) (by omega)
  ·dsimp only
   rw [cr _ j0,if_neg (by omega)]
  ·rcases ha.or with ⟨rfl, q⟩ | ⟨p, hp2, rfl, rfl⟩
   ·exact dl i i r (atL_old q) r0 r1 hd
   ·rcases List.mem_append.mp hp2 with hp2 | hp2
    ·exact dl _ _ r (atL_mv hp2) r0 r1 hd
    ·rw [List.mem_singleton] at hp2
     subst hp2;have:=w.dn _ hd
     dsimp only at this;omega
  ·rw [dd f j]
   unfold DC
   constructor
   ·rintro ⟨h1, i, x, q, ha, h2⟩
    exact ⟨h1,i,x,q,ha.ext ex,h2⟩
   ·rintro ⟨h1, i, x, q, ha, h2⟩
    refine ⟨h1,i,x,q,?_,h2⟩;rcases ha.or with ⟨rfl,q⟩|⟨p,hp2,rfl,rfl⟩
    ·exact atL_old q
    ·rcases List.mem_append.mp hp2 with hp2 | hp2
     ·exact atL_mv hp2
     ·rw [List.mem_singleton] at hp2
      subst hp2;dsimp only at h2;omega
theorem SI.pass (H:Opn cs ws y t o cards W) (a:AI cs ws y o W A) (h:SI cs ws y t o cards c s A) {c':Int} (hc:c≤c') (lo:c'≤A.o) (hn: ∀i x q,AtL cs ws y o A i x→0≤q→q<szN cs ws x→c≤i+q→i+q<c'→ld cs ws x q=true→(i<o→rdOf false cards ((i+q - y)/4)=true)→False):SI cs ws y t o cards c' s A:=by
 obtain ⟨hy,ht,ho,hcc,hok,nl,nw,hlo,D,w,dl,dd⟩:=h;refine ⟨hy,ht,ho,hcc,hok,nl,nw,lo,D,w,dl,fun f j=>?_⟩;rw [dd f j];unfold DC
 constructor
 ·rintro ⟨h1, h2⟩
  exact ⟨by omega,h2⟩
 ·rintro ⟨h1, i, x, q, ha, q0, q1, hl, e, hcd⟩
  refine ⟨?_,i,x,q,ha,q0,q1,hl,e,hcd⟩;refine Classical.byContradiction (fun z=>hn i x q ha q0 q1 (by omega) (by omega) hl (fun io=>by rw [←e];exact hcd io))
theorem want_spec (H:Opn cs ws y t o cards W) (h:SI cs ws y t o cards c s A) {x i:Int} (hx:x∈W) {k:Nat} (k1:(k:Int)<szN cs ws x) {cd:Bool} (hcd:cd=true→i=x∧y≤x) {R:List Bool} (hR: ∀j:Int,0≤j→j<szN cs ws x→rdOf false R j=ld cs ws x j):wantS s R i cd k=some (wnt cs ws y cards cd x k):=by
 have n0:=H.b.n0;have n1:=H.b.n1;have y0:=H.b.y0;have y1:=H.b.y1;have hcl:=H.b.cd;have kw:=H.know hx;unfold wantS wnt;rw [hR k (by omega) k1,h.hy,h.hc]
 cases hl:ld cs ws x k with
 |false=>rw [if_pos rfl];rfl
 | true =>
  rw [if_neg (by simp)]
  cases cd with
  |false=>rw [if_pos rfl];rfl
  |true=>
   obtain ⟨e,hy⟩:=hcd rfl;subst e;rw [if_neg (by simp),Int.tdiv_eq_ediv_of_nonneg (by omega),if_pos ⟨by omega,by omega,by omega,by omega⟩];rfl
theorem set_self {l:List Int} {j:Int} (j0:0≤j) (j1:j<l.length):l.set j.toNat (rd l j)=l:=by
 refine rd_ext List.length_set (fun i i0 i1=>?_);by_cases e:i=j
 ·subst e
  rw [rd_set_eq _ j0 j1]
 ·rw [rd_set_ne _ j0 i0 e]
theorem thing_spec (H : Opn cs ws y t o cards W) {x i : Int} (hx : x ∈ W) {cd : Bool} (hcd : (cd = true ∧ i = x ∧ y ≤ x ∧ i < o) ∨ (cd = false ∧ o ≤ i)) {R : List Bool} (hR : ∀ j : Int, 0 ≤ j → j < szN cs ws x → rdOf false R j = ld cs ws x j) (kf : Nat) (hkf : 20 ≤ kf) :
  ∀(d k:Nat) (s:Xv) (A:Am),((k:Int)+d=szN cs ws x)→AI cs ws y o W A→AtL cs ws y o A i x→SI cs ws y t o cards (i+k) s A→∃s',thingS kf cs R i cd d k s=some s'∧SI cs ws y t o cards (i+szN cs ws x) s' (thA cs ws y cards x cd d k A)
 |0,k,s,A,hd,a,ha,h=>⟨s,rfl,by rw [show szN cs ws x=(k:Int) by omega];exact h⟩
 | d + 1, k, s, A, hd, a, ha, h => by
  have n0:=H.b.n0;have n1:=H.b.n1;have y0:=H.b.y0;have y1:=H.b.y1;have hq:=a.atL H ha;have tp:=a.top;rw [thingS,thA,want_spec H h hx (by omega) (fun e=>by rcases hcd with q|q;exact ⟨q.2.1,q.2.2.1⟩;rw [q.1] at e;cases e) hR,Option.bind_some];have cast:(((k+1:Nat)):Int)=(k:Int)+1:=by omega
  have hwl:s.ws.length=ws.length:=by obtain ⟨D,w,_⟩:=h.w;exact w.len
  by_cases c:wnt cs ws y cards cd x k=true
  ·rw [if_pos c, if_pos c, if_pos ⟨by omega, by omega⟩]
   have hl:ld cs ws x k=true:=by unfold wnt at c;rw [Bool.and_eq_true] at c;exact c.1
   have hv:=(H.lead hx (show (k:Int)<szN cs ws x by omega) hl).2.2.1
   have hcard:i<o→rdOf false cards ((i+(k:Int) - y)/4)=true:=fun io=>by
    rcases hcd with q|q
    ·unfold wnt at c
     rw [q.1,Bool.and_eq_true] at c;rw [q.2.1]
     simpa using c.2
    ·omega
   cases f:A.full with
   | true =>
    have e:cmA cs ws y A (rd ws (x+k))=A:=by
     unfold cmA
     split
     ·rfl
     ·split
      ·rfl
      ·rw [if_pos (.inr f)]
    rw [move_full H h f,Option.bind_some]
    dsimp only
    rw [if_pos (by omega),set_self (by omega) (by omega),e];obtain ⟨D,w,dl,dd⟩:=h.w;have:=thing_spec H hx hcd hR kf hkf d (k+1) s A (by omega) a ha ⟨h.hy,h.ht,h.ho,h.hc,h.hk,h.nl,h.nw,by omega,D,w,dl,fun q=>by rw [f] at q;cases q⟩
    rw [cast] at this;exact this
   | false =>
    obtain ⟨D0,w0,dl0,dd0⟩:=h.w;have hnd: ¬D0 (i+k):=fun q=>by have:=((dd0 f _).mp q).1;omega
    have hrd:rd s.ws (i+k)=rd ws (x+k):=(w0.inn i x ha k (by omega) (by omega)).2 hnd
    rw [hrd];obtain ⟨u,s1,e1,h1,u1,u2⟩:=move_spec H a h f hv kf hkf;obtain ⟨ex,kn⟩:=cmA_ext H (s:=A) hv;have a1:=a.come H hv;have ha1:=ha.ext ex;obtain ⟨D1,w1,dl1,dd1⟩:=h1.w;rw [e1,Option.bind_some]
    dsimp only
    rw [if_pos (by rw [w1.len];omega)];have hlo1:i+((k:Int)+1)≤(cmA cs ws y A (rd ws (x+k))).o:=by have:=ex.up;omega
    have hS:SI cs ws y t o cards (i+((k+1:Nat):Int)) {s1 with ws:=s1.ws.set (i+(k:Int)).toNat u} (cmA cs ws y A (rd ws (x+k))):=by
     rw [cast]
     cases f1:(cmA cs ws y A (rd ws (x+k))).full with
     |true=>
      obtain ⟨u3,u4⟩:=u2 f1;refine ⟨h1.hy,h1.ht,h1.ho,h1.hc,h1.hk,h1.nl,h1.nw,hlo1,D1,?_,dl1,fun q=>by rw [f1] at q;cases q⟩
      dsimp only
      have es:s1.ws.set (i+(k:Int)).toNat u=s1.ws:=by rw [u3,u4,←hrd];exact set_self (by omega) (by omega)
      rw [es];exact w1
     | false =>
      have kn1:=kn.resolve_right (by rw [f1];simp);have w2:=w1.write H a1 ha1 (by omega) (by omega) kn1;rw [←u1 f1] at w2;refine ⟨h1.hy,h1.ht,h1.ho,h1.hc,h1.hk,h1.nl,h1.nw,hlo1,_,w2,fun i' x' r' ha' r0' r1' hd'=>?_,fun _ j=>?_⟩
      ·rcases hd' with hd' | hd'
       ·exact dl1 i' x' r' ha' r0' r1' hd'
       ·obtain ⟨e2, e3⟩ := a1.one H ha1 ha' (j := i + (k : Int)) (by omega) (by omega) (by omega) (by omega)
        subst e2 e3;obtain rfl:r'=(k:Int):=by omega
        exact hl
      ·rw [dd1 f1 j]
       unfold DC
       constructor
       ·rintro (⟨z1, z2⟩ | z)
        ·exact ⟨by omega,z2⟩
        ·exact ⟨by omega,i,x,k,ha1,by omega,by omega,hl,z,fun io=>by rw [z];exact hcard io⟩
       ·rintro ⟨z1, z2⟩
        by_cases cj:j=i+(k:Int)
        ·exact .inr cj
        ·exact .inl ⟨by omega,z2⟩
    have:=thing_spec H hx hcd hR kf hkf d (k+1) _ _ (by omega) a1 ha1 hS
    rw [cast] at this;exact this
  ·rw [if_neg c, if_neg c]
   have hS:=h.pass H a (c':=i+((k+1:Nat):Int)) (by omega) (by omega) (fun i' x' q' ha' q0 q1 z1 z2 hl' hcd'=>by
    obtain ⟨e2,e3⟩:=a.one H ha ha' (j:=i+(k:Int)) (by omega) (by omega) (by omega) (by omega);subst e2 e3;obtain rfl:q'=(k:Int):=by omega
    refine c ?_;unfold wnt;rw [hl',Bool.true_and];rcases hcd with q|q
    ·rw [q.1]
     have:=hcd' q.2.2.2
     rw [q.2.1] at this
     simpa using this
    ·rw [q.1];rfl)
   have:=thing_spec H hx hcd hR kf hkf d (k+1) s A (by omega) a ha hS
   rw [cast] at this;exact this
theorem SI.bnd (H:Opn cs ws y t o cards W) (a:AI cs ws y o W A) (h:SI cs ws y t o cards c s A):Bnd cs s.ws y t A.o cards:=by
 have lo:=a.lo H;have tp:=a.top;have hwl:s.ws.length=ws.length:=by obtain ⟨D,w,_⟩:=h.w;exact w.len
 exact ⟨H.b.ok,H.b.y0,H.b.y1,by rw [hwl];exact H.b.n0,by rw [hwl];exact H.b.n1,H.b.t0,H.b.t1,lo,by rw [hwl];exact tp,by rw [hwl];exact H.b.cd⟩
theorem SI.size (H:Opn cs ws y t o cards W) (a:AI cs ws y o W A) (h:SI cs ws y t o cards c s A) {i x:Int} (ha:AtL cs ws y o A i x):rd s.ws i=rd ws x∧∀k,20≤k→spec_l21Size.f k cs s.ws i s.ws.length=some (szN cs ws x):=by
 have n0:=H.b.n0;have n1:=H.b.n1;have y0:=H.b.y0;have y1:=H.b.y1;have hq:=a.atL H ha;have tp:=a.top;obtain ⟨D,w,dl,dd⟩:=h.w;have hwl:=w.len;obtain ⟨h1,h2⟩:=w.head H a dl ha;refine ⟨h1,fun k hk=>?_⟩;rw [l21Size_eq H.b.ok (by omega) (by omega) (Int.le_refl _) k hk,if_pos (by omega),msz_of h1 h2 hq.2.1 (by omega)]
theorem thingF_spec (H:Opn cs ws y t o cards W) (a:AI cs ws y o W A) {i x:Int} (ha:AtL cs ws y o A i x) {cd:Bool} (hcd:(cd=true∧i=x∧y≤x∧i<o)∨(cd=false∧o≤i)) (h:SI cs ws y t o cards i s A) (kf:Nat) (hkf:200≤kf): ∃s',thingF kf cs s i cd=some s'∧SI cs ws y t o cards (i+szN cs ws x) s' (thW cs ws y cards cd A x):=by
 have n0:=H.b.n0;have n1:=H.b.n1;have y0:=H.b.y0;have y1:=H.b.y1;have hq:=a.atL H ha;have tp:=a.top;have hwl:s.ws.length=ws.length:=by obtain ⟨D,w,_⟩:=h.w;exact w.len
 obtain ⟨hh,hs⟩:=h.size H a ha;obtain ⟨cc,hd,cnt,hcc,h0,hhd,hcn,hcn8,hsz,hco,hfi,hhe,hl21,hle,hcl⟩:=thing_facts (t:=t) (o:=o) (cards:=cards) H.b H.wlk _ rfl hq.1;obtain ⟨_,_,_,_,_,_,_,_,_,_,hl2⟩:=thing_know (t:=t) (o:=o) (cards:=cards) H.b H.wlk hq.1
 have e1:szN cs ws x=hd+cnt:=by
  have q1:=hl21 20 (Nat.le_refl _);rw [hl2 20 (Nat.le_refl _)] at q1;exact Option.some.inj q1
 have e2:hdN (rd ws x)=hd:=by
  unfold spec_l21Head.f at hhe;unfold hdN;rw [←hcc];by_cases c:cc<0
  ·rw [if_pos c] at hhe ⊢;exact Option.some.inj hhe
  ·rw [if_neg c] at hhe ⊢;exact Option.some.inj hhe
 have hR:=refs_eq (h.bnd H a) (c:=cc) (hd:=hd) (cnt:=cnt) (x:=i) (by rw [hh,hcc]) (by omega) hhd hcn hcn8 (by rw [hwl];omega) hhe (fun k hk=>by rw [hs k hk,e1]) hcl kf hkf;have hlen:((refsL cs cc hd (hd+cnt)).length:Int)=szN cs ws x:=by unfold refsL;rw [List.length_map,List.length_range];omega
 obtain ⟨s',e3,h3⟩:=thing_spec H hq.1 hcd (R:=refsL cs cc hd (hd+cnt)) (fun j j0 j1=>by rw [refsL_all cs cc hd _ j0 (by omega)];unfold ld;rw [e2,←hcc]) kf (by omega) (szN cs ws x).toNat 0 s A (by omega) a ha (by rw [show i+((0:Nat):Int)=i by omega];exact h);refine ⟨s',?_,h3⟩;unfold thingF;rw [if_pos (by omega),hR,Option.bind_some,if_pos (by omega),show (refsL cs cc hd (hd+cnt)).length=(szN cs ws x).toNat by omega];exact e3
theorem oldsS_spec (H:Opn cs ws y t o cards W) (kf:Nat) (hkf:200≤kf): ∀(L:List Int) (c:Int) (s:Xv) (A:Am),(∀x∈L,x∈oldW cs ws y o)→Chl (szN cs ws) c (L.map fun x=>(x,x)) o→AI cs ws y o W A→SI cs ws y t o cards c s A→∃s',oldsS kf cs s L=some s'∧SI cs ws y t o cards o s' (L.foldl (thW cs ws y cards true) A)
 |[],c,s,A,_,hch,_,h=>⟨s,rfl,by have e:c=o:=hch;rw [e] at h;exact h⟩
 | x :: r, c, s, A, hL, hch, a, h => by
  obtain ⟨h1,h2⟩:=hch;have h1:x=c:=h1
  subst h1;have hx:=hL x (List.mem_cons_self ..);have hw:=H.old hx
  have hxo:x<o:=by
   have q:=Chl.mem h2 (fun p hp=>by obtain ⟨z,hz,rfl⟩:=List.mem_map.mp hp;exact H.sz0 (H.old (hL z (List.mem_cons_of_mem _ hz))).1);have:=H.sz0 hw.1
   dsimp only at q;omega
  obtain ⟨s1,e1,h3⟩:=thingF_spec H a (atL_old hx) (cd:=true) (.inl ⟨rfl,rfl,hw.2,hxo⟩) h kf hkf;obtain ⟨s2,e2,h4⟩:=oldsS_spec H kf hkf r _ s1 _ (fun z hz=>hL z (List.mem_cons_of_mem _ hz)) h2 ((thW_ext H hw.1 true A).2.1 a) h3;exact ⟨s2,by rw [oldsS,e1,Option.bind_some,e2],h4⟩
theorem rootsS_spec (H:Opn cs ws y t o cards W) (kf:Nat) (hkf:200≤kf): ∀(roots out:List Int) (s:Xv) (A:Am),(∀v∈roots,v=0∨v - 1∈W)→AI cs ws y o W A→SI cs ws y t o cards c s A→∃s' out',rootsS kf cs s out roots=some (s',out')∧SI cs ws y t o cards c s' (roots.foldl (cmA cs ws y) A)∧((roots.foldl (cmA cs ws y) A).full=false→out'=out++roots.map (nowF (roots.foldl (cmA cs ws y) A).mv))
 |[],out,s,A,_,_,h=>⟨s,out,rfl,h,fun _=>by simp⟩
 | v :: r, out, s, A, hr, a, h => by
  have hv:=hr v (List.mem_cons_self ..);rw [rootsS,List.foldl_cons]
  cases f:A.full with
  | true =>
   have e:cmA cs ws y A v=A:=by
    unfold cmA
    split
    ·rfl
    ·split
     ·rfl
     ·rw [if_pos (.inr f)]
   rw [move_full H h f,Option.bind_some,e]
   dsimp only
   obtain ⟨s2,out2,e2,h2,o2⟩:=rootsS_spec H kf hkf r (out++[v]) s A (fun z hz=>hr z (List.mem_cons_of_mem _ hz)) a h;refine ⟨s2,out2,e2,h2,fun q=>?_⟩;have:=(roots_ext H r A (fun z hz=>hr z (List.mem_cons_of_mem _ hz))).1.nf q
   rw [f] at this;cases this
  |false=>
   obtain ⟨u,s1,e1,h1,u1,u2⟩:=move_spec H a h f hv kf (by omega);have a1:=a.come H hv;obtain ⟨s2,out2,e2,h2,o2⟩:=rootsS_spec H kf hkf r (out++[u]) s1 _ (fun z hz=>hr z (List.mem_cons_of_mem _ hz)) a1 h1;rw [e1,Option.bind_some];refine ⟨s2,out2,e2,h2,fun q=>?_⟩;obtain ⟨ex,a2,_⟩:=roots_ext H r (cmA cs ws y A v) (fun z hz=>hr z (List.mem_cons_of_mem _ hz));have f1:=ex.nf q;have kn:=(cmA_ext H (s:=A) hv).2.resolve_right (by rw [f1];simp);rw [o2 q,u1 f1,List.map_cons,nowF_ext a1 (a2 a1) ex kn];simp
end
end Go.Proofs.Ytbaklikaoleplaa.Pure
