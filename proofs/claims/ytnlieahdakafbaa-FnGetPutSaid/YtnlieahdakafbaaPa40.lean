import Derived.Test.YtnlieahdakafbaaPa24
import Derived.Test.YtnlieahdakafbaaPa34
import Derived.Test.YtnlieahdakafbaaPa33
import Derived.Test.YtnlieahdakafbaaPa32
import Derived.Test.YtnlieahdakafbaaPa25
import Derived.Test.YtnlieahdakafbaaPa30
import Derived.Test.YtnlieahdakafbaaPa27
import Derived.Test.YtnlieahdakafbaaPa26
import Derived.Test.YtnlieahdakafbaaPa35
import Derived.Test.YtnlieahdakafbaaPa36
namespace Go.Proofs.Ytnlieahdakafbaa.K
open Go.RowKit Go.Proofs.YtnlieahdakafbaaW.PrintWords Go.Proofs.YtnlieahdakafbaaW.PrintLast Go.Proofs.YtnlieahdakafbaaW.PrintMore
attribute [local go_sem] max2_int min2_int max_two min_two max_three min_three max_four min_four
set_option linter.unusedVariables false
set_option linter.unusedSimpArgs false
def sizeOf (k:Nat) (a2:Int):Option Mm→Option Int
  |none=>some 0
  |some m=>(memory_has.f k m a2).bind fun b=>if b=true then thing_size.f m a2 else some 0
def impl_MemSize.f (k:Nat) (l0:List (S112)) (l1_0:List Int) (a1_1:Int) (a1_2:Int) (a1_3:Int) (l1_4:List Bool) (a2:Int):Option (Int):=(mopen k k l0 l1_0 a1_1 a1_2 a1_3 l1_4).bind fun r=>sizeOf k a2 r
end Go.Proofs.Ytnlieahdakafbaa.K
namespace Go.Proofs.Ytnlieahdakafbaa.Pure
open Go.RowKit Go.Proofs.Ytnlieahdakafbaa.K Go.Proofs.YtnlieahdakafbaaW.PrintWords Go.Proofs.YtnlieahdakafbaaW.PrintLast Go.Proofs.YtnlieahdakafbaaW.PrintMore
set_option linter.unusedVariables false
set_option linter.unusedSimpArgs false
theorem walk_parts {cs:Cs} {ws:List Int} {y t o:Int} {cards:List Bool} (hb:Bnd cs ws y t o cards) {W:List Int} (hk: ∀k,4000000≤k→spec_l21Walk.f k cs ws y t o cards=some (W,true)):
  W=(pw ws (allF cs) t t.toNat 0).1++(pw ws (allF cs) o (o - y).toNat y).1∧(pw ws (allF cs) t t.toNat 0).2=true∧(pw ws (allF cs) o (o - y).toNat y).2=true:=by
 have n0:=hb.n0;have n1:=hb.n1;have y0:=hb.y0;have y1:=hb.y1;have t0:=hb.t0;have t1:=hb.t1;have o0:=hb.o0;have o1:=hb.o1;have l1:=pw_len ws (allF cs) t t.toNat 0;have l2:=pw_len ws (allF cs) o (o - y).toNat y;have h:=hk 4000000 (Nat.le_refl _);unfold spec_l21Walk.f spec_l21Part.f at h;rw [pw_part hb.ok (by omega) (by omega) t.toNat 0 [] 4000000 (by omega) (by omega) (by omega) (by simp;omega),Option.bind_some,pw_part hb.ok (by omega) (by omega) (o - y).toNat y [] 4000000 (by omega) (by omega) (by omega) (by simp;omega),Option.bind_some] at h;simp only [List.nil_append] at h;rw [if_pos (by omega),Option.bind_some] at h
 cases c:(pw ws (allF cs) t t.toNat 0).2 with
 |true=>
  rw [c,if_pos rfl] at h;have h2:=Option.some.inj h;exact ⟨(Prod.mk.inj h2).1.symm,rfl,(Prod.mk.inj h2).2⟩
 |false=>
  rw [c,if_neg (by simp)] at h;have h2:=Option.some.inj h;exact absurd (Prod.mk.inj h2).2 (by simp)
def hdN (c:Int):Int:=if c<0 then 2 else 1
def szN (cs:Cs) (ws:List Int) (x:Int):Int:=mstep ws (allF cs) ws.length x
def VOk (cs:Cs) (W:List Int) (c k v:Int):Prop:=if ldB cs c k=true then v=0∨v - 1∈W else -128≤v∧v≤127
def Wd (cs:Cs) (ws:List Int) (y:Int) (cards:List Bool) (W:List Int) (x i k:Int):Prop:=
  VOk cs W (rd ws x) k (rd ws i)∧(ldB cs (rd ws x) k=true→x≥y→1≤rd ws i→rd ws i≤y→rdOf false cards ((i - y)/4)=true)
structure Opn (cs:Cs) (ws:List Int) (y t o:Int) (cards:List Bool) (W:List Int):Prop where
 b:Bnd cs ws y t o cards
 z: ∀j:Nat,j<ws.length→Zr ws y t o j
 w1:(pw ws (allF cs) t t.toNat 0).2=true
 w2:(pw ws (allF cs) o (o - y).toNat y).2=true
 w:W=(pw ws (allF cs) t t.toNat 0).1++(pw ws (allF cs) o (o - y).toNat y).1
 d: ∀x∈W,∀k,0≤k→k<szN cs ws x - hdN (rd ws x)→Wd cs ws y cards W x (x+hdN (rd ws x)+k) k
def mmOf (cs:Cs) (ws:List Int) (y t o:Int) (cards:List Bool) (W:List Int):Mm:=⟨ws,y,t,o,cards,allF cs,W.map (· +1)⟩
theorem parts_zero {cs:Cs} {ws:List Int} {y t o:Int} {cards:List Bool} (hb:Bnd cs ws y t o cards):impl_partsOk.f ws y t o cards=some true↔∀j:Nat,j<ws.length→Zr ws y t o j:=by
 have n0:=hb.n0;have n1:=hb.n1;have y0:=hb.y0;have y1:=hb.y1;have t0:=hb.t0;have t1:=hb.t1;have o0:=hb.o0;have o1:=hb.o1;have cd:=hb.cd;have w:wrap64 ((ws.length:Int) - y)=(ws.length:Int) - y:=wrap64_of (by omega) (by omega)
 have w4:cardsN (wrap64 ((ws.length:Int) - y))=((ws.length:Int) - y+3)/4:=by
  rw [w];unfold cardsN;rw [wrap64_of (n:=(ws.length:Int) - y+4) (by omega) (by omega),wrap64_of (n:=(ws.length:Int) - y+4 - 1) (by omega) (by omega),Int.tdiv_eq_ediv_of_nonneg (by omega),show (ws.length:Int) - y+4 - 1=(ws.length:Int) - y+3 by omega,wrap64_of (by omega) (by omega)]
 have e0:pOk ws y t o cards 0=true:=decide_eq_true ⟨y0,y1⟩
 have e1:pOk ws y t o cards 1=true:=decide_eq_true (by rw [w];exact ⟨n0,n1⟩)
 have e2:pOk ws y t o cards 2=true:=decide_eq_true ⟨t0,t1⟩
 have e3:pOk ws y t o cards 3=true:=decide_eq_true ⟨o0,o1⟩
 have e4:pOk ws y t o cards 4=true:=beq_iff_eq.mpr (by rw [w4];exact cd)
 have h5:pOk ws y t o cards 5=true↔∀j:Nat,t≤j→(j:Int)≤y - 1→ws.getD j 0=0:=by
  show ((ws.take y.toNat).drop t.toNat).all (· ==0)=true↔_
  rw [all_drop_iff]
  constructor
  ·intro h j h1 h2
   have:=h j (by omega) (by rw [List.length_take];omega)
   rw [List.getD_eq_getElem?_getD,List.getElem?_take,if_pos (by omega)] at this;rw [List.getD_eq_getElem?_getD];exact this
  ·intro h j h1 h2
   rw [List.length_take] at h2;rw [List.getD_eq_getElem?_getD,List.getElem?_take,if_pos (by omega)];have:=h j (by omega) (by omega)
   rw [List.getD_eq_getElem?_getD] at this;exact this
 have h6:pOk ws y t o cards 6=true↔∀j:Nat,o≤j→j<ws.length→ws.getD j 0=0:=by
  show ((ws.drop y.toNat).drop (o - y).toNat).all (· ==0)=true↔_
  rw [List.drop_drop,all_drop_iff]
  constructor
  ·intro h j h1 h2;exact h j (by omega) h2
  ·intro h j h1 h2;exact h j (by omega) h2
 unfold impl_partsOk.f;rw [if_pos (by omega),e0,e1,e2,e3,e4];simp only [Bool.true_and,Option.some.injEq,Bool.and_eq_true]
 rw [h5,h6]
 constructor
 ·rintro ⟨q1, q2⟩ j hj z
  rcases z with z|z
  ·exact q1 j z.1 z.2
  ·exact q2 j z hj
 ·intro q
  exact ⟨fun j h1 h2=>q j (by omega) (Or.inl ⟨h1,h2⟩),fun j h1 h2=>q j h2 (Or.inr h1)⟩
theorem thing_know {cs:Cs} {ws:List Int} {y t o:Int} {cards:List Bool} (hb:Bnd cs ws y t o cards) {W:List Int} (hw:Wlk cs ws W) {x:Int} (hx:x∈W):
  0≤x∧x<ws.length∧0≤szN cs ws x - hdN (rd ws x)∧szN cs ws x - hdN (rd ws x)≤8∧x+szN cs ws x≤ws.length∧(hdN (rd ws x)=1∨hdN (rd ws x)=2)∧(rd ws x<0→hdN (rd ws x)=2)∧
   thing_count.f (mmOf cs ws y t o cards W) (x+1)=some (szN cs ws x - hdN (rd ws x))∧thing_first.f (mmOf cs ws y t o cards W) (x+1)=some (x+hdN (rd ws x))∧
   (∀k,0≤k→k<szN cs ws x - hdN (rd ws x)→thing_leads.f (mmOf cs ws y t o cards W) (x+1) k=some (ldB cs (rd ws x) k))∧∀k,20≤k→spec_l21Size.f k cs ws x ws.length=some (szN cs ws x):=by
 have n0:=hb.n0;have n1:=hb.n1;have y0:=hb.y0;have y1:=hb.y1;obtain ⟨cc,hd,cnt,hcc,h0,hhd,hcn,hcn8,hsz,hco,hfi,hhe,hl21,hle,hcl⟩:=thing_facts (t:=t) (o:=o) (cards:=cards) hb hw _ rfl hx;have hxr:=wlk_range hw hx;have h20:=hl21 20 (Nat.le_refl _);rw [l21Size_eq hb.ok (by omega) h0 (Int.le_refl _) 20 (by omega),if_pos hxr.2] at h20;have h20:=Option.some.inj h20
 have hh:hdN (rd ws x)=hd:=by
  unfold spec_l21Head.f at hhe;unfold hdN;rw [←hcc];by_cases c:cc<0
  ·rw [if_pos c] at hhe ⊢;exact Option.some.inj hhe
  ·rw [if_neg c] at hhe ⊢;exact Option.some.inj hhe
 have hs:szN cs ws x - hdN (rd ws x)=cnt:=by unfold szN;rw [hh,h20];omega
 have hs2:szN cs ws x=hd+cnt:=by unfold szN;exact h20
 rw [hs,hh];refine ⟨h0,hxr.2,hcn,hcn8,by omega,hhd,fun hn=>?_,hco,hfi,fun k k0 k1=>by rw [←hcc];exact hle k k0 k1,fun k hk=>by rw [hs2];exact hl21 k hk⟩;rw [←hh];unfold hdN;rw [if_pos hn]
theorem word_iff {cs:Cs} {ws:List Int} {y t o:Int} {cards:List Bool} (hb:Bnd cs ws y t o cards) {W:List Int} (hw:Wlk cs ws W) {x:Int} (hx:x∈W) {k:Int} (k0:0≤k) (k1:k<szN cs ws x - hdN (rd ws x)) (q:Nat) (hq:300≤q):
  wordAt q (mmOf cs ws y t o cards W) (x+1) k=some true↔Wd cs ws y cards W x (x+hdN (rd ws x)+k) k:=by
 have n0:=hb.n0;have n1:=hb.n1;have y0:=hb.y0;have y1:=hb.y1;have cd:=hb.cd;obtain ⟨h0,h1,h2,h3,h4,h5,_,hco,hfi,hle,_⟩:=thing_know (t:=t) (o:=o) (cards:=cards) hb hw hx;obtain ⟨i,hi⟩: ∃i,i=x+hdN (rd ws x)+k:=⟨_,rfl⟩;obtain ⟨v,hv⟩: ∃v,v=rd ws i:=⟨_,rfl⟩;rw [←hi];have hi0:x<i∧i<ws.length:=by omega
 have hA:wordAt q (mmOf cs ws y t o cards W) (x+1) k=if ldB cs (rd ws x) k=true then (if v=0 then some true else (memory_has.f q (mmOf cs ws y t o cards W) v).bind fun h=>if h=true then cardOk (mmOf cs ws y t o cards W) (x+1) v i else some false) else impl_isWord.f v:=by
  unfold wordAt;rw [hfi,Option.bind_some,show (mmOf cs ws y t o cards W).words=ws from rfl,←hi,if_pos (by omega),hle k k0 k1,Option.bind_some,←hv]
 rw [hA];unfold Wd VOk;rw [←hv];by_cases l:ldB cs (rd ws x) k=true
 case neg=>
  rw [if_neg l,if_neg l]
  have hw8:impl_isWord.f v=some (decide (-128≤v∧v≤127)):=by
   unfold impl_isWord.f;by_cases q:v≥ -128
   ·rw [if_pos q];simp [show -128≤v from q]
   ·rw [if_neg q];simp [show¬ -128≤v from q]
  rw [hw8,Option.some.injEq,decide_eq_true_iff];exact ⟨fun h=>⟨h,fun e=>absurd e l⟩,fun h=>h.1⟩
 case pos=>
 rw [if_pos l,if_pos l];by_cases v0:v=0
 ·rw [if_pos v0]
  exact ⟨fun _=>⟨.inl v0,fun _ _ e=>by omega⟩,fun _=>rfl⟩
 rw [if_neg v0,has_eq hw _ rfl v q hq,Option.bind_some];by_cases vw:v - 1∈W
 case neg=>
  rw [decide_eq_false vw];exact ⟨fun h=>by simp at h,fun h=>absurd (h.1.resolve_left v0) vw⟩
 case pos=>
 have hvr:=wlk_range hw vw;rw [decide_eq_true vw,if_pos rfl]
 have hC:cardOk (mmOf cs ws y t o cards W) (x+1) v i=if x≥y then (if 1≤v∧v≤y then some (rdOf false cards ((i - y)/4)) else some true) else some true:=by
  unfold cardOk;show (if x+1>y then (if v>y then some true else (if 0≤wrap64 (Int.tdiv (wrap64 (i - y)) 4)∧wrap64 (Int.tdiv (wrap64 (i - y)) 4)<(cards.length:Int) then some (rdOf false cards (wrap64 (Int.tdiv (wrap64 (i - y)) 4))) else none)) else some true)=_
  by_cases z1:x≥y
  ·rw [if_pos (show x + 1 > y by omega), if_pos z1]
   by_cases z2:v>y
   ·rw [if_pos z2,if_neg (by omega)]
   ·rw [if_neg z2,if_pos (show 1≤v∧v≤y by omega),wrap64_of (n:=i - y) (by omega) (by omega),Int.tdiv_eq_ediv_of_nonneg (by omega),wrap64_of (n:=(i - y)/4) (by omega) (by omega),if_pos (by omega)]
  ·rw [if_neg (show¬x+1>y by omega),if_neg z1]
 rw [hC];by_cases z1:x≥y
 ·rw [if_pos z1]
  by_cases z2:1≤v∧v≤y
  ·rw [if_pos z2, Option.some.injEq]
   exact ⟨fun h=>⟨.inr vw,fun _ _ _ _=>h⟩,fun h=>h.2 l z1 z2.1 z2.2⟩
  ·rw [if_neg z2]
   exact ⟨fun _=>⟨.inr vw,fun _ _ a b=>absurd ⟨a,b⟩ z2⟩,fun _=>rfl⟩
 ·rw [if_neg z1]
  exact ⟨fun _=>⟨.inr vw,fun _ a=>absurd a z1⟩,fun _=>rfl⟩
theorem wordsl_iff (q:Nat) (m:Mm) (a n:Int): ∀(d:Nat) (k:Int) (j:Nat),0≤k→k+d=n→d+1≤j→(wordsOk.l q m a n j k=some true↔∀i,k≤i→i<n→wordAt q m a i=some true):=by
 intro d
 induction d with
 |zero=>
  intro k j h0 hd hj;obtain ⟨j,rfl⟩: ∃i,j=i+1:=⟨j - 1,by omega⟩;rw [wordsOk.l,if_neg (by omega)];exact ⟨fun _ i h1 h2=>by omega,fun _=>rfl⟩
 | succ d ih =>
  intro k j h0 hd hj;obtain ⟨j,rfl⟩: ∃i,j=i+1:=⟨j - 1,by omega⟩;rw [wordsOk.l,if_pos (by omega)];have ih:=ih (k+1) j (by omega) (by omega) (by omega)
  constructor
  ·intro h i h1 h2
   obtain ⟨b,hb,h⟩:=Option.bind_eq_some_iff.mp h
   cases b with
   |false=>simp at h
   |true=>
    rw [if_pos rfl] at h;rcases Int.lt_or_eq_of_le h1 with z|z
    ·exact ih.mp h i (by omega) h2
    ·rw [←z];exact hb
  ·intro h
   rw [h k (by omega) (by omega),Option.bind_some,if_pos rfl];exact ih.mpr (fun i h1 h2=>h i (by omega) h2)
theorem things_iff (q:Nat) (m:Mm): ∀L:List Int,thingsOk q m L=some true↔∀a∈L,wordsOk.f q m a=some true
 |[]=>by simp [thingsOk]
 | a :: r => by
  have ih:=things_iff q m r;rw [thingsOk]
  constructor
  ·intro h z hz
   obtain ⟨b,hb,h⟩:=Option.bind_eq_some_iff.mp h
   cases b with
   |false=>simp at h
   |true=>
    rw [if_pos rfl] at h;rcases List.mem_cons.mp hz with rfl|hz
    ·exact hb
    ·exact ih.mp h z hz
  ·intro h
   rw [h a (List.mem_cons_self ..),Option.bind_some,if_pos rfl];exact ih.mpr (fun z hz=>h z (List.mem_cons_of_mem _ hz))
theorem allw_iff {cs:Cs} {ws:List Int} {y t o:Int} {cards:List Bool} (hb:Bnd cs ws y t o cards) {W:List Int} (hw:Wlk cs ws W) (q:Nat) (hq:300≤q):
  thingsOk q (mmOf cs ws y t o cards W) (W.map (· +1))=some true↔∀x∈W,∀k,0≤k→k<szN cs ws x - hdN (rd ws x)→Wd cs ws y cards W x (x+hdN (rd ws x)+k) k:=by
 rw [things_iff]
 have one: ∀x∈W,wordsOk.f q (mmOf cs ws y t o cards W) (x+1)=some true↔∀k,0≤k→k<szN cs ws x - hdN (rd ws x)→Wd cs ws y cards W x (x+hdN (rd ws x)+k) k:=fun x hx=>by
  obtain ⟨h0,h1,h2,h3,h4,h5,_,hco,hfi,hle,_⟩:=thing_know (t:=t) (o:=o) (cards:=cards) hb hw hx;unfold wordsOk.f;rw [hco,Option.bind_some,if_pos (by omega),wordsl_iff q _ (x+1) _ (szN cs ws x - hdN (rd ws x)).toNat 0 _ (by omega) (by omega) (by omega)];exact ⟨fun h k k0 k1=>(word_iff hb hw hx k0 k1 q hq).mp (h k k0 k1),fun h k k0 k1=>(word_iff hb hw hx k0 k1 q hq).mpr (h k k0 k1)⟩
 constructor
 ·intro h x hx
  exact (one x hx).mp (h (x+1) (List.mem_map.mpr ⟨x,hx,rfl⟩))
 ·intro h a ha
  obtain ⟨x,hx,rfl⟩:=List.mem_map.mp ha;exact (one x hx).mpr (h x hx)
theorem Opn.wlk {cs:Cs} {ws:List Int} {y t o:Int} {cards:List Bool} {W:List Int} (h:Opn cs ws y t o cards W):Wlk cs ws W:=by
 have n0:=h.b.n0;have n1:=h.b.n1;have y0:=h.b.y0;have y1:=h.b.y1;have t0:=h.b.t0;have t1:=h.b.t1;have o0:=h.b.o0;have o1:=h.b.o1;have l1:=pw_len ws (allF cs) t t.toNat 0;have l2:=pw_len ws (allF cs) o (o - y).toNat y;have m1:=pw_mem ws (allF cs) t t.toNat 0;have m2:=pw_mem ws (allF cs) o (o - y).toNat y;have s1:=pw_sorted ws (allF cs) t t.toNat 0;have s2:=pw_sorted ws (allF cs) o (o - y).toNat y;rw [h.w];refine ⟨fun x hx=>?_,?_,by rw [List.length_append];omega⟩
 ·rcases List.mem_append.mp hx with z | z
  ·have:=m1 x z;exact ⟨t,by omega,by omega,by omega,by omega,by omega⟩
  ·have:=m2 x z;exact ⟨o,by omega,by omega,by omega,by omega,by omega⟩
 ·rw [List.pairwise_append]
  exact ⟨s1,s2,fun a ha b hb'=>by have:=m1 a ha;have:=m2 b hb';omega⟩
theorem Opn.to {cs:Cs} {ws:List Int} {y t o:Int} {cards:List Bool} {W:List Int} (h:Opn cs ws y t o cards W): ∀k,4000000≤k→mopen k k cs ws y t o cards=some (some (mmOf cs ws y t o cards W)):=by
 intro k hk;have n0:=h.b.n0;have n1:=h.b.n1;have y0:=h.b.y0;have y1:=h.b.y1;have t0:=h.b.t0;have t1:=h.b.t1;have o0:=h.b.o0;have o1:=h.b.o1;have cd:=h.b.cd;have l1:=pw_len ws (allF cs) t t.toNat 0;have l2:=pw_len ws (allF cs) o (o - y).toNat y;have hp:impl_partsOk.f ws y t o cards=some true:=(parts_zero h.b).mpr h.z
 have ht:=(allw_iff h.b h.wlk k (by omega)).mpr h.d;unfold mopen
 rw [impl_ClassesOk_eq cs k (by omega),h.b.ok,Option.bind_some,if_pos rfl,hp,Option.bind_some,if_pos rfl,allFields_eq h.b.ok k (by omega),Option.bind_some,if_pos ⟨allF_all h.b.ok,by omega,by omega⟩,
  pw_mwalk ws (allF cs) t t.toNat 0 [] k (by omega) (by omega),Option.bind_some,if_pos h.w1,if_pos (by simp;omega),pw_mwalk ws (allF cs) o (o - y).toNat y _ k (by omega) (by omega),Option.bind_some,if_pos h.w2,if_pos (by simp;omega)]
 simp only [List.nil_append,←List.map_append]
 rw [←h.w];unfold mmOf at ht ⊢;rw [ht];rfl
theorem opn_of {cs:Cs} (hf:fewF cs) {ws:List Int} {y t o:Int} {cards:List Bool} (hn:ws.length≤1048576) (hc:cards.length≤1048576):
  ∃r:Option Mm,(∀k,4000000≤k→mopen k k cs ws y t o cards=some r)∧(∀k,4000000≤k→spec_MemOk.f k cs ws y t o cards=some r.isSome)∧∀m,r=some m→∃W,Opn cs ws y t o cards W∧m=mmOf cs ws y t o cards W∧(∀k,4000000≤k→spec_l21Walk.f k cs ws y t o cards=some (W,true)):=by
 obtain ⟨r,h1,h2,h3⟩:=open_eq2 (cs:=cs) hf (ws:=ws) (y:=y) (t:=t) (o:=o) (cards:=cards) hn hc;refine ⟨r,h1,h2,fun m hm=>?_⟩;obtain ⟨W,hb,hw,hm2,hk,hp,hW,ht⟩:=h3 m hm;obtain ⟨e,p1,p2⟩:=walk_parts hb hk;refine ⟨W,⟨hb,?_,p1,p2,e,?_⟩,hm2,hk⟩
 ·refine (parts_zero hb).mp ?_
  obtain ⟨p,hp1,_,_⟩:=bounds_eq (cs:=cs) (y:=y) (t:=t) (o:=o) hf hb.ok hn hc
  cases p with
  |true=>exact hp1
  |false=>
   have q:=h1 4000000 (Nat.le_refl _);unfold mopen at q;rw [impl_ClassesOk_eq cs 4000000 (by omega),hb.ok,Option.bind_some,if_pos rfl,hp1,Option.bind_some,if_neg (by simp)] at q;rw [hm] at q;simp at q
 ·have := ht 300 (Nat.le_refl _)
  rw [hm2] at this;exact (allw_iff hb hw 300 (Nat.le_refl _)).mp this
end Go.Proofs.Ytnlieahdakafbaa.Pure
namespace Go.Proofs.Ytnlieahdakafbaa.K
open Go.RowKit Go.Proofs.YtnlieahdakafbaaW.PrintWords Go.Proofs.YtnlieahdakafbaaW.PrintLast Go.Proofs.YtnlieahdakafbaaW.PrintMore
attribute [local go_sem] max2_int min2_int max_two min_two max_three min_three max_four min_four
set_option linter.unusedVariables false
set_option linter.unusedSimpArgs false
def impl_MemOk.f (k:Nat) (l0:List (S112)) (l1_0:List Int) (a1_1:Int) (a1_2:Int) (a1_3:Int) (l1_4:List Bool):Option (Bool):=(mopen k k l0 l1_0 a1_1 a1_2 a1_3 l1_4).bind fun r=>some r.isSome
set_option maxHeartbeats 8000000 in
set_option maxRecDepth 100000 in
theorem impl_MemOk.calls (k:Nat) (A0:Option Addr) (c0:Nat) (l0:List (S112)) (A1_0:Option Addr) (c1_0:Nat) (l1_0:List Int) (a1_1:Int) (a1_2:Int) (a1_3:Int) (A1_4:Option Addr) (c1_4:Nat) (l1_4:List Bool) (r:Bool) (w:World) (hr0:Kd.C k112 w A0 l0.length l0) (hc0:l0.length≤c0) (hr1_0:Kd.C (Kd.int .i64) w A1_0 l1_0.length l1_0) (hc1_0:l1_0.length≤c1_0) (hr1_4:Kd.C Kd.bool w A1_4 l1_4.length l1_4) (hc1_4:l1_4.length≤c1_4) (h:impl_MemOk.f k l0 l1_0 a1_1 a1_2 a1_3 l1_4=some r):
  Calls Try.prog 24 #[.slice A0 l0.length c0,.agg #[.slice A1_0 l1_0.length c1_0,.int .i64 a1_1,.int .i64 a1_2,.int .i64 a1_3,.slice A1_4 l1_4.length c1_4]] w fun e w'=>e= .returned (.bool r)∧Below w.heap.size w w':=by
 unfold impl_MemOk.f at h;obtain ⟨m,hm,h⟩:=Option.bind_eq_some_iff.mp h;obtain rfl:=Option.some.inj h;have HM:=aK hm;have HR0:=aK hr0;have HC0:=aK hc0;have HR1:=aK hr1_0;have HC1:=aK hc1_0;have HR4:=aK hr1_4;have HC4:=aK hc1_4;have HB:=aK (below_alloc (Below.refl w.heap.size w) (.cells #[.slice A1_0 l1_0.length c1_0,.int .i64 a1_1,.int .i64 a1_2,.int .i64 a1_3,.slice A1_4 l1_4.length c1_4] 27 (0,0)));clear hr0 hc0 hr1_0 hc1_0 hr1_4 hc1_4 h hm;go_enter Try.func24,Try.ntmps24
 go_wp2_with fail
 go_at_call 35;refine (memOpen.calls k k A0 c0 l0 A1_0 c1_0 l1_0 a1_1 a1_2 a1_3 A1_4 c1_4 l1_4 m _ (Kd.C_below HR0.out HB.out) HC0.out (Kd.C_below HR1.out HB.out) HC1.out (Kd.C_below HR4.out HB.out) HC4.out HM.out).mono ?_
 cases m with
 |none=>
  rintro e w1 ⟨rfl,hb⟩;have HB1:=aK (below_step HB.out hb);clear hb HM;go_wp2;go_ret;exact ⟨rfl,HB1.out⟩
 |some m=>
  rintro e w1 ⟨g,rfl,hmo,hb⟩;have HB1:=aK (below_step HB.out hb);clear hb HM hmo;go_wp2;go_ret;exact ⟨rfl,HB1.out⟩
end Go.Proofs.Ytnlieahdakafbaa.K
namespace Go.Proofs.Ytnlieahdakafbaa.Pure
open Go.RowKit Go.Proofs.Ytnlieahdakafbaa.K Go.Proofs.YtnlieahdakafbaaW.PrintWords Go.Proofs.YtnlieahdakafbaaW.PrintLast Go.Proofs.YtnlieahdakafbaaW.PrintMore
set_option linter.unusedVariables false
set_option linter.unusedSimpArgs false
def Chn (sz:Int→Int) (e:Int):Int→List Int→Prop
  |i,[]=>i=e
  |i,x::r=>x=i∧Chn sz e (i+sz i) r
theorem pw_chn (ws:List Int) (F:List (List Int)) (e N:Int) (hN:e≤N): ∀(n:Nat) (i:Int),(e - i).toNat≤n→i≤e→(pw ws F e n i).2=true→Chn (mstep ws F N) e i (pw ws F e n i).1
 |0,i,h,hi,_=>by simp only [pw,Chn];omega
 | n + 1, i, h, hi, ht => by
  rw [pw] at ht ⊢;by_cases c:i<e
  ·rw [if_pos c] at ht ⊢
   by_cases c2:mstep ws F e i=0
   ·rw [if_pos c2] at ht;simp at ht
   ·rw [if_neg c2] at ht ⊢
    have hl:=mwalk_lt ws F e i;have hu:=mstep_up (ws:=ws) (F:=F) (e:=e) (x:=i) (by omega) hN;refine ⟨rfl,?_⟩;rw [hu];exact pw_chn ws F e N hN n (i+mstep ws F e i) (by omega) (by omega) ht
  ·rw [if_neg c];simp only [Chn];omega
theorem rd_set_ne {ws:List Int} {i j:Int} (v:Int) (hi:0≤i) (hj:0≤j) (h:j≠i):rd (ws.set i.toNat v) j=rd ws j:=by
  unfold rd;rw [List.getD_eq_getElem?_getD,List.getD_eq_getElem?_getD,List.getElem?_set_ne (by omega)]
theorem rd_set_eq {ws:List Int} {i:Int} (v:Int) (hi:0≤i) (h:i<ws.length):rd (ws.set i.toNat v) i=v:=by
  unfold rd;rw [List.getD_eq_getElem?_getD,List.getElem?_set_self (by omega)];rfl
theorem pw_congr {ws ws':List Int} {F:List (List Int)} {e:Int}: ∀(n:Nat) (i:Int),(∀x∈(pw ws F e n i).1,mstep ws' F e x=mstep ws F e x)→(pw ws F e n i).2=true→pw ws' F e n i=pw ws F e n i
 |0,i,_,_=>rfl
 | n + 1, i, hm, ht => by
  rw [pw] at hm ht ⊢;rw [pw];by_cases c:i<e
  ·rw [if_pos c] at hm ht ⊢
   rw [if_pos c];by_cases c2:mstep ws F e i=0
   ·rw [if_pos c2] at ht;simp at ht
   ·rw [if_neg c2] at hm ht ⊢
    have h0:=hm i (List.mem_cons_self ..);rw [h0,if_neg c2,pw_congr n (i+mstep ws F e i) (fun x hx=>hm x (List.mem_cons_of_mem _ hx)) ht]
  ·rw [if_neg c,if_neg c]
theorem chn_apart {sz:Int→Int} {e:Int}: ∀(L:List Int) (i:Int),Chn sz e i L→(∀x∈L,0<sz x)→(∀x∈L,i≤x)∧∀x∈L,∀z∈L,x<z→x+sz x≤z
 |[],_,_,_=>⟨by simp,by simp⟩
 | a :: r, i, ⟨ha, hr⟩, hp => by
  have h1:=hp a (List.mem_cons_self ..);obtain ⟨q1,q2⟩:=chn_apart r _ hr (fun x hx=>hp x (List.mem_cons_of_mem _ hx));subst ha;refine ⟨fun x hx=>?_,fun x hx z hz hxz=>?_⟩
  ·rcases List.mem_cons.mp hx with rfl | hx
   ·exact Int.le_refl _
   ·have:=q1 x hx;omega
  ·rcases List.mem_cons.mp hx with e | hx2
   ·rcases List.mem_cons.mp hz with e2 | hz2
    ·omega
    ·subst e;exact q1 z hz2
   ·rcases List.mem_cons.mp hz with e2 | hz2
    ·have:=q1 x hx2;omega
    ·exact q2 x hx2 z hz2 hxz
section
variable {cs:Cs} {ws:List Int} {y t o:Int} {cards:List Bool} {W:List Int}
theorem Opn.part (h:Opn cs ws y t o cards W) {x:Int} (hx:x∈W):(0≤x∧x+szN cs ws x≤t∧0<szN cs ws x∧x∈(pw ws (allF cs) t t.toNat 0).1)∨(y≤x∧x+szN cs ws x≤o∧0<szN cs ws x∧x∈(pw ws (allF cs) o (o - y).toNat y).1):=by
 have n0:=h.b.n0;have n1:=h.b.n1;have t1:=h.b.t1;have o1:=h.b.o1;have y1:=h.b.y1;rw [h.w] at hx;unfold szN;rcases List.mem_append.mp hx with z|z
 ·have m := pw_mem ws (allF cs) t t.toNat 0 x z
  rw [mstep_up m.2.2.1 (show t≤ws.length by omega)];exact .inl ⟨by omega,by omega,by omega,z⟩
 ·have m := pw_mem ws (allF cs) o (o - y).toNat y x z
  rw [mstep_up m.2.2.1 (show o≤ws.length by omega)];exact .inr ⟨by omega,by omega,by omega,z⟩
theorem Opn.apart (h:Opn cs ws y t o cards W) {x z:Int} (hx:x∈W) (hz:z∈W) (hxz:x<z):x+szN cs ws x≤z:=by
 have n0:=h.b.n0;have n1:=h.b.n1;have t0:=h.b.t0;have t1:=h.b.t1;have o0:=h.b.o0;have o1:=h.b.o1;have y1:=h.b.y1;have c1:=pw_chn ws (allF cs) t ws.length (by omega) t.toNat 0 (by omega) (by omega) h.w1;have c2:=pw_chn ws (allF cs) o ws.length (by omega) (o - y).toNat y (by omega) (by omega) h.w2;have pos: ∀x∈W,0<mstep ws (allF cs) ws.length x:=fun x hx=>by have:=h.part hx;unfold szN at this;omega
 have a1:=chn_apart _ _ c1 (fun x hx=>pos x (by rw [h.w];exact List.mem_append_left _ hx));have a2:=chn_apart _ _ c2 (fun x hx=>pos x (by rw [h.w];exact List.mem_append_right _ hx));rcases h.part hx with ⟨p1,p2,p3,p4⟩|⟨p1,p2,p3,p4⟩
 ·rcases h.part hz with ⟨q1, q2, q3, q4⟩ | ⟨q1, q2, q3, q4⟩
  ·exact a1.2 x p4 z q4 hxz
  ·omega
 ·rcases h.part hz with ⟨q1, q2, q3, q4⟩ | ⟨q1, q2, q3, q4⟩
  ·omega
  ·exact a2.2 x p4 z q4 hxz
theorem Opn.know (h:Opn cs ws y t o cards W) {x:Int} (hx:x∈W):0≤x∧x<ws.length∧0≤szN cs ws x - hdN (rd ws x)∧szN cs ws x - hdN (rd ws x)≤8∧x+szN cs ws x≤ws.length∧(hdN (rd ws x)=1∨hdN (rd ws x)=2)∧(rd ws x<0→hdN (rd ws x)=2):=by
  obtain ⟨a,b,c,d,e,f,g,_⟩:=thing_know h.b h.wlk hx;exact ⟨a,b,c,d,e,f,g⟩
theorem putM_card {i v:Int} {ref:Bool} (j:Int) (h:rdOf false cards j=true):rdOf false (putM ws y cards i v ref).2 j=true:=by
 unfold putM
 dsimp only
 split
 ·unfold rdOf at h ⊢
  rw [List.getD_eq_getElem?_getD] at h ⊢;rw [List.getElem?_set]
  split
  ·rename_i e
   split
   ·rfl
   ·rename_i q
    rw [←e,List.getElem?_eq_none (by omega)] at h;simp at h
  ·exact h
 ·exact h
theorem putM_len (i v:Int) (ref:Bool):(putM ws y cards i v ref).1.length=ws.length∧(putM ws y cards i v ref).2.length=cards.length:=by
 unfold putM;refine ⟨List.length_set,?_⟩
 dsimp only
 split
 ·exact List.length_set
 ·rfl
theorem put_keep (h : Opn cs ws y t o cards W) {x : Int} (hx : x ∈ W) {k : Int} (k0 : 0 ≤ k) (k1 : k < szN cs ws x - hdN (rd ws x)) {v : Int} (hv : VOk cs W (rd ws x) k v) {i : Int} (hi : i = x + hdN (rd ws x) + k) :
    Opn cs (putM ws y cards i v (ldB cs (rd ws x) k)).1 y t o (putM ws y cards i v (ldB cs (rd ws x) k)).2 W∧∀z∈W,rd (putM ws y cards i v (ldB cs (rd ws x) k)).1 z=rd ws z∧szN cs (putM ws y cards i v (ldB cs (rd ws x) k)).1 z=szN cs ws z:=by
  have n0:=h.b.n0;have n1:=h.b.n1;have y0:=h.b.y0;have y1:=h.b.y1;have t0:=h.b.t0;have t1:=h.b.t1;have o0:=h.b.o0;have o1:=h.b.o1;have cd:=h.b.cd;obtain ⟨x0,x1,c0,c8,xe,hh,hn2⟩:=h.know hx;have hl:=putM_len (ws:=ws) (y:=y) (cards:=cards) i v (ldB cs (rd ws x) k);have hcm:=fun j=>putM_card (ws:=ws) (y:=y) (cards:=cards) (i:=i) (v:=v) (ref:=ldB cs (rd ws x) k) j
  have hw1:(putM ws y cards i v (ldB cs (rd ws x) k)).1=ws.set i.toNat v:=rfl
  have hc2:ldB cs (rd ws x) k=true→x≥y→1≤v→v≤y→rdOf false (putM ws y cards i v (ldB cs (rd ws x) k)).2 ((i - y)/4)=true:=fun l zy v1 v2=>by
    unfold putM rdOf
    dsimp only
    rw [if_pos ⟨l,by omega,v1,v2⟩,List.getD_eq_getElem?_getD,List.getElem?_set_self (by omega)];rfl
  obtain ⟨ws',e1⟩: ∃z,z=(putM ws y cards i v (ldB cs (rd ws x) k)).1:=⟨_,rfl⟩;obtain ⟨cards',e2⟩: ∃z,z=(putM ws y cards i v (ldB cs (rd ws x) k)).2:=⟨_,rfl⟩;rw [←e1] at hl hw1 ⊢;rw [←e2] at hl hc2 ⊢;replace hcm: ∀j,rdOf false cards j=true→rdOf false cards' j=true:=fun j=>by rw [e2];exact hcm j
  clear e1 e2
  have ne: ∀z∈W,z≠i∧(rd ws z<0→z+1≠i):=fun z hz=>by
    obtain ⟨z0,z1,d0,d8,ze,hzh,hz2⟩:=h.know hz;rcases Int.lt_trichotomy x z with q|q|q
    · have:=h.apart hx hz q;omega
    · subst q;exact ⟨by omega,fun hn=>by have:=hz2 hn;omega⟩
    · have:=h.apart hz hx q;exact ⟨by omega,fun hn=>by have:=hz2 hn;omega⟩
  have r1: ∀z∈W,rd ws' z=rd ws z:=fun z hz=>by rw [hw1];exact rd_set_ne v (by omega) (h.know hz).1 (ne z hz).1
  have ms: ∀e z,z∈W→mstep ws' (allF cs) e z=mstep ws (allF cs) e z:=fun e z hz=>by
    unfold mstep;rw [r1 z hz];by_cases c:rd ws z<0
    · rw [if_pos c,if_pos c,hw1,rd_set_ne v (by omega) (by have:=(h.know hz).1;omega) ((ne z hz).2 c)]
    · rw [if_neg c,if_neg c]
  have hsz: ∀z∈W,szN cs ws' z=szN cs ws z:=fun z hz=>by unfold szN;rw [hl.1,ms _ z hz]
  have p1:=pw_congr (ws':=ws') t.toNat 0 (fun z hz=>ms t z (by rw [h.w];exact List.mem_append_left _ hz)) h.w1;have p2:=pw_congr (ws':=ws') (o - y).toNat y (fun z hz=>ms o z (by rw [h.w];exact List.mem_append_right _ hz)) h.w2;refine ⟨⟨⟨h.b.ok,y0,y1,by rw [hl.1];exact n0,by rw [hl.1];exact n1,t0,t1,o0,by rw [hl.1];exact o1,by rw [hl.1,hl.2];exact cd⟩,fun j hj z=>?_,by rw [p1];exact h.w1,by rw [p2];exact h.w2,by rw [p1,p2];exact h.w,fun z hz k' k0' k1'=>?_⟩,fun z hz=>⟨r1 z hz,hsz z hz⟩⟩
  · rw [hl.1] at hj
    have hp:=h.part hx;have:=h.z j hj z
    rw [hw1,List.getD_eq_getElem?_getD,List.getElem?_set_ne (by omega),←List.getD_eq_getElem?_getD];exact this
  · rw [hsz z hz, r1 z hz] at k1'
    rw [r1 z hz];have hd:=h.d z hz k' k0' k1';obtain ⟨z0,z1,d0,d8,ze,hzh,hz2⟩:=h.know hz;by_cases q:z=x∧k'=k
    · obtain ⟨q1, q2⟩ := q
      subst q1 q2;rw [←hi];unfold Wd;rw [r1 z hz,hw1,rd_set_eq v (by omega) (by omega)];exact ⟨hv,hc2⟩
    · have hne : z + hdN (rd ws z) + k' ≠ i := by
        rcases Int.lt_trichotomy x z with q2|q2|q2
        · have:=h.apart hx hz q2;omega
        · subst q2;intro e;exact q ⟨rfl,by omega⟩
        · have:=h.apart hz hx q2;omega
      unfold Wd at hd ⊢;rw [r1 z hz,hw1,rd_set_ne v (by omega) (by omega) hne];exact ⟨hd.1,fun l zy v1 v2=>hcm _ (hd.2 l zy v1 v2)⟩
def InT (cs:Cs) (ws:List Int) (W:List Int) (a k:Int):Prop:=a - 1∈W∧0≤k∧k<szN cs ws (a - 1) - hdN (rd ws (a - 1))
theorem hasin_eq (h:Opn cs ws y t o cards W) (a k:Int) (f:Nat) (hf:300≤f):(InT cs ws W a k→memory_hasIn.f f (mmOf cs ws y t o cards W) a k=some true)∧(¬InT cs ws W a k→memory_hasIn.f f (mmOf cs ws y t o cards W) a k=some false):=by
 have hh:=has_eq h.wlk (mmOf cs ws y t o cards W) rfl a f hf;unfold memory_hasIn.f;rw [hh,Option.bind_some];by_cases c:a - 1∈W
 case neg=>rw [decide_eq_false c];exact ⟨fun q=>absurd q.1 c,fun _=>rfl⟩
 obtain ⟨_,_,_,_,_,_,_,hco,_⟩:=thing_know (t:=t) (o:=o) (cards:=cards) h.b h.wlk c;rw [show a - 1+1=a by omega] at hco;rw [decide_eq_true c,if_pos rfl];by_cases z0:0≤k
 ·rw [if_pos z0, hco, Option.bind_some]
  exact ⟨fun q=>by rw [decide_eq_true q.2.2],fun q=>by rw [decide_eq_false (fun e=>q ⟨c,z0,e⟩)]⟩
 ·rw [if_neg z0]
  exact ⟨fun q=>absurd q.2.1 z0,fun _=>rfl⟩
theorem get_in (h:Opn cs ws y t o cards W) {a k:Int} (hi:InT cs ws W a k) (f:Nat) (hf:4000000≤f):impl_MemGet.f f cs ws y t o cards a k=some (rd ws (a - 1+hdN (rd ws (a - 1))+k),true):=by
 obtain ⟨x0,x1,c0,c8,xe,hh,hn2,hco,hfi,_⟩:=thing_know (t:=t) (o:=o) (cards:=cards) h.b h.wlk hi.1;rw [show a - 1+1=a by omega] at hfi;have:=hi.2
 unfold impl_MemGet.f;rw [h.to f hf,Option.bind_some];unfold getOf memory_get.f
 dsimp only
 rw [(hasin_eq h a k f (by omega)).1 hi,Option.bind_some,if_pos rfl,hfi,Option.bind_some,show (mmOf cs ws y t o cards W).words=ws from rfl,if_pos (by omega)];rfl
theorem get_out (h:Opn cs ws y t o cards W) {a k:Int} (hi: ¬InT cs ws W a k) (f:Nat) (hf:4000000≤f):impl_MemGet.f f cs ws y t o cards a k=some (0,false):=by
 unfold impl_MemGet.f;rw [h.to f hf,Option.bind_some];unfold getOf
 dsimp only
 rw [(hasin_eq h a k f (by omega)).2 hi];rfl
theorem put_in (h:Opn cs ws y t o cards W) {a k v:Int} (hi:InT cs ws W a k) (hv:VOk cs W (rd ws (a - 1)) k v) (f:Nat) (hf:4000000≤f):
  impl_MemPut.f f cs ws y t o cards a k v=some ((putM ws y cards (a - 1+hdN (rd ws (a - 1))+k) v (ldB cs (rd ws (a - 1)) k)).1,y,t,o,(putM ws y cards (a - 1+hdN (rd ws (a - 1))+k) v (ldB cs (rd ws (a - 1)) k)).2,true):=by
 have n0:=h.b.n0;have n1:=h.b.n1;have y0:=h.b.y0;have y1:=h.b.y1;have cd:=h.b.cd;obtain ⟨x0,x1,c0,c8,xe,hh,hn2,hco,hfi,hle,_⟩:=thing_know (t:=t) (o:=o) (cards:=cards) h.b h.wlk hi.1;rw [show a - 1+1=a by omega] at hfi hle;have hi2:=hi.2;obtain ⟨i,hii⟩: ∃i,i=a - 1+hdN (rd ws (a - 1))+k:=⟨_,rfl⟩;unfold impl_MemPut.f;rw [h.to f hf,Option.bind_some];unfold putOf
 dsimp only
 rw [(hasin_eq h a k f (by omega)).1 hi,Option.bind_some,if_pos rfl];unfold memory_put.f;rw [hfi,Option.bind_some,hle k hi2.1 hi2.2,Option.bind_some,show (mmOf cs ws y t o cards W).words=ws from rfl,show (mmOf cs ws y t o cards W).young=y from rfl,show (mmOf cs ws y t o cards W).cards=cards from rfl,←hii,if_pos (by omega)];unfold VOk at hv;by_cases l:ldB cs (rd ws (a - 1)) k=true
 ·rw [if_pos l] at hv ⊢
  by_cases v0:v=0
  ·rw [if_pos v0, Option.bind_some, if_pos rfl]
   unfold Mm.setW putM mmOf
   dsimp only
   rw [if_neg (by omega)]
  ·have vw := hv.resolve_left v0
   have hvr:=wlk_range h.wlk vw;rw [if_neg v0,has_eq h.wlk _ rfl v f (by omega),Option.bind_some,decide_eq_true vw,if_pos rfl];by_cases g1:a>y
   ·rw [if_pos g1]
    by_cases g2:v>y
    ·rw [if_pos g2, Option.bind_some, if_pos rfl]
     unfold Mm.setW putM mmOf
     dsimp only
     rw [if_neg (by omega)]
    ·rw [if_neg g2, Int.tdiv_eq_ediv_of_nonneg (by omega), if_pos (by omega), Option.bind_some, if_pos rfl]
     unfold Mm.setW Mm.setC putM mmOf
     dsimp only
     rw [if_pos ⟨l,by omega,by omega,by omega⟩]
   ·have hp := h.part hi.1
    have t1:=h.b.t1;rw [if_neg g1,Option.bind_some,if_pos rfl];unfold Mm.setW putM mmOf
    dsimp only
    rw [if_neg (by omega)]
 ·rw [if_neg l] at hv ⊢
  have hw8:impl_isWord.f v=some true:=by
   unfold impl_isWord.f;rw [if_pos (show v≥ -128 from hv.1)];simp [hv.2]
  rw [hw8,Option.bind_some,if_pos rfl,Option.bind_some,if_pos rfl];unfold Mm.setW putM mmOf
  dsimp only
  rw [if_neg (fun q=>l q.1)]
theorem put_out (h:Opn cs ws y t o cards W) {a k v:Int} (hi: ¬(InT cs ws W a k∧VOk cs W (rd ws (a - 1)) k v)) (f:Nat) (hf:4000000≤f):
  impl_MemPut.f f cs ws y t o cards a k v=some ([],0,0,0,[],false):=by
 have n0:=h.b.n0;have n1:=h.b.n1;have y0:=h.b.y0;have y1:=h.b.y1;have cd:=h.b.cd;unfold impl_MemPut.f;rw [h.to f hf,Option.bind_some];unfold putOf
 dsimp only
 by_cases c:InT cs ws W a k
 case neg=>rw [(hasin_eq h a k f (by omega)).2 c];rfl
 have hv: ¬VOk cs W (rd ws (a - 1)) k v:=fun q=>hi ⟨c,q⟩
 obtain ⟨x0,x1,c0,c8,xe,hh,hn2,hco,hfi,hle,_⟩:=thing_know (t:=t) (o:=o) (cards:=cards) h.b h.wlk c.1;rw [show a - 1+1=a by omega] at hfi hle;have hi2:=c.2;rw [(hasin_eq h a k f (by omega)).1 c,Option.bind_some,if_pos rfl];unfold memory_put.f;rw [hfi,Option.bind_some,hle k hi2.1 hi2.2,Option.bind_some,show (mmOf cs ws y t o cards W).words=ws from rfl,show (mmOf cs ws y t o cards W).young=y from rfl,show (mmOf cs ws y t o cards W).cards=cards from rfl,if_pos (by omega)];unfold VOk at hv;by_cases l:ldB cs (rd ws (a - 1)) k=true
 ·rw [if_pos l] at hv ⊢
  rw [if_neg (fun e=>hv (.inl e)),has_eq h.wlk _ rfl v f (by omega),Option.bind_some,decide_eq_false (fun e=>hv (.inr e))];rfl
 ·rw [if_neg l] at hv ⊢
  have hw8:impl_isWord.f v=some false:=by
   unfold impl_isWord.f;by_cases q:v≥ -128
   ·rw [if_pos q];simp [show¬v≤127 from fun e=>hv ⟨q,e⟩]
   ·rw [if_neg q]
  rw [hw8];rfl
theorem walk_imp (h:Opn cs ws y t o cards W) (f:Nat) (hf:4000000≤f):impl_MemWalk.f f cs ws y t o cards=some (W.map (· +1)):=by
  unfold impl_MemWalk.f;rw [h.to f hf,Option.bind_some];rfl
theorem ok_imp (h:Opn cs ws y t o cards W) (f:Nat) (hf:4000000≤f):impl_MemOk.f f cs ws y t o cards=some true:=by
  unfold impl_MemOk.f;rw [h.to f hf,Option.bind_some];rfl
end
theorem put_yes {cs:Cs} {ws:List Int} {y t o:Int} {cards:List Bool} {W:List Int} (h:Opn cs ws y t o cards W) {a k v:Int} {p:List Int×Int×Int×Int×List Bool×Bool} (hp:impl_MemPut.f 5000000 cs ws y t o cards a k v=some p) (ht:p.2.2.2.2.2=true):
  InT cs ws W a k∧VOk cs W (rd ws (a - 1)) k v∧p=((putM ws y cards (a - 1+hdN (rd ws (a - 1))+k) v (ldB cs (rd ws (a - 1)) k)).1,y,t,o,(putM ws y cards (a - 1+hdN (rd ws (a - 1))+k) v (ldB cs (rd ws (a - 1)) k)).2,true):=by
 by_cases c:InT cs ws W a k∧VOk cs W (rd ws (a - 1)) k v
 ·have := put_in h c.1 c.2 5000000 (by decide)
  rw [this] at hp;exact ⟨c.1,c.2,(Option.some.inj hp).symm⟩
 ·have := put_out h c 5000000 (by decide)
  rw [this] at hp;rw [←Option.some.inj hp] at ht;simp at ht
theorem putwalk_eq {cs:Cs} (hf:fewF cs) {ws:List Int} {y t o:Int} {cards:List Bool} (hn:ws.length≤1000) (hc:cards.length≤1000) (a b v:Int):
  ∃ (p1 : List Int) (p2 p3 p4 : Int) (p5 : List Bool) (p6 : Bool), impl_MemPut.f 5000000 cs ws y t o cards a b v = some (p1, p2, p3, p4, p5, p6) ∧ spec_MemPut.f 5000000 cs ws y t o cards a b v = some (p1, p2, p3, p4, p5, p6) ∧ laws_leMem.f 5000000 p1 p2 p3 p4 p5 p1 p2 p3 p4 p5 = some true ∧
   (p6 = true → p3 = t ∧ p4 = o ∧ ∃ (bf : Int) (q2 q3 q4 : Int) (q5 : List Bool) (s : List Int), impl_MemGet.f 5000000 cs ws y t o cards a b = some (bf, true) ∧ impl_MemPut.f 5000000 cs p1 p2 p3 p4 p5 a b bf = some (ws, q2, q3, q4, q5, true) ∧
    impl_MemWalk.f 5000000 cs ws y t o cards=some s∧impl_MemWalk.f 5000000 cs p1 p2 p3 p4 p5=some s∧laws_leInts.f 5000000 ws ws=some true∧laws_leInts.f 5000000 s s=some true):=by
 obtain ⟨⟨p1,p2,p3,p4,p5,p6⟩,l1,l5,e1,e2⟩:=MemPut_eq (cs:=cs) hf (ws:=ws) (y:=y) (t:=t) (o:=o) (cards:=cards) (by omega) (by omega) a b v;obtain ⟨r,h1,h2,h3⟩:=opn_of (cs:=cs) hf (ws:=ws) (y:=y) (t:=t) (o:=o) (cards:=cards) (by omega) (by omega);dsimp only at l1 l5;refine ⟨p1,p2,p3,p4,p5,p6,e1 5000000 (by decide),e2 5000000 (by decide),leMem_at p1 p2 p3 p4 p5 l1 l5 5000000 (by decide),fun hp6=>?_⟩
 cases r with
 |none=>
  have:=e1 5000000 (by decide)
  unfold impl_MemPut.f at this;rw [h1 5000000 (by decide)] at this;simp only [Option.bind_some,putOf,Option.some.injEq,Prod.mk.injEq] at this;rw [hp6] at this;simp at this
 | some m =>
  obtain ⟨W,h,hm,hk⟩:=h3 m rfl;obtain ⟨hi,hv,hp⟩:=put_yes h (e1 5000000 (by decide)) hp6;simp only [Prod.mk.injEq] at hp;obtain ⟨r1,r2,r3,r4,r5,_⟩:=hp;obtain ⟨i,hii⟩: ∃i,i=a - 1+hdN (rd ws (a - 1))+b:=⟨_,rfl⟩;rw [←hii] at r1 r5;obtain ⟨K,hK⟩:=put_keep h hi.1 hi.2.1 hi.2.2 hv hii;obtain ⟨x0,x1,c0,c8,xe,hh,hn2⟩:=h.know hi.1;have hK1:=hK (a - 1) hi.1;rw [←r1,←r5] at K;rw [←r1] at hK1;subst r2 r3 r4;have hi':InT cs p1 W a b:=⟨hi.1,hi.2.1,by rw [hK1.1,hK1.2];exact hi.2.2⟩
  have hw:=h.d (a - 1) hi.1 b hi.2.1 hi.2.2;rw [←hii] at hw;have hv':VOk cs W (rd p1 (a - 1)) b (rd ws i):=by rw [hK1.1];exact hw.1
  have hP:=put_in K hi' hv' 5000000 (by decide);rw [hK1.1,←hii] at hP
  have hb1:(putM p1 p2 p5 i (rd ws i) (ldB cs (rd ws (a - 1)) b)).1=ws:=by
   have q:p1=ws.set i.toNat v:=r1
   show p1.set i.toNat (rd ws i)=ws
   rw [q,List.set_set];refine List.ext_getElem (by rw [List.length_set]) (fun j h1 h2=>?_);rw [List.getElem_set]
   split
   ·rename_i e
    unfold rd;rw [List.getD_eq_getElem?_getD,List.getElem?_eq_getElem (by omega)];simp only [Option.getD_some,e]
   ·rfl
  rw [hb1] at hP;have hG:=get_in h hi 5000000 (by decide);rw [←hii] at hG;have hwl:(W.map (· +1)).length≤200:=by rw [List.length_map];exact h.wlk.len
  exact ⟨rfl,rfl,rd ws i,_,_,_,_,W.map (· +1),hG,hP,walk_imp h 5000000 (by decide),walk_imp K 5000000 (by decide),leInts_self ws (by omega) 5000000 (by decide),leInts_self _ (by omega) 5000000 (by decide)⟩
end Go.Proofs.Ytnlieahdakafbaa.Pure
