import Derived.Test.YtnlieahdakafbaaPd24
import Derived.Test.YtnlieahdakafbaaPd32
import Derived.Test.YtnlieahdakafbaaPd34
import Derived.Test.YtnlieahdakafbaaPd30
import Derived.Test.YtnlieahdakafbaaPd27
import Derived.Test.YtnlieahdakafbaaPd31
import Derived.Test.YtnlieahdakafbaaPd33
import Derived.Test.YtnlieahdakafbaaPd25
import Derived.Test.YtnlieahdakafbaaPd26
import Derived.Deep.CutRange
namespace Go.Proofs.Ytnlieahdakafbaa.Pure
open Go.RowKit Go.Proofs.Ytnlieahdakafbaa.K Go.Proofs.YtnlieahdakafbaaW.PrintWords Go.Proofs.YtnlieahdakafbaaW.PrintLast Go.Proofs.YtnlieahdakafbaaW.PrintMore
set_option linter.unusedVariables false
set_option linter.unusedSimpArgs false
theorem all_drop_iff (l:List Int) (T:Nat):(l.drop T).all (· ==0)=true↔∀j:Nat,T≤j→j<l.length→l.getD j 0=0:=by
 rw [List.all_eq_true]
 constructor
 ·intro h j h1 h2
  have hm:l[j]∈l.drop T:=by
   rw [List.mem_iff_getElem];refine ⟨j - T,by rw [List.length_drop];omega,?_⟩;simp only [List.getElem_drop,show T+(j - T)=j by omega]
  have:=h _ hm
  rw [List.getD_eq_getElem?_getD,List.getElem?_eq_getElem h2]
  simpa using this
 ·intro h x hx
  obtain ⟨i,hi,rfl⟩:=List.getElem_of_mem hx;rw [List.length_drop] at hi;have:=h (T+i) (by omega) (by omega)
  rw [List.getD_eq_getElem?_getD,List.getElem?_eq_getElem (by omega)] at this;rw [List.getElem_drop]
  simpa using this
def Zr (ws:List Int) (y t o:Int) (i:Nat):Prop:=((t≤i∧(i:Int)≤y - 1)∨(i:Int)≥o)→ws.getD i 0=0
theorem bounds_l0 {ws:List Int} {y t o:Int} {cards:List Bool} (hn:ws.length≤1048576) (hy:0≤y) (hy2:y≤40) (d:Nat): ∀(k i:Nat),i+d=ws.length→d<k→∃b,spec_l21Bounds.l0 k ws.length i ws y t o cards=some b∧(b=true↔∀j:Nat,i≤j→j<ws.length→Zr ws y t o j):=by
 induction d with
 |zero=>
  intro k i hi hk;obtain ⟨k,rfl⟩: ∃m,k=m+1:=⟨k - 1,by omega⟩;refine ⟨true,by rw [spec_l21Bounds.l0,if_neg (by omega)],by simp only [true_iff];intro j h1 h2;omega⟩
 | succ d ih =>
  intro k i hi hk;obtain ⟨k,rfl⟩: ∃m,k=m+1:=⟨k - 1,by omega⟩;have hlt:i<ws.length:=by omega
  obtain ⟨b,h1,h2⟩:=ih k (i+1) (by omega) (by omega);rw [show ((i+1:Nat):Int)=wrap64 ((i:Int)+1) by rw [wrap_inc (n:=1048577) (by omega) (by omega) (by omega)];omega] at h1;have w:wrap64 (y - 1)=y - 1:=wrap64_of (by omega) (by omega)
  by_cases z:Zr ws y t o i
  ·refine ⟨b, ?_, h2.trans ⟨fun h j h3 h4 => ?_, fun h j h3 h4 => h j (by omega) h4⟩⟩
   ·rw [spec_l21Bounds.l0, if_pos (by omega), spec_l6In_eq, w]
    simp only [Option.bind_some,decide_eq_true_eq]
    by_cases c1:t≤(i:Int)∧(i:Int)≤y - 1
    ·rw [if_pos c1, if_pos (by omega), if_pos (by omega), rd_cast, if_pos (z (Or.inl c1))]
     exact h1
    ·rw [if_neg c1]
     by_cases c2:(i:Int)≥o
     ·rw [if_pos c2, if_pos (by omega), if_pos (by omega), rd_cast, if_pos (z (Or.inr c2))]
      exact h1
     ·rw [if_neg c2]
      exact h1
   ·rcases Nat.eq_or_lt_of_le h3 with q | q
    ·subst q;exact z
    ·exact h j (by omega) h4
  ·refine ⟨false, ?_, by constructor; intro h; simp at h; intro h; exact absurd (h i (Nat.le_refl _) hlt) z⟩
   have z2:((t≤(i:Int)∧(i:Int)≤y - 1)∨(i:Int)≥o)∧¬ws.getD i 0=0:=by
    unfold Zr at z;exact ⟨Classical.byContradiction fun q=>z (fun p=>absurd p q),fun q=>z (fun _=>q)⟩
   rw [spec_l21Bounds.l0,if_pos (by omega),spec_l6In_eq,w];simp only [Option.bind_some,decide_eq_true_eq]
   by_cases c1:t≤(i:Int)∧(i:Int)≤y - 1
   ·rw [if_pos c1,if_pos (by omega),if_pos (by omega),rd_cast,if_neg z2.2]
   ·rw [if_neg c1,if_pos (z2.1.resolve_left c1),if_pos (by omega),if_pos (by omega),rd_cast,if_neg z2.2]
theorem bounds_eq {cs:Cs} (hf:fewF cs) (hok:csOk cs=true) {ws:List Int} {y t o:Int} {cards:List Bool} (hn:ws.length≤1048576) (hc:cards.length≤1048576):
    ∃p,impl_partsOk.f ws y t o cards=some p∧(∀k,4000000≤k→spec_l21Bounds.f k cs ws y t o cards=some p)∧(p=true→Bnd cs ws y t o cards):=by
  have bad: ∀k,1≤k→spec_l21Bounds.j0 k ws.length true ws y t o cards=some false:=fun k hk=>by
    obtain ⟨k,rfl⟩: ∃m,k=m+1:=⟨k - 1,by omega⟩;rw [spec_l21Bounds.j0,if_pos rfl]
  have hp:impl_partsOk.f ws y t o cards=some (pOk ws y t o cards 0&&pOk ws y t o cards 1&&pOk ws y t o cards 2&&pOk ws y t o cards 3&&pOk ws y t o cards 4&&pOk ws y t o cards 5&&pOk ws y t o cards 6):=by
    unfold impl_partsOk.f;rw [if_pos (by omega)]
  rw [hp]
  have hs: ∀k,4000000≤k→spec_l21Bounds.f k cs ws y t o cards=if 0≤y∧y≤40 then (if 14≤wrap64 ((ws.length:Int) - y)∧wrap64 ((ws.length:Int) - y)≤120 then (if 0≤t∧t≤y then (if y≤o∧o≤ws.length then spec_l21Bounds.j0 k ws.length ((cards.length:Int) !=cardsN (wrap64 ((ws.length:Int) - y))) ws y t o cards else some false) else some false) else some false) else some false:=fun k hk=>by
    unfold spec_l21Bounds.f;rw [spec_ClassesOk_eq hf k (by omega),hok];simp only [Option.bind_some,if_true,spec_l6In_eq,decide_eq_true_eq,bad k (by omega)]
    rfl
  by_cases c0:0≤y∧y≤40
  case neg=>
    refine ⟨_,rfl,fun k hk=>?_,fun h=>?_⟩
    · rw [hs k hk,if_neg c0,show pOk ws y t o cards 0=false from decide_eq_false c0];rfl
    · rw [show pOk ws y t o cards 0=false from decide_eq_false c0] at h;simp at h
  case pos=>
  have e0:pOk ws y t o cards 0=true:=decide_eq_true c0
  have w:wrap64 ((ws.length:Int) - y)=(ws.length:Int) - y:=wrap64_of (by omega) (by omega)
  rw [e0,Bool.true_and];by_cases c1:14≤wrap64 ((ws.length:Int) - y)∧wrap64 ((ws.length:Int) - y)≤120
  case neg=>
    refine ⟨_,rfl,fun k hk=>?_,fun h=>?_⟩
    · rw [hs k hk,if_pos c0,if_neg c1,show pOk ws y t o cards 1=false from decide_eq_false c1];rfl
    · rw [show pOk ws y t o cards 1=false from decide_eq_false c1] at h;simp at h
  case pos=>
  have e1:pOk ws y t o cards 1=true:=decide_eq_true c1
  rw [e1,Bool.true_and];by_cases c2:0≤t∧t≤y
  case neg=>
    refine ⟨_,rfl,fun k hk=>?_,fun h=>?_⟩
    · rw [hs k hk,if_pos c0,if_pos c1,if_neg c2,show pOk ws y t o cards 2=false from decide_eq_false c2];rfl
    · rw [show pOk ws y t o cards 2=false from decide_eq_false c2] at h;simp at h
  case pos=>
  have e2:pOk ws y t o cards 2=true:=decide_eq_true c2
  rw [e2,Bool.true_and];by_cases c3:y≤o∧o≤(ws.length:Int)
  case neg=>
    refine ⟨_,rfl,fun k hk=>?_,fun h=>?_⟩
    · rw [hs k hk,if_pos c0,if_pos c1,if_pos c2,if_neg c3,show pOk ws y t o cards 3=false from decide_eq_false c3];rfl
    · rw [show pOk ws y t o cards 3=false from decide_eq_false c3] at h;simp at h
  case pos=>
  have e3:pOk ws y t o cards 3=true:=decide_eq_true c3
  rw [e3,Bool.true_and];by_cases c4:(cards.length:Int)=cardsN (wrap64 ((ws.length:Int) - y))
  case neg=>
    have e4:pOk ws y t o cards 4=false:=beq_eq_false_iff_ne.mpr c4
    refine ⟨_,rfl,fun k hk=>?_,fun h=>?_⟩
    · rw [hs k hk,if_pos c0,if_pos c1,if_pos c2,if_pos c3,bne_iff_ne.mpr c4,bad k (by omega),e4];rfl
    · rw [e4] at h;simp at h
  case pos=>
  have e4:pOk ws y t o cards 4=true:=beq_iff_eq.mpr c4
  rw [e4,Bool.true_and]
  have h5:pOk ws y t o cards 5=true↔∀j:Nat,t≤j→(j:Int)≤y - 1→ws.getD j 0=0:=by
    show ((ws.take y.toNat).drop t.toNat).all (· ==0)=true↔_
    rw [all_drop_iff]
    constructor
    · intro h j h1 h2
      have:=h j (by omega) (by rw [List.length_take];omega)
      rw [List.getD_eq_getElem?_getD,List.getElem?_take,if_pos (by omega)] at this;rw [List.getD_eq_getElem?_getD];exact this
    · intro h j h1 h2
      rw [List.length_take] at h2;rw [List.getD_eq_getElem?_getD,List.getElem?_take,if_pos (by omega)];have:=h j (by omega) (by omega)
      rw [List.getD_eq_getElem?_getD] at this;exact this
  have h6:pOk ws y t o cards 6=true↔∀j:Nat,o≤j→j<ws.length→ws.getD j 0=0:=by
    show ((ws.drop y.toNat).drop (o - y).toNat).all (· ==0)=true↔_
    rw [List.drop_drop,all_drop_iff]
    constructor
    · intro h j h1 h2;exact h j (by omega) h2
    · intro h j h1 h2;exact h j (by omega) h2
  obtain ⟨b,hb1,hb2⟩:=bounds_l0 (ws:=ws) (y:=y) (t:=t) (o:=o) (cards:=cards) hn c0.1 c0.2 ws.length (ws.length+1) 0 (by omega) (by omega)
  have eb:(pOk ws y t o cards 5&&pOk ws y t o cards 6)=b:=by
    rw [Bool.eq_iff_iff,Bool.and_eq_true,h5,h6,hb2]
    constructor
    · rintro ⟨q1, q2⟩ j _ hj z
      rcases z with z|z
      · exact q1 j z.1 z.2
      · exact q2 j z hj
    · intro q
      exact ⟨fun j h1 h2=>q j (by omega) (by omega) (Or.inl ⟨h1,h2⟩),fun j h1 h2=>q j (by omega) h2 (Or.inr h1)⟩
  refine ⟨_,rfl,fun k hk=>?_,fun _=>?_⟩
  · rw [hs k hk, if_pos c0, if_pos c1, if_pos c2, if_pos c3, eb]
    obtain ⟨k,rfl⟩: ∃m,k=m+1:=⟨k - 1,by omega⟩;have e:((cards.length:Int) !=cardsN (wrap64 ((ws.length:Int) - y)))=false:=by rw [←c4];simp
    rw [e,spec_l21Bounds.j0,if_neg (by simp)];exact at_rounds (g:=fun k=>spec_l21Bounds.l0 k ws.length 0 ws y t o cards) (fun k=>(spec_l21Bounds.mono_l k).2 _ _ _ _ _ _ _) (show ws.length+1≤k by omega) hb1
  · have w4 : cardsN (wrap64 ((ws.length : Int) - y)) = ((ws.length : Int) - y + 3) / 4 := by
      rw [w] at c1 ⊢;unfold cardsN;rw [wrap64_of (n:=(ws.length:Int) - y+4) (by omega) (by omega),wrap64_of (n:=(ws.length:Int) - y+4 - 1) (by omega) (by omega),Int.tdiv_eq_ediv_of_nonneg (by omega),show (ws.length:Int) - y+4 - 1=(ws.length:Int) - y+3 by omega,wrap64_of (by omega) (by omega)]
    rw [w] at c1;exact ⟨hok,c0.1,c0.2,c1.1,c1.2,c2.1,c2.2,c3.1,c3.2,by rw [c4,w4]⟩
theorem things_eq {cs:Cs} {ws:List Int} {y t o:Int} {cards:List Bool} (hb:Bnd cs ws y t o cards) {W:List Int} (hw:Wlk cs ws W) (m:Mm) (hm:m=⟨ws,y,t,o,cards,allF cs,W.map (· +1)⟩):
  ∃b,(∀q,300≤q→thingsOk q m (W.map (· +1))=some b)∧∀k,500≤k→spec_MemOk.l0 k cs W (startsL W ws.length) 0 ws y t o cards=some b:=by
 have hlen:=hw.len
 have key: ∀d i:Nat,i+d=W.length→∃b,(∀q,300≤q→thingsOk q m ((W.drop i).map (· +1))=some b)∧∀k,d+201≤k→spec_MemOk.l0 k cs W (startsL W ws.length) i ws y t o cards=some b:=by
  intro d
  induction d with
  |zero=>
   intro i hi;refine ⟨true,fun q _=>by rw [List.drop_eq_nil_of_le (by omega)];rfl,fun k hk=>?_⟩;obtain ⟨k,rfl⟩: ∃m,k=m+1:=⟨k - 1,by omega⟩;rw [spec_MemOk.l0,if_neg (by omega)]
  | succ d ih =>
   intro i hi;have hlt:i<W.length:=by omega
   obtain ⟨b,h1,h2⟩:=thing_eq hb hw m hm (List.getElem_mem hlt);obtain ⟨b',h3,h4⟩:=ih (i+1) (by omega);have hd:(W.drop i).map (· +1)=(W[i]+1)::(W.drop (i+1)).map (· +1):=by rw [List.drop_eq_getElem_cons hlt];rfl
   refine ⟨if b=true then b' else false,fun q hq=>?_,fun k hk=>?_⟩
   ·rw [hd, thingsOk, h1 q hq, Option.bind_some]
    cases b with
    |true=>exact h3 q hq
    |false=>rfl
   ·obtain ⟨k, rfl⟩ : ∃ m, k = m + 1 := ⟨k - 1, by omega⟩
    rw [spec_MemOk.l0,if_pos (by omega),if_pos (by omega),rd_mem hlt,h2 k (by omega),Option.bind_some,wrap_inc (n:=1048577) (by omega) (by omega) (by omega)]
    cases b with
    |true=>have:=h4 k (by omega);rw [show ((i+1:Nat):Int)=(i:Int)+1 by omega] at this;exact this
    |false=>rfl
 obtain ⟨b,h1,h2⟩:=key W.length 0 (by omega);exact ⟨b,h1,fun k hk=>h2 k (by omega)⟩
def Prt (cs:Cs) (ws:List Int) (y t o:Int) (W:List Int):Prop:= ∀x∈W,(0≤x∧0<mstep ws (allF cs) t x∧mstep ws (allF cs) t x≤t - x)∨(y≤x∧0<mstep ws (allF cs) o x∧mstep ws (allF cs) o x≤o - x)
theorem open_eq2 {cs:Cs} (hf:fewF cs) {ws:List Int} {y t o:Int} {cards:List Bool} (hn:ws.length≤1048576) (hc:cards.length≤1048576):
  ∃r:Option Mm,(∀k,4000000≤k→mopen k k cs ws y t o cards=some r)∧(∀k,4000000≤k→spec_MemOk.f k cs ws y t o cards=some r.isSome)∧
   (∀m,r=some m→∃W,Bnd cs ws y t o cards∧Wlk cs ws W∧m=⟨ws,y,t,o,cards,allF cs,W.map (· +1)⟩∧(∀k,4000000≤k→spec_l21Walk.f k cs ws y t o cards=some (W,true))∧Prt cs ws y t o W∧W=(pw ws (allF cs) t t.toNat 0).1++(pw ws (allF cs) o (o - y).toNat y).1∧∀q,300≤q→thingsOk q m (W.map (· +1))=some true):=by
 cases hok:csOk cs with
 | false =>
  refine ⟨none,fun k hk=>?_,fun k hk=>?_,fun m hm=>by cases hm⟩
  ·unfold mopen
   rw [impl_ClassesOk_eq cs k (by omega),hok];rfl
  ·unfold spec_MemOk.f spec_l21Bounds.f
   rw [spec_ClassesOk_eq hf k (by omega),hok];obtain ⟨k,rfl⟩: ∃m,k=m+1:=⟨k - 1,by omega⟩;rw [Option.bind_some,if_neg (by simp),spec_l21Bounds.j0,if_pos rfl];rfl
 |true=>
 obtain ⟨p,hp1,hp2,hp3⟩:=bounds_eq (cs:=cs) (y:=y) (t:=t) (o:=o) hf hok hn hc
 cases p with
 | false =>
  refine ⟨none,fun k hk=>?_,fun k hk=>?_,fun m hm=>by cases hm⟩
  ·unfold mopen
   rw [impl_ClassesOk_eq cs k (by omega),hok,Option.bind_some,if_pos rfl,hp1];rfl
  ·unfold spec_MemOk.f
   rw [hp2 k hk];rfl
 |true=>
 have hb:=hp3 rfl;have n0:=hb.n0;have n1:=hb.n1;have y0:=hb.y0;have y1:=hb.y1;have t0:=hb.t0;have t1:=hb.t1;have o0:=hb.o0;have o1:=hb.o1;obtain ⟨r1,h1⟩: ∃r1,r1=pw ws (allF cs) t t.toNat 0:=⟨_,rfl⟩;obtain ⟨r2,h2⟩: ∃r2,r2=pw ws (allF cs) o (o - y).toNat y:=⟨_,rfl⟩;have l1:=pw_len ws (allF cs) t t.toNat 0;have l2:=pw_len ws (allF cs) o (o - y).toNat y;have m1:=pw_mem ws (allF cs) t t.toNat 0;have m2:=pw_mem ws (allF cs) o (o - y).toNat y;have s1:=pw_sorted ws (allF cs) t t.toNat 0;have s2:=pw_sorted ws (allF cs) o (o - y).toNat y;rw [←h1] at l1 m1 s1;rw [←h2] at l2 m2 s2
 have hM: ∀k,4000000≤k→mopen k k cs ws y t o cards=if r1.2=true then (if r2.2=true then (thingsOk k ⟨ws,y,t,o,cards,allF cs,(r1.1++r2.1).map (· +1)⟩ ((r1.1++r2.1).map (· +1))).bind fun ok=>if ok=true then some (some ⟨ws,y,t,o,cards,allF cs,(r1.1++r2.1).map (· +1)⟩) else some none else some none) else some none:=fun k hk=>by
  unfold mopen
  rw [impl_ClassesOk_eq cs k (by omega),hok,Option.bind_some,if_pos rfl,hp1,Option.bind_some,if_pos rfl,allFields_eq hok k (by omega),Option.bind_some,if_pos ⟨allF_all hok,hn,hc⟩,
   pw_mwalk ws (allF cs) t t.toNat 0 [] k (by omega) (by omega),←h1,Option.bind_some]
  by_cases c:r1.2=true
  ·rw [if_pos c, if_pos c, if_pos (by simp; omega), pw_mwalk ws (allF cs) o (o - y).toNat y _ k (by omega) (by omega), ← h2, Option.bind_some]
   by_cases c2:r2.2=true
   ·rw [if_pos c2, if_pos c2, if_pos (by simp; omega)]
    simp only [List.nil_append,←List.map_append]
   ·rw [if_neg c2,if_neg c2]
  ·rw [if_neg c,if_neg c]
 have hW: ∀k,4000000≤k→spec_l21Walk.f k cs ws y t o cards=some (r1.1++r2.1,r1.2&&r2.2):=fun k hk=>by
  unfold spec_l21Walk.f spec_l21Part.f;rw [pw_part hok hn (by omega) t.toNat 0 [] k (by omega) (by omega) (by omega) (by simp;omega),←h1,Option.bind_some,pw_part hok hn (by omega) (o - y).toNat y [] k (by omega) (by omega) (by omega) (by simp;omega),←h2,Option.bind_some];simp only [List.nil_append]
  rw [if_pos (by omega),Option.bind_some]
  cases r1.2 with
  |true=>rw [if_pos rfl];rfl
  |false=>rw [if_neg (by simp)];rfl
 have hS: ∀k,4000000≤k→spec_MemOk.f k cs ws y t o cards=if (r1.2&&r2.2)=true then (spec_l21Starts.f k ws.length (r1.1++r2.1)).bind fun S=>spec_MemOk.l0 k cs (r1.1++r2.1) S 0 ws y t o cards else some false:=fun k hk=>by
  unfold spec_MemOk.f;rw [hp2 k hk,Option.bind_some,if_pos rfl,hW k hk,Option.bind_some]
 cases c1:r1.2 with
 |false=>
  refine ⟨none,fun k hk=>by rw [hM k hk,c1];rfl,fun k hk=>by rw [hS k hk,c1];rfl,fun m hm=>by cases hm⟩
 |true=>
 cases c2:r2.2 with
 |false=>
  refine ⟨none,fun k hk=>by rw [hM k hk,c1,c2];rfl,fun k hk=>by rw [hS k hk,c1,c2];rfl,fun m hm=>by cases hm⟩
 |true=>
 have hw:Wlk cs ws (r1.1++r2.1):=by
  refine ⟨fun x hx=>?_,?_,by rw [List.length_append];omega⟩
  ·rcases List.mem_append.mp hx with z | z
   ·have:=m1 x z;exact ⟨t,by omega,by omega,by omega,by omega,by omega⟩
   ·have:=m2 x z;exact ⟨o,by omega,by omega,by omega,by omega,by omega⟩
  ·rw [List.pairwise_append]
   exact ⟨s1,s2,fun a ha b hb'=>by have:=m1 a ha;have:=m2 b hb';omega⟩
 obtain ⟨b,b1,b2⟩:=things_eq hb hw _ rfl;have hst: ∀k,4000000≤k→spec_l21Starts.f k ws.length (r1.1++r2.1)=some (startsL (r1.1++r2.1) ws.length):=fun k hk=>starts_eq (fun x hx=>wlk_range hw hx) (by have:=hw.len;omega) (by omega) k (by omega)
 cases b with
 |false=>
  refine ⟨none,fun k hk=>by rw [hM k hk,if_pos c1,if_pos c2,b1 k (by omega)];rfl,fun k hk=>by rw [hS k hk,c1,c2,if_pos (show (true&&true)=true from rfl),hst k hk,Option.bind_some,b2 k (by omega)];rfl,fun m hm=>by cases hm⟩
 |true=>
  refine ⟨some ⟨ws,y,t,o,cards,allF cs,(r1.1++r2.1).map (· +1)⟩,fun k hk=>by rw [hM k hk,if_pos c1,if_pos c2,b1 k (by omega)];rfl,fun k hk=>by rw [hS k hk,c1,c2,if_pos (show (true&&true)=true from rfl),hst k hk,Option.bind_some,b2 k (by omega)];rfl,fun m hm=>?_⟩;obtain rfl:=Option.some.inj hm;refine ⟨r1.1++r2.1,hb,hw,rfl,fun k hk=>by rw [hW k hk,c1,c2];rfl,fun x hx=>?_,by rw [h1,h2],fun q hq=>b1 q hq⟩;rcases List.mem_append.mp hx with z|z
  ·have:=m1 x z;exact .inl ⟨by omega,this.2.2.1,this.2.2.2⟩
  ·have:=m2 x z;exact .inr ⟨by omega,this.2.2.1,this.2.2.2⟩
theorem open_eq {cs:Cs} (hf:fewF cs) {ws:List Int} {y t o:Int} {cards:List Bool} (hn:ws.length≤1048576) (hc:cards.length≤1048576):
  ∃r:Option Mm,(∀k,4000000≤k→mopen k k cs ws y t o cards=some r)∧(∀k,4000000≤k→spec_MemOk.f k cs ws y t o cards=some r.isSome)∧
   (∀m,r=some m→∃W,Bnd cs ws y t o cards∧Wlk cs ws W∧m=⟨ws,y,t,o,cards,allF cs,W.map (· +1)⟩∧∀k,4000000≤k→spec_l21Walk.f k cs ws y t o cards=some (W,true)):=by
 obtain ⟨r,h1,h2,h3⟩:=open_eq2 (cs:=cs) hf (ws:=ws) (y:=y) (t:=t) (o:=o) (cards:=cards) hn hc;refine ⟨r,h1,h2,fun m hm=>?_⟩;obtain ⟨W,hb,hw,hm,hk,_⟩:=h3 m hm;exact ⟨W,hb,hw,hm,hk⟩
theorem mstep_up {ws:List Int} {F:List (List Int)} {e e' x:Int} (h:0<mstep ws F e x) (he:e≤e'):mstep ws F e' x=mstep ws F e x:=by
 unfold mstep at h ⊢;by_cases c0:rd ws x<0
 ·rw [if_pos c0] at h ⊢
  rw [if_pos c0];by_cases c1:x+1<e
  ·rw [if_pos c1] at h ⊢
   rw [if_pos (by omega)];by_cases c2:measN F (rd ws x) (rd ws (x+1))≤e - x
   ·rw [if_pos c2,if_pos (by omega)]
   ·rw [if_neg c2] at h;omega
  ·rw [if_neg c1] at h;omega
 ·rw [if_neg c0] at h ⊢
  rw [if_neg c0];by_cases c2:measN F (rd ws x) 0≤e - x
  ·rw [if_pos c2,if_pos (by omega)]
  ·rw [if_neg c2] at h;omega
theorem part_facts {cs:Cs} {ws:List Int} {y t o:Int} {cards:List Bool} (hb:Bnd cs ws y t o cards) {W:List Int} (hp:Prt cs ws y t o W) {x:Int} (hx:x∈W) {s:Int} (hs: ∀k,20≤k→spec_l21Size.f k cs ws x ws.length=some s):
  (0≤x∧x+s≤t)∨(y≤x∧x+s≤o):=by
 have n0:=hb.n0;have n1:=hb.n1;have y0:=hb.y0;have y1:=hb.y1;have t0:=hb.t0;have t1:=hb.t1;have o0:=hb.o0;have o1:=hb.o1;have h0:0≤x:=by rcases hp x hx with h|h<;>omega
 have h1:=hs 20 (Nat.le_refl _);rw [l21Size_eq hb.ok (by omega) h0 (Int.le_refl _) 20 (Nat.le_refl _)] at h1;rcases hp x hx with ⟨_,h2,h3⟩|⟨_,h2,h3⟩
 ·rw [if_pos (by omega), mstep_up h2 (show t ≤ ws.length by omega)] at h1
  have:=Option.some.inj h1
  exact .inl ⟨h0,by omega⟩
 ·rw [if_pos (by omega), mstep_up h2 (show o ≤ ws.length by omega)] at h1
  have:=Option.some.inj h1
  exact .inr ⟨by omega,by omega⟩
theorem specWalk_l0 (W:List Int) (hW: ∀x∈W,0≤x∧x≤1048576) (hl:W.length≤1048576) (d:Nat): ∀(k i:Nat) (acc:List Int),i+d=W.length→d<k→acc.length=i→spec_MemWalk.l0 k acc W i=some (acc++(W.drop i).map (· +1)):=by
 induction d with
 |zero=>
  intro k i acc hi hk ha;obtain ⟨k,rfl⟩: ∃m,k=m+1:=⟨k - 1,by omega⟩;rw [spec_MemWalk.l0,if_neg (by omega),List.drop_eq_nil_of_le (by omega)];simp
 |succ d ih=>
  intro k i acc hi hk ha;obtain ⟨k,rfl⟩: ∃m,k=m+1:=⟨k - 1,by omega⟩;have hlt:i<W.length:=by omega
  have hx:=hW W[i] (List.getElem_mem hlt);rw [spec_MemWalk.l0,if_pos (by omega),if_pos (by omega),if_pos (by omega),rd_mem hlt,wrap64_of (n:=W[i]+1) (by omega) (by omega),wrap_inc (n:=1048577) (by omega) (by omega) (by omega)];have:=ih k (i+1) (acc++[W[i]+1]) (by omega) (by omega) (by simp [ha])
  rw [show ((i+1:Nat):Int)=(i:Int)+1 by omega] at this;rw [this,List.drop_eq_getElem_cons hlt,List.map_cons,List.append_assoc];rfl
theorem MemWalk_eq {cs:Cs} (hf:fewF cs) {ws:List Int} {y t o:Int} {cards:List Bool} (hn:ws.length≤1048576) (hc:cards.length≤1048576):
  ∃s:List Int,s.length≤200∧(∀k,4000000≤k→impl_MemWalk.f k cs ws y t o cards=some s)∧∀k,4000000≤k→spec_MemWalk.f k cs ws y t o cards=some s:=by
 obtain ⟨r,h1,h2,h3⟩:=open_eq (cs:=cs) hf (ws:=ws) (y:=y) (t:=t) (o:=o) (cards:=cards) hn hc
 cases r with
 |none=>exact ⟨[],by simp,fun k hk=>by unfold impl_MemWalk.f;rw [h1 k hk];rfl,fun k hk=>by unfold spec_MemWalk.f;rw [Option.bind_some,h2 k hk];rfl⟩
 | some m =>
  obtain ⟨W,hb,hw,hm,hk⟩:=h3 m rfl;have n0:=hb.n0;have n1:=hb.n1;have y0:=hb.y0;have y1:=hb.y1;have wl:=hw.len;refine ⟨W.map (· +1),by rw [List.length_map];exact wl,fun k hk2=>?_,fun k hk2=>?_⟩
  ·unfold impl_MemWalk.f
   rw [h1 k hk2,Option.bind_some,hm];rfl
  ·unfold spec_MemWalk.f
   rw [Option.bind_some,h2 k hk2,Option.bind_some];simp only [Option.isSome_some,if_true]
   rw [hk k hk2,Option.bind_some];have:=specWalk_l0 W (fun x hx=>by have:=wlk_range hw hx;omega) (by omega) W.length k 0 [] (by omega) (by omega) rfl
   simpa using this
theorem fewF_few {cs:Cs} (h: ∀x∈cs,x.f1.length≤3):fewF cs:=by
 intro i;unfold flds rd_T112;by_cases c:i.toNat<cs.length
 ·rw [List.getD_eq_getElem?_getD, List.getElem?_eq_getElem c]
  have:=h _ (List.getElem_mem c)
  simp only [Option.getD_some]
  omega
 ·rw [List.getD_eq_getElem?_getD, List.getElem?_eq_none (by omega)]
  simp only [Option.getD_none]
  exact Nat.zero_le _
end Go.Proofs.Ytnlieahdakafbaa.Pure
namespace Go.Proofs.Ytnlieahdakafbaa.K
open Go.RowKit Go.Proofs.YtnlieahdakafbaaW.PrintWords Go.Proofs.YtnlieahdakafbaaW.PrintLast Go.Proofs.YtnlieahdakafbaaW.PrintMore
attribute [local go_sem] max2_int min2_int max_two min_two max_three min_three max_four min_four
set_option linter.unusedVariables false
set_option linter.unusedSimpArgs false
open Go.Proofs.Ytnlieahdakafbaa.Pure
set_option maxHeartbeats 16000000 in
set_option maxRecDepth 100000 in
theorem where_any (M:Int) (g:Nat) (w0 w:World) (hi:Rdr M w0 w g) (hM:M≤600000) (ok:Nat→Prop) (A5:Option Addr) (c5:Nat) (A0:Option Addr) (c0:Nat) (A4:Option Addr) (c4:Nat) (cs:Cs) (ws:List Int) (y t o:Int) (cards:List Bool) (hd:Dr w ok A5 c5 A0 c0 A4 c4 cs ws cards):
  Calls Try.prog 34 #[.pointer (some ⟨g,0,none⟩),.slice A5 cs.length c5,.agg #[.slice A0 ws.length c0,.int .i64 y,.int .i64 t,.int .i64 o,.slice A4 cards.length c4]] w (fun e w'=> ∃v:Int,e= .returned (.int .i64 v)∧Rdr (M+2) w0 w' g∧Ch (fun k=>k=g) w w'):=by
 obtain ⟨s,hs0,_,hs2⟩:=MemWalk_eq (cs:=cs) (fewF_few hd.l5.2.2) (ws:=ws) (y:=y) (t:=t) (o:=o) (cards:=cards) (by have:=hd.l0;omega) (by have:=hd.l4;omega);have H2:=aK (hs2 5000000 (by decide));have HS:=aK hs0;have HL0:=aK hd.l0;have HM:=aK hM;have HG:=aK hi.lt;have HD:=aK hd;have HI:=aK hi;have HCh:=aK (Ch.refl (fun k=>k=g) w);clear hi hd hs0 hs2 hM;go_enter Try.func34,Try.ntmps34
 go_wp2_with ((with_reducible refine gate_dst (N:=5) rfl ?_);refine Classical.byContradiction (fun hng=>?_))
 refine hng ?_;clear hng;refine box_event ?hg (N:=5) ?hd (cs:= #[.slice A0 ws.length c0,.int .i64 y,.int .i64 t,.int .i64 o,.slice A4 cards.length c4]) (t:=27) ?hr ?_
 (case hd=>rfl)
 (case hg=>rfl)
 (case hr=>first|(go_simp;done)|(go_simp;rfl))
 intro gp hg w1 hbox hb;have BP:=aK hbox;have HGp:=aK (show g<gp by rw [hg];exact HG.out);replace HD:=aK (HD.out.below hb);replace HI:=aK (HI.out.below hb);replace HCh:=aK (HCh.out.below hb);have HG1:=aK (show g<w1.heap.size from HI.out.lt);clear hb hbox hg;have q0:=(blk_cell BP.out 0).trans rfl;have q1:=(blk_cell BP.out 1).trans rfl;have q2:=(blk_cell BP.out 2).trans rfl;have q3:=(blk_cell BP.out 3).trans rfl;have q4:=(blk_cell BP.out 4).trans rfl
 go_wp2_with (go_at_call 64;refine Classical.byContradiction (fun hng=>?_))
 refine hng ?_;clear hng;refine (spec_MemWalk.calls 5000000 A5 c5 cs A0 c0 ws y t o A4 c4 cards s _ HD.out.C5 HD.out.n5 HD.out.C0 HD.out.n0 HD.out.C4 HD.out.n4 H2.out).mono ?_;rintro e w2 ⟨vX,rfl,hX,hb⟩;clear q0 q1 q2 q3 q4;have HX:=aK (Kd.R_lower (Kd.R_mono (Kd.R_bound hX) (ok':=fun k=>k≠g) (fun k hk=>by have:=hk.2.1;have:=HG1.out;omega)) (Nat.zero_le _));replace BP:=aK (blk_below BP.out hb);replace HI:=aK (HI.out.below hb);replace HCh:=aK (HCh.out.below hb);obtain ⟨AX,cX,eX⟩:=Kd.R_slice HX.out;subst eX;clear hX hb HD H2;by_cases cq:0<(s.length:Int)
 ·have d0 : decide (0 < (s.length : Int)) = true := decide_eq_true cq
  have d0b:decide (0<s.length)=true:=decide_eq_true (by omega)
  have d0c:=eq_true (show 0<s.length by omega)
  go_wp2_with fail
  go_at_call 33;refine (pick_any _ g 8 _ _ HI.out zz44 (by have:=HS.out;have:=HL0.out;omega) (by have:=HS.out;have:=HL0.out;omega)).mono ?_;rintro e w3 ⟨q8,rfl,hq8,hi,hk⟩;have hst:=HI.out.step hi hk;replace HX:=aK (hst.R HX.out (fun k hk=>hk));replace BP:=aK (hst.blk BP.out (by have:=HGp.out;omega));replace HCh:=aK (HCh.out.then_ hst);replace HI:=aK hi;clear hst hi hk;by_cases cr:0<q8
  ·have d1 : decide (0 < q8) = true := decide_eq_true cr
   go_wp2_with fail
   go_at_call 33;refine (pick_any _ g (s.length:Int) _ _ HI.out zz44 (by have:=HS.out;have:=HL0.out;omega) (by have:=HS.out;have:=HL0.out;omega)).mono ?_;rintro e w4 ⟨n4,rfl,hn4,hi,hk⟩;have hst:=HI.out.step hi hk;replace HX:=aK (hst.R HX.out (fun k hk=>hk));replace BP:=aK (hst.blk BP.out (by have:=HGp.out;omega));replace HCh:=aK (HCh.out.then_ hst);replace HI:=aK hi;clear hst hi hk;obtain ⟨gX,cX',eX,_,_,_⟩:=Kd.R_form HX.out (by omega);injection eX with a1 a2 a3;subst a1;clear a2 a3;have hcell:=(Kd.R_cell (enc:=Value.int .i64) (h1:=fun _=>rfl) 0 HX.out n4 hn4.1 hn4.2).1;have r1:=eq_true hn4.1;have r2:=eq_true hn4.2;clear hn4 hq8 cr cq;go_wp2;go_ret;exact ⟨_,rfl,HI.out.le (by omega),HCh.out⟩
  ·have d1 : decide (0 < q8) = false := decide_eq_false cr
   clear cr cq hq8;have n1:IntKind.i64.wrap ((ws.length:Int)+3)=(ws.length:Int)+3:=IntWalk.i64_in _ (by have:=HL0.out;omega)
   have q0:=(blk_cell BP.out 0).trans rfl
   go_wp2_with fail
   go_at_call 33;refine (pick_any _ g ((ws.length:Int)+3) _ _ HI.out zz44 (by have:=HS.out;have:=HL0.out;omega) (by have:=HS.out;have:=HL0.out;omega)).mono ?_;rintro e w5 ⟨v5,rfl,hv5,hi,hk⟩;have hst:=HI.out.step hi hk;replace HX:=aK (hst.R HX.out (fun k hk=>hk));replace BP:=aK (hst.blk BP.out (by have:=HGp.out;omega));replace HCh:=aK (HCh.out.then_ hst);replace HI:=aK hi;clear hst hi hk;clear q0 n1 hv5;go_wp2;go_ret;exact ⟨_,rfl,HI.out.le (by omega),HCh.out⟩
 ·have d0 : decide (0 < (s.length : Int)) = false := decide_eq_false cq
  have d0b:decide (0<s.length)=false:=decide_eq_false (by omega)
  have d0c:=eq_false (show¬0<s.length by omega);clear cq;have n1:IntKind.i64.wrap ((ws.length:Int)+3)=(ws.length:Int)+3:=IntWalk.i64_in _ (by have:=HL0.out;omega)
  have q0:=(blk_cell BP.out 0).trans rfl
  go_wp2_with fail
  go_at_call 33;refine (pick_any _ g ((ws.length:Int)+3) _ _ HI.out zz44 (by have:=HS.out;have:=HL0.out;omega) (by have:=HS.out;have:=HL0.out;omega)).mono ?_;rintro e w5 ⟨v5,rfl,hv5,hi,hk⟩;have hst:=HI.out.step hi hk;replace HX:=aK (hst.R HX.out (fun k hk=>hk));replace BP:=aK (hst.blk BP.out (by have:=HGp.out;omega));replace HCh:=aK (HCh.out.then_ hst);replace HI:=aK hi;clear hst hi hk;clear q0 n1 hv5;go_wp2;go_ret;exact ⟨_,rfl,HI.out.le (by omega),HCh.out⟩
set_option maxHeartbeats 16000000 in
set_option maxRecDepth 100000 in
theorem memput_any (AC:Option Addr) (cC:Nat) (lC:List Int) (w:World) (hr0:Kd.C (Kd.int .u8) w AC lC.length lC) (hc0:lC.length≤cC) (hl: ∀x∈lC,(Lit.int .u8 x).wf=true):
  Calls Try.prog 10 #[.slice AC lC.length cC] w (DrawP5 (fun x=> ∃v:Int,x= .int .i64 v) w):=by
 have HR0:=aK hr0;have HC0:=aK hc0;have HL:=aK hl;clear hr0 hc0 hl;go_enter Try.func10,Try.ntmps10
 go_wp2_with ((with_reducible refine gate_dst (N:=3) rfl ?_);refine Classical.byContradiction (fun hng=>?_))
 refine hng ?_;clear hng;refine box_event ?hg (N:=3) ?hd (cs:= #[.slice none 0 0,.int .i64 0,.int .i64 0,.int .i64 0,.slice none 0 0]) (t:=27) ?hr ?_
 (case hd=>rfl)
 (case hg=>rfl)
 (case hr=>first|(go_simp;done)|(go_simp;rfl))
 intro gz hg w1 hbox hb;have BZ:=aK hbox;have HB:=aK hb;have HGz:=aK (show w.heap.size≤gz by rw [hg];exact Nat.le_refl _);clear hb hbox hg
 go_wp2_with (go_at_call 30;refine Classical.byContradiction (fun hng=>?_))
 refine hng ?_;clear hng;refine (open_any AC cC lC _ (Kd.C_below HR0.out HB.out) HC0.out HL.out).mono ?_;rintro e w2 ⟨g,rfl,hi,hge,hb⟩;have HI:=aK hi;have HG0:=aK (show gz<g from Nat.lt_of_lt_of_le (blk_lt BZ.out) hge);replace HB:=aK (below_step HB.out hb);replace BZ:=aK (blk_below BZ.out hb);clear hi hge hb HR0 HC0 HL
 go_wp2_with (go_at_call 31;refine Classical.byContradiction (fun hng=>?_))
 refine hng ?_;clear hng;refine (mem_any 0 g _ _ HI.out (by omega)).mono ?_;rintro e w3 ⟨v5,v0,v4,v7,cs,ws,y,t,o,cards,rt,rfl,hd,hi,hc⟩;obtain ⟨A5,c5,rfl⟩:=Kd.V_slice hd.h5;obtain ⟨A0,c0,rfl⟩:=Kd.V_slice hd.h0;obtain ⟨A4,c4,rfl⟩:=Kd.V_slice hd.h4;have HD:=aK ((Dr.of hd).bound.mono (ok':=fun k=>(gz<k∧k≠g)∧k<w3.heap.size) (fun k hk=>⟨⟨by have:=hk.1;have:=blk_lt BZ.out;omega,by have:=hk.1;have:=HI.out.lt;omega⟩,hk.2⟩));replace HB:=aK (HB.out.trans (hc.toBelow (B:=w.heap.size) (below_size HB.out) (fun k hk=>by have:=HG0.out;have:=HGz.out;omega)));replace BZ:=aK (hc.blk BZ.out (by have:=HG0.out;omega));replace HI:=aK hi;have HG1:=aK (show g<w3.heap.size from HI.out.lt);clear hd hi hc
 go_wp2_with ((with_reducible refine gate_dst (N:=9) rfl ?_);refine Classical.byContradiction (fun hng=>?_))
 refine hng ?_;clear hng;refine box_event ?hg (N:=9) ?hd (cs:= #[.slice none 0 0,.int .i64 0,.int .i64 0,.int .i64 0,.slice none 0 0]) (t:=27) ?hr ?_
 (case hd=>rfl)
 (case hg=>rfl)
 (case hr=>first|(go_simp;done)|(go_simp;rfl))
 intro gm hg w4 hbox hb;have BM0:=aK hbox;replace HD:=aK ((HD.out.below hb).mono (ok':=fun k=>(gz<k∧k≠g)∧k≠gm) (fun k hk=>⟨hk.1,by rw [hg];omega⟩));replace HB:=aK (below_step HB.out hb);replace BZ:=aK (blk_below BZ.out hb);replace HI:=aK (HI.out.below hb);have HG:=aK (show (gz<g∧g<gm)∧w.heap.size≤gz by rw [hg];exact ⟨⟨HG0.out,HG1.out⟩,HGz.out⟩);clear hb hbox hg HG0 HG1 HGz;have qc0:=(blk_cell BM0.out 0).trans rfl;have qc1:=(blk_cell BM0.out 1).trans rfl;have qc2:=(blk_cell BM0.out 2).trans rfl;have qc3:=(blk_cell BM0.out 3).trans rfl;have qc4:=(blk_cell BM0.out 4).trans rfl;have qf0:=blk_frozen BM0.out 0;have qf1:=blk_frozen BM0.out 1;have qf2:=blk_frozen BM0.out 2;have qf3:=blk_frozen BM0.out 3;have qf4:=blk_frozen BM0.out 4
 go_wp2_with ((with_reducible refine gate_store (t:=27) (p:=9) rfl ?_);refine Classical.byContradiction (fun hng=>?_))
 refine hng ?_;clear hng;refine store_event (t:=27) (p:=9) (v:=?vm1) (w1:=(memBox w4 gm (.slice A0 ws.length c0) (.int .i64 y) (.int .i64 t) (.int .i64 o) (.slice A4 cards.length c4))) ?hg ?ho ?hn ?hr ?_
 (case ho=>rfl)
 (case hg=>rfl)
 (case hn=>rfl)
 (case hr=>first|(go_simp;done)|(go_simp;rfl))
 intro w5 hw;have hc4:Ch (fun k=>k=gm) w4 w5:=by rw [hw];exact (Ch.refl (fun k=>k=gm) _).box5 (.inl rfl) _ _ _ _ _
 replace HD:=aK ((HD.out.ch hc4 (fun k hk=>hk.2)).mono (ok':=fun k=>gz<k∧k≠g) (fun k hk=>hk.1));have BM:=aK (show w5.heap[gm]? =some (.cells #[.slice A0 ws.length c0,.int .i64 y,.int .i64 t,.int .i64 o,.slice A4 cards.length c4] 27 (0,0)) by rw [hw];exact blk_box5 BM0.out);replace BZ:=aK (hc4.blk BZ.out zz47);replace HB:=aK (HB.out.trans (hc4.toBelow (B:=w.heap.size) (below_size HB.out) (fun k hk=>by have:=HG.out;omega)));replace HI:=aK (HI.out.ch hc4 zz47 (fun k hk=>by have:=HI.out.ge;have:=HG.out;omega));clear hw hc4 BM0;clear qc0 qc1 qc2 qc3 qc4;clear qf0 qf1 qf2 qf3 qf4
 go_wp2_with (go_at_call 32;refine Classical.byContradiction (fun hng=>?_))
 refine hng ?_;clear hng;refine (word_any _ g _ _ HI.out (by omega)).mono ?_;rintro e w6 ⟨v6,rfl,hi,hk⟩;have hst:=HI.out.step hi hk;clear hk;replace HB:=aK (HB.out.trans (hst.toBelow (B:=w.heap.size) (below_size HB.out) (fun k hk=>by have:=HG.out;omega)));replace HD:=aK (HD.out.ch hst (fun k hk=>hk.2));replace BM:=aK (hst.blk BM.out zz47);replace BZ:=aK (hst.blk BZ.out zz47);replace HI:=aK hi;clear hst hi
 go_wp2_with (go_at_call 33;refine Classical.byContradiction (fun hng=>?_))
 refine hng ?_;clear hng;refine (pick_any _ g 2 _ _ HI.out (by omega) (by have:=HD.out.l5;omega) (by have:=HD.out.l5;omega)).mono ?_;rintro e w7 ⟨q2,rfl,hq2,hi,hk⟩;have hst:=HI.out.step hi hk;clear hk;replace HB:=aK (HB.out.trans (hst.toBelow (B:=w.heap.size) (below_size HB.out) (fun k hk=>by have:=HG.out;omega)));replace HD:=aK (HD.out.ch hst (fun k hk=>hk.2));replace BM:=aK (hst.blk BM.out zz47);replace BZ:=aK (hst.blk BZ.out zz47);replace HI:=aK hi;clear hst hi
 go_upto_if 24 with fail
 go_cut [11] from 24 to 32 (fun v11 wx=> ∃v:Int,v11= .int .i64 v∧Aside0 (Dr wx (fun k=>gz<k∧k≠g) A5 c5 A0 c0 A4 c4 cs ws cards)∧Aside0 (wx.heap[gm]? =some (.cells #[.slice A0 ws.length c0,.int .i64 y,.int .i64 t,.int .i64 o,.slice A4 cards.length c4] 27 (0,0)))∧Aside0 (wx.heap[gz]? =some (.cells #[.slice none 0 0,.int .i64 0,.int .i64 0,.int .i64 0,.slice none 0 0] 27 (0,0)))∧Aside0 (Below w.heap.size w wx)∧∃M:Int,Aside0 (M≤9000)∧Aside0 (Rdr M w1 wx g))
 case first=>
  by_cases ct:q2=0
  ·have d_ct : (q2 == 0) = true := beq_iff_eq.mpr ct
   have e_ct:decide (q2=0)=true:=decide_eq_true ct
   clear ct hq2;have k0:=(blk_cell BM.out 0).trans rfl;have k1:=(blk_cell BM.out 1).trans rfl;have k2:=(blk_cell BM.out 2).trans rfl;have k3:=(blk_cell BM.out 3).trans rfl;have k4:=(blk_cell BM.out 4).trans rfl
   go_wp2_with (go_at_call 34;refine Classical.byContradiction (fun hng=>?_))
   refine hng ?_;clear hng;refine (where_any _ g _ _ HI.out (by omega) _ A5 c5 A0 c0 A4 c4 cs ws y t o cards HD.out).mono ?_;rintro e w8 ⟨v8,rfl,hi,hst⟩;replace HB:=aK (HB.out.trans (hst.toBelow (B:=w.heap.size) (below_size HB.out) (fun k hk=>by have:=HG.out;omega)));replace HD:=aK (HD.out.ch hst (fun k hk=>hk.2));replace BM:=aK (hst.blk BM.out zz47);replace BZ:=aK (hst.blk BZ.out zz47);replace HI:=aK hi;clear hst hi;clear k0 k1 k2 k3 k4
   go_wp2_with (go_at_call 33;refine Classical.byContradiction (fun hng=>?_))
   refine hng ?_;clear hng;refine (pick_any _ g 4 _ _ HI.out (by omega) (by have:=HD.out.l5;omega) (by have:=HD.out.l5;omega)).mono ?_;rintro e w9 ⟨q4,rfl,hq4,hi,hk⟩;have hst:=HI.out.step hi hk;clear hk;replace HB:=aK (HB.out.trans (hst.toBelow (B:=w.heap.size) (below_size HB.out) (fun k hk=>by have:=HG.out;omega)));replace HD:=aK (HD.out.ch hst (fun k hk=>hk.2));replace BM:=aK (hst.blk BM.out zz47);replace BZ:=aK (hst.blk BZ.out zz47);replace HI:=aK hi;clear hst hi;go_wp2;go_meet;exact ⟨_,rfl,HD,BM,BZ,HB,_,⟨by omega⟩,HI⟩
  ·have d_ct : (q2 == 0) = false := beq_eq_false_iff_ne.mpr ct
   have e_ct:decide (q2=0)=false:=decide_eq_false ct
   clear ct hq2;go_wp2;go_meet;exact ⟨_,rfl,HD,BM,BZ,HB,_,⟨by omega⟩,HI⟩
 case rest=>
  clear HD BM BZ HB HI;obtain ⟨v,rfl,HD,BM,BZ,HB,M,HM,HI⟩:=hcut
  go_wp2_with (go_at_call 33;refine Classical.byContradiction (fun hng=>?_))
  refine hng ?_;clear hng;refine (pick_any _ g 24 _ _ HI.out zz44 (by have:=HD.out.l5;omega) (by have:=HD.out.l5;omega)).mono ?_;rintro e wf ⟨q24,rfl,hq24,hi,hk⟩;have hst:=HI.out.step hi hk;clear hk;replace HB:=aK (HB.out.trans (hst.toBelow (B:=w.heap.size) (below_size HB.out) (fun k hk=>by have:=HG.out;omega)));replace HD:=aK (HD.out.ch hst (fun k hk=>hk.2));replace BM:=aK (hst.blk BM.out zz47);replace BZ:=aK (hst.blk BZ.out zz47);replace HI:=aK hi;clear hst hi
  go_upto_if 35 with fail
  go_cut [11] from 35 to 35 (fun v11 wx=> ∃v:Int,v11= .int .i64 v∧Aside0 (Dr wx (fun k=>gz<k∧k≠g) A5 c5 A0 c0 A4 c4 cs ws cards)∧Aside0 (wx.heap[gm]? =some (.cells #[.slice A0 ws.length c0,.int .i64 y,.int .i64 t,.int .i64 o,.slice A4 cards.length c4] 27 (0,0)))∧Aside0 (wx.heap[gz]? =some (.cells #[.slice none 0 0,.int .i64 0,.int .i64 0,.int .i64 0,.slice none 0 0] 27 (0,0)))∧Aside0 (Below w.heap.size w wx)∧∃M:Int,Aside0 (M≤9001)∧Aside0 (Rdr M w1 wx g))
  case first=>
   by_cases ch:q24=0
   ·have d_ch : (q24 == 0) = true := beq_iff_eq.mpr ch
    have e_ch:decide (q24=0)=true:=decide_eq_true ch
    clear ch hq24;go_wp2;go_meet;exact ⟨_,rfl,HD,BM,BZ,HB,_,⟨by have:=HM.out;omega⟩,HI⟩
   ·have d_ch : (q24 == 0) = false := beq_eq_false_iff_ne.mpr ch
    have e_ch:decide (q24=0)=false:=decide_eq_false ch
    clear ch hq24;go_wp2;go_meet;exact ⟨_,rfl,HD,BM,BZ,HB,_,⟨by have:=HM.out;omega⟩,HI⟩
  case rest=>
   clear HD BM BZ HB HI;obtain ⟨v1,rfl,HD,BM,BZ,HB,M1,HM1,HI⟩:=hcut;go_wp2;replace HD:=aK (HD.out.ch (Ch.drew (Ch.refl (fun _=>False) _)) (fun _ _ h=>h));replace BM:=aK (blk_drew BM.out);replace BZ:=aK (blk_drew BZ.out);replace HB:=aK (below_drew1 HB.out);replace HI:=aK HI.out.drew;have z0:=(blk_cell BZ.out 0).trans rfl;have z1:=(blk_cell BZ.out 1).trans rfl;have z2:=(blk_cell BZ.out 2).trans rfl;have z3:=(blk_cell BZ.out 3).trans rfl;have z4:=(blk_cell BZ.out 4).trans rfl;have y_0:=blk_frozen BZ.out 0;have y_1:=blk_frozen BZ.out 1;have y_2:=blk_frozen BZ.out 2;have y_3:=blk_frozen BZ.out 3;have y_4:=blk_frozen BZ.out 4;refine sT 18 (S:=fun w'=>w'.cell? ⟨gm,0,none⟩=some (.slice A0 ws.length c0)∧w'.cell? ⟨gm,1,none⟩=some (.int .i64 y)∧w'.cell? ⟨gm,2,none⟩=some (.int .i64 t)∧w'.cell? ⟨gm,3,none⟩=some (.int .i64 o)∧w'.cell? ⟨gm,4,none⟩=some (.slice A4 cards.length c4)) (ds:=[14]) ⟨((blk_cell BM.out 0).trans rfl),((blk_cell BM.out 1).trans rfl),((blk_cell BM.out 2).trans rfl),((blk_cell BM.out 3).trans rfl),((blk_cell BM.out 4).trans rfl)⟩ (fun hHeld=>?_);generalize wc.drew=wt at HD BM BZ HB HI z0 z1 z2 z3 z4 y_0 y_1 y_2 y_3 y_4 hHeld ⊢;refine pS 0 36 (lA 18 1) ?_;refine pS 2 38 (lA 18 5) ?_;refine pS 3 39 (lA 18 13) ?_;refine pS 6 42 (lA 18 77) ?_;refine pS 8 44 (lA 18 333) ?_;refine pS 12 48 (lA 18 4429) ?_;refine tS 1 37 (lA 18 4431) rfl rfl (by kernel_rfl) hHeld zz17 ?_;refine tS 4 40 (lA 18 4447) rfl rfl (by kernel_rfl) hHeld zz17 ?_;refine oS 5 41 (lA 18 4479) rfl rfl (fun K hK=>?_);refine gO Try.func34 #[.pointer (some ⟨g,0,none⟩),.slice A5 cs.length c5,.agg #[.slice A0 ws.length c0,.int .i64 y,.int .i64 t,.int .i64 o,.slice A4 cards.length c4]] ?_;(with_reducible refine (where_any _ g _ _ HI.out (by have:=HM1.out;omega) _ A5 c5 A0 c0 A4 c4 cs ws y t o cards HD.out).mono ?_);rintro e wa1 ⟨x1,rfl,hi,hst⟩;refine ⟨_,rfl,?_⟩;replace HB:=aK (HB.out.trans (hst.toBelow (B:=w.heap.size) (below_size HB.out) (fun k hk=>by have:=HG.out;omega)));replace HD:=aK (HD.out.ch hst (fun k hk=>hk.2));replace BM:=aK (hst.blk BM.out zz47);replace BZ:=aK (hst.blk BZ.out zz47);replace HI:=aK hi;clear z0 y_0 z1 y_1 z2 y_2 z3 y_3 z4 y_4;have z0:=(blk_cell BZ.out 0).trans rfl;have y_0:=blk_frozen BZ.out 0;have z1:=(blk_cell BZ.out 1).trans rfl;have y_1:=blk_frozen BZ.out 1;have z2:=(blk_cell BZ.out 2).trans rfl;have y_2:=blk_frozen BZ.out 2;have z3:=(blk_cell BZ.out 3).trans rfl;have y_3:=blk_frozen BZ.out 3;have z4:=(blk_cell BZ.out 4).trans rfl;have y_4:=blk_frozen BZ.out 4;clear hst hi;refine hK.out _ _ ⟨((blk_cell BM.out 0).trans rfl),((blk_cell BM.out 1).trans rfl),((blk_cell BM.out 2).trans rfl),((blk_cell BM.out 3).trans rfl),((blk_cell BM.out 4).trans rfl)⟩ (fun hHeld=>?_);clear hK K;refine nS 41 ?_;refine oS 7 43 (lA 18 4607) rfl rfl (fun K hK=>?_);refine gO Try.func33 #[.pointer (some ⟨g,0,none⟩),.int .i64 3] ?_;(with_reducible refine (pick_any _ g 3 _ _ HI.out (by first|omega|(have:=HM1.out;omega)) (by have:=HD.out.l5;omega) (by have:=HD.out.l5;omega)).mono ?_);rintro e wa2 ⟨x2,rfl,hx2,hi,hk⟩;refine ⟨_,rfl,?_⟩;have hst:=HI.out.step hi hk;clear hk hx2;replace HB:=aK (HB.out.trans (hst.toBelow (B:=w.heap.size) (below_size HB.out) (fun k hk=>by have:=HG.out;omega)));replace HD:=aK (HD.out.ch hst (fun k hk=>hk.2));replace BM:=aK (hst.blk BM.out zz47);replace BZ:=aK (hst.blk BZ.out zz47);replace HI:=aK hi;clear z0 y_0 z1 y_1 z2 y_2 z3 y_3 z4 y_4;have z0:=(blk_cell BZ.out 0).trans rfl;have y_0:=blk_frozen BZ.out 0;have z1:=(blk_cell BZ.out 1).trans rfl;have y_1:=blk_frozen BZ.out 1;have z2:=(blk_cell BZ.out 2).trans rfl;have y_2:=blk_frozen BZ.out 2;have z3:=(blk_cell BZ.out 3).trans rfl;have y_3:=blk_frozen BZ.out 3;have z4:=(blk_cell BZ.out 4).trans rfl;have y_4:=blk_frozen BZ.out 4;clear hst hi
   refine hK.out _ _ ⟨((blk_cell BM.out 0).trans rfl),((blk_cell BM.out 1).trans rfl),((blk_cell BM.out 2).trans rfl),((blk_cell BM.out 3).trans rfl),((blk_cell BM.out 4).trans rfl)⟩ (fun hHeld=>?_);clear hK K;refine nS 43 ?_;refine oS 9 45 (lA 18 5119) rfl rfl (fun K hK=>?_);refine gO Try.func33 #[.pointer (some ⟨g,0,none⟩),.int .i64 12] ?_;(with_reducible refine (pick_any _ g 12 _ _ HI.out (by first|omega|(have:=HM1.out;omega)) (by have:=HD.out.l5;omega) (by have:=HD.out.l5;omega)).mono ?_);rintro e wa3 ⟨x3,rfl,hx3,hi,hk⟩;refine ⟨_,rfl,?_⟩;have hst:=HI.out.step hi hk;clear hk hx3;replace HB:=aK (HB.out.trans (hst.toBelow (B:=w.heap.size) (below_size HB.out) (fun k hk=>by have:=HG.out;omega)));replace HD:=aK (HD.out.ch hst (fun k hk=>hk.2));replace BM:=aK (hst.blk BM.out zz47);replace BZ:=aK (hst.blk BZ.out zz47);replace HI:=aK hi;clear z0 y_0 z1 y_1 z2 y_2 z3 y_3 z4 y_4;have z0:=(blk_cell BZ.out 0).trans rfl;have y_0:=blk_frozen BZ.out 0;have z1:=(blk_cell BZ.out 1).trans rfl;have y_1:=blk_frozen BZ.out 1;have z2:=(blk_cell BZ.out 2).trans rfl;have y_2:=blk_frozen BZ.out 2;have z3:=(blk_cell BZ.out 3).trans rfl;have y_3:=blk_frozen BZ.out 3;have z4:=(blk_cell BZ.out 4).trans rfl;have y_4:=blk_frozen BZ.out 4;clear hst hi;refine hK.out _ _ ⟨((blk_cell BM.out 0).trans rfl),((blk_cell BM.out 1).trans rfl),((blk_cell BM.out 2).trans rfl),((blk_cell BM.out 3).trans rfl),((blk_cell BM.out 4).trans rfl)⟩ (fun hHeld=>?_);clear hK K;refine nS 45 ?_;refine pS 10 46 (lA 18 6143) ?_;refine pS 11 47 (lA 18 8191) ?_;refine pS 13 2 (lA 18 16383) ?_;refine last_ (i:=14) (N:=none) (lA 18 32767) rfl rfl (by kernel_rfl) (by decide) (fun K hK=>?_);refine skip_ (w1:=?_) (by rfl) rfl ?_ ?_;rotate_left
   ·go_simp
    rfl
   refine hK.out _ _ ?_;clear hK K;refine pS 15 4 (lA 18 65535) ?_;refine pS 16 5 (lA 18 131071) ?_;refine pS 17 6 (lA 18 262143) ?_;refine done_ (by kernel_rfl) ?_;clear z0 y_0 z1 y_1 z2 y_2 z3 y_3 z4 y_4;go_wp2;refine bodyPost_ret (results_list (rs:=[.tmp 2,.cell 3 27,.tmp 4,.tmp 5,.tmp 6]) rfl (by simp) (.tmp (.cell gz 27 #[.slice A0 ws.length c0,.int .i64 y,.int .i64 t,.int .i64 o,.slice A4 cards.length c4] (0,0) _ rfl (blk_box5 BZ.out) Try.underlying27 rfl (by kernel_rfl) (.tmp (.tmp (.tmp .nil)))))) rfl ?_;exact ⟨A5,c5,A0,c0,A4,c4,cs,ws,y,t,o,cards,_,_,_,⟨_,rfl⟩,rfl,(HD.out.ch (Ch.box5 (Ch.refl (fun k=>k=gz) _) (.inl rfl) _ _ _ _ _) (fun k hk=>by omega)).mono (fun k hk=>by have:=HG.out;omega),HB.out.trans ((Ch.box5 (Ch.refl (fun k=>k=gz) _) (.inl rfl) _ _ _ _ _).toBelow (below_size HB.out) (fun k hk=>by have:=HG.out;omega))⟩
end Go.Proofs.Ytnlieahdakafbaa.K
namespace Go.Proofs.Ytnlieahdakafbaa.K
open Go.RowKit Go.Proofs.YtnlieahdakafbaaW.PrintWords Go.Proofs.YtnlieahdakafbaaW.PrintLast Go.Proofs.YtnlieahdakafbaaW.PrintMore
attribute [local go_sem] max2_int min2_int max_two min_two max_three min_three max_four min_four
set_option linter.unusedVariables false
set_option linter.unusedSimpArgs false
def memory_hasIn.f (q:Nat) (m:Mm) (at_ k:Int):Option Bool:=(memory_has.f q m at_).bind fun b=>if b=true then (if 0≤k then (thing_count.f m at_).bind fun n=>some (decide (k<n)) else some false) else some false
set_option maxHeartbeats 4000000 in
set_option maxRecDepth 100000 in
theorem memory_hasIn.calls (q:Nat) (g:Nat) (m:Mm) (at_ k:Int) (r:Bool) (w:World) (hm:MV w g m) (h:memory_hasIn.f q m at_ k=some r):
  Calls Try.prog 36 #[.pointer (some ⟨g,0,none⟩),.int .i64 at_,.int .i64 k] w fun e w'=>e= .returned (.bool r)∧Below w.heap.size w w':=by
 unfold memory_hasIn.f at h;obtain ⟨b,hb,h⟩:=Option.bind_eq_some_iff.mp h;have HH:=aK hb;have HM:=aK hm;clear hb hm
 cases b with
 |false=>
  have HR:=aK (Option.some.inj h);clear h;go_enter Try.func36,Try.ntmps36
  go_wp2_with (go_at_call 53;refine (memory_has.calls q g m at_ false _ HM.out HH.out).mono ?_;rintro e w' ⟨rfl,⟨nd,rfl⟩⟩)
  go_ret;exact ⟨by rw [←HR.out];rfl,by repeat (first|exact Below.refl _ _|apply below_alloc|apply pw_below_drewN|apply below_drew1)⟩
 | true =>
  rw [if_pos rfl] at h;by_cases c1:0≤k
  ·rw [if_pos c1] at h
   have d1:decide (0≤k)=true:=decide_eq_true c1
   have d2:decide (k≥0)=true:=d1
   obtain ⟨n,hn,h⟩:=Option.bind_eq_some_iff.mp h;have HN:=aK hn;have HR:=aK (Option.some.inj h);clear h hn c1;go_enter Try.func36,Try.ntmps36
   go_wp2_with fail
   go_at_call 53;refine (memory_has.calls q g m at_ true _ HM.out HH.out).mono ?_;rintro e w' ⟨rfl,⟨nd,rfl⟩⟩
   go_wp2_with fail
   go_at_call 54;refine (memory_thing.calls g at_ _).mono ?_;rintro e w2 ⟨rfl,hb2⟩;have HB:=aK (below_step (pw_below_drewN (Below.refl _ _) _) hb2:Below w.heap.size w w2);clear hb2
   go_wp2_with fail
   go_at_call 71;refine (thing_count.calls g m at_ n _ (MV_below HM.out HB.out) HN.out).mono ?_;rintro e w3 ⟨rfl,hb3⟩;go_wp2;go_ret;exact ⟨by rw [←HR.out];rfl,below_step HB.out hb3⟩
  ·rw [if_neg c1] at h
   have d1:decide (0≤k)=false:=decide_eq_false c1
   have d2:decide (k≥0)=false:=d1
   have HR:=aK (Option.some.inj h);clear h c1;go_enter Try.func36,Try.ntmps36
   go_wp2_with (go_at_call 53;refine (memory_has.calls q g m at_ true _ HM.out HH.out).mono ?_;rintro e w' ⟨rfl,⟨nd,rfl⟩⟩)
   go_ret;exact ⟨by rw [←HR.out];rfl,by repeat (first|exact Below.refl _ _|apply below_alloc|apply pw_below_drewN|apply below_drew1)⟩
def Mm.setW (m:Mm) (x v:Int):Mm:={m with words:=m.words.set x.toNat v}
def Mm.setC (m:Mm) (c:Int):Mm:={m with cards:=m.cards.set c.toNat true}
theorem MO_setword {w:World} {b g gw:Nat} {m:Mm} {cW:Nat} {AC:Option Addr} {cC:Nat} {AF:Option Addr} {cF:Nat} {AB:Option Addr} {cB:Nat} (x v:Int)
  (h0:w.heap[g]? =some (.cells #[.slice (some ⟨gw,0,none⟩) m.words.length cW,.int .i64 m.young,.int .i64 m.top,.int .i64 m.old,.slice AC m.cards.length cC,.slice AF m.fields.length cF,.slice AB m.begins.length cB] 72 (0,0))) (hg:b≤g) (hf:m.fields.length≤cF)
  (h1:Kd.R (Kd.int .i64) 3 w b (fun k=>(k≠g∧some k≠(Value.slice AC m.cards.length cC).ownBlock)∧some k≠(Value.slice AB m.begins.length cB).ownBlock) (.slice (some ⟨gw,0,none⟩) m.words.length cW) m.words)
  (h2:Kd.R Kd.bool 4 w b (fun k=>(k≠g∧some k≠(Value.slice (some ⟨gw,0,none⟩) m.words.length cW).ownBlock)∧some k≠(Value.slice AB m.begins.length cB).ownBlock) (.slice AC m.cards.length cC) m.cards)
  (h3:Kd.F (Kd.slice 3 (Kd.int .i64)) w (fun k=>((k≠g∧some k≠(Value.slice (some ⟨gw,0,none⟩) m.words.length cW).ownBlock)∧some k≠(Value.slice AC m.cards.length cC).ownBlock)∧some k≠(Value.slice AB m.begins.length cB).ownBlock) AF m.fields.length m.fields)
  (h4:Kd.R (Kd.int .i64) 3 w b (fun k=>(k≠g∧some k≠(Value.slice (some ⟨gw,0,none⟩) m.words.length cW).ownBlock)∧some k≠(Value.slice AC m.cards.length cC).ownBlock) (.slice AB m.begins.length cB) m.begins):
  MO (w.setCell ⟨gw,x.toNat,none⟩ (.int .i64 v)) b g {m with words:=m.words.set x.toNat v}:=by
 have hp:=Kd.R_put (enc:=Value.int .i64) (h1:=fun _=>rfl) h1 x v;have hgw:gw≠g:=(h1.1 gw (by simp [Value.ownBlock])).1.1
 have ob:(Value.slice (some ⟨gw,0,none⟩) m.words.length cW).ownBlock=some gw:=by simp [Value.ownBlock]
 have hl:(m.words.set x.toNat v).length=m.words.length:=List.length_set
 refine ⟨some ⟨gw,0,none⟩,cW,AC,cC,AF,cF,AB,cB,?_,hg,hf,?_,?_,?_,?_⟩
 ·show (w.setCell ⟨gw, x.toNat, none⟩ (.int .i64 v)).heap[g]? = some (.cells #[.slice (some ⟨gw, 0, none⟩) (m.words.set x.toNat v).length cW, .int .i64 m.young, .int .i64 m.top, .int .i64 m.old, .slice AC m.cards.length cC, .slice AF m.fields.length cF, .slice AB m.begins.length cB] 72 (0, 0))
  rw [hl];exact blk_far h0 (fun e=>hgw e.symm) _
 ·show Kd.R (Kd.int .i64) 3 _ b _ (.slice (some ⟨gw, 0, none⟩) (m.words.set x.toNat v).length cW) (m.words.set x.toNat v)
  rw [hl];exact hp.1
 ·show Kd.R Kd.bool _ _ b (fun k => (k ≠ g ∧ some k ≠ (Value.slice (some ⟨gw, 0, none⟩) (m.words.set x.toNat v).length cW).ownBlock) ∧ some k ≠ (Value.slice AB m.begins.length cB).ownBlock) (.slice AC m.cards.length cC) m.cards
  rw [hl];exact Kd.R_grown h2 hp.2 (fun k hk=>by rw [←ob];exact hk.1.2)
 ·show Kd.F _ _ (fun k => ((k ≠ g ∧ some k ≠ (Value.slice (some ⟨gw, 0, none⟩) (m.words.set x.toNat v).length cW).ownBlock) ∧ some k ≠ (Value.slice AC m.cards.length cC).ownBlock) ∧ some k ≠ (Value.slice AB m.begins.length cB).ownBlock) AF m.fields.length m.fields
  rw [hl];exact Kd.F_grown h3 hp.2 (fun k hk=>by rw [←ob];exact hk.1.1.2)
 ·show Kd.R (Kd.int .i64) 3 _ b (fun k => (k ≠ g ∧ some k ≠ (Value.slice (some ⟨gw, 0, none⟩) (m.words.set x.toNat v).length cW).ownBlock) ∧ some k ≠ (Value.slice AC m.cards.length cC).ownBlock) (.slice AB m.begins.length cB) m.begins
  rw [hl];exact Kd.R_grown h4 hp.2 (fun k hk=>by rw [←ob];exact hk.1.2)
theorem MO_setcard {w:World} {b g gc:Nat} {m:Mm} {AW:Option Addr} {cW:Nat} {cC:Nat} {AF:Option Addr} {cF:Nat} {AB:Option Addr} {cB:Nat} (x:Int) (v:Bool)
  (h0:w.heap[g]? =some (.cells #[.slice AW m.words.length cW,.int .i64 m.young,.int .i64 m.top,.int .i64 m.old,.slice (some ⟨gc,0,none⟩) m.cards.length cC,.slice AF m.fields.length cF,.slice AB m.begins.length cB] 72 (0,0))) (hg:b≤g) (hf:m.fields.length≤cF)
  (h1:Kd.R (Kd.int .i64) 3 w b (fun k=>(k≠g∧some k≠(Value.slice (some ⟨gc,0,none⟩) m.cards.length cC).ownBlock)∧some k≠(Value.slice AB m.begins.length cB).ownBlock) (.slice AW m.words.length cW) m.words)
  (h2:Kd.R Kd.bool 4 w b (fun k=>(k≠g∧some k≠(Value.slice AW m.words.length cW).ownBlock)∧some k≠(Value.slice AB m.begins.length cB).ownBlock) (.slice (some ⟨gc,0,none⟩) m.cards.length cC) m.cards)
  (h3:Kd.F (Kd.slice 3 (Kd.int .i64)) w (fun k=>((k≠g∧some k≠(Value.slice AW m.words.length cW).ownBlock)∧some k≠(Value.slice (some ⟨gc,0,none⟩) m.cards.length cC).ownBlock)∧some k≠(Value.slice AB m.begins.length cB).ownBlock) AF m.fields.length m.fields)
  (h4:Kd.R (Kd.int .i64) 3 w b (fun k=>(k≠g∧some k≠(Value.slice AW m.words.length cW).ownBlock)∧some k≠(Value.slice (some ⟨gc,0,none⟩) m.cards.length cC).ownBlock) (.slice AB m.begins.length cB) m.begins):
  MO (w.setCell ⟨gc,x.toNat,none⟩ (.bool v)) b g {m with cards:=m.cards.set x.toNat v}:=by
 have hp:=Kd.R_put (enc:=Value.bool) (h1:=fun _=>rfl) h2 x v;have hgw:gc≠g:=(h2.1 gc (by simp [Value.ownBlock])).1.1
 have ob:(Value.slice (some ⟨gc,0,none⟩) m.cards.length cC).ownBlock=some gc:=by simp [Value.ownBlock]
 have hl:(m.cards.set x.toNat v).length=m.cards.length:=List.length_set
 refine ⟨AW,cW,some ⟨gc,0,none⟩,cC,AF,cF,AB,cB,?_,hg,hf,?_,?_,?_,?_⟩
 ·show (w.setCell ⟨gc, x.toNat, none⟩ (.bool v)).heap[g]? = some (.cells #[.slice AW m.words.length cW, .int .i64 m.young, .int .i64 m.top, .int .i64 m.old, .slice (some ⟨gc, 0, none⟩) (m.cards.set x.toNat v).length cC, .slice AF m.fields.length cF, .slice AB m.begins.length cB] 72 (0, 0))
  rw [hl];exact blk_far h0 (fun e=>hgw e.symm) _
 ·show Kd.R (Kd.int .i64) 3 _ b (fun k => (k ≠ g ∧ some k ≠ (Value.slice (some ⟨gc, 0, none⟩) (m.cards.set x.toNat v).length cC).ownBlock) ∧ some k ≠ (Value.slice AB m.begins.length cB).ownBlock) (.slice AW m.words.length cW) m.words
  rw [hl];exact Kd.R_grown h1 hp.2 (fun k hk=>by rw [←ob];exact hk.1.2)
 ·show Kd.R Kd.bool _ _ b _ (.slice (some ⟨gc, 0, none⟩) (m.cards.set x.toNat v).length cC) (m.cards.set x.toNat v)
  rw [hl];exact hp.1
 ·show Kd.F _ _ (fun k => ((k ≠ g ∧ some k ≠ (Value.slice AW m.words.length cW).ownBlock) ∧ some k ≠ (Value.slice (some ⟨gc, 0, none⟩) (m.cards.set x.toNat v).length cC).ownBlock) ∧ some k ≠ (Value.slice AB m.begins.length cB).ownBlock) AF m.fields.length m.fields
  rw [hl];exact Kd.F_grown h3 hp.2 (fun k hk=>by rw [←ob];exact hk.1.2)
 ·show Kd.R (Kd.int .i64) 3 _ b (fun k => (k ≠ g ∧ some k ≠ (Value.slice AW m.words.length cW).ownBlock) ∧ some k ≠ (Value.slice (some ⟨gc, 0, none⟩) (m.cards.set x.toNat v).length cC).ownBlock) (.slice AB m.begins.length cB) m.begins
  rw [hl];exact Kd.R_grown h4 hp.2 (fun k hk=>by rw [←ob];exact hk.2)
def memory_put.f (q : Nat) (m : Mm) (at_ k v : Int) : Option (Bool × Mm) := (thing_first.f m at_).bind fun a => (thing_leads.f m at_ k).bind fun d =>
  if 0 ≤ a + k ∧ a + k < m.words.length ∧ m.words.length ≤ 1048576 ∧ m.cards.length ≤ 1048576 ∧ 0 ≤ m.young ∧ m.young ≤ 1048576 then
    (if d = true then
      (if v = 0 then some (true, m.setW (a + k) v)
       else (memory_has.f q m v).bind fun h => if h = true then
         (if at_ > m.young then (if v > m.young then some (true, m.setW (a + k) v)
           else (if 0≤Int.tdiv (a+k - m.young) 4∧Int.tdiv (a+k - m.young) 4<m.cards.length then
             some (true,(m.setC (Int.tdiv (a+k - m.young) 4)).setW (a+k) v) else none))
          else some (true,m.setW (a+k) v))
        else some (false,m))
     else (impl_isWord.f v).bind fun z=>if z=true then some (true,m.setW (a+k) v) else some (false,m)) else none
set_option maxHeartbeats 16000000 in
set_option maxRecDepth 100000 in
theorem memory_put.calls (q b g:Nat) (m:Mm) (at_ k v:Int) (r:Bool×Mm) (w:World) (hm:MO w b g m) (hb:b≤w.heap.size) (h:memory_put.f q m at_ k v=some r):
  Calls Try.prog 37 #[.pointer (some ⟨g,0,none⟩),.int .i64 at_,.int .i64 k,.int .i64 v] w fun e w'=>e= .returned (.bool r.1)∧MO w' b g r.2∧Below b w w':=by
 unfold memory_put.f at h;obtain ⟨a,ha,h⟩:=Option.bind_eq_some_iff.mp h;obtain ⟨d,hd,h⟩:=Option.bind_eq_some_iff.mp h
 split at h
 case isFalse=>simp at h
 case isTrue h2=>
 obtain ⟨x,hx⟩: ∃x,x=a+k:=⟨_,rfl⟩;rw [←hx] at h h2;have H2:=aK h2;have q1:IntKind.i64.wrap (a+k)=x:=by rw [←hx];exact IntWalk.i64_in _ ⟨by omega,by omega⟩
 have HFi:=aK ha;have HLe:=aK hd;have HM:=aK (MO_MV hm);have HO:=aK hm;have HBs:=aK hb;have HH:=aK h;have HB:=aK (Below.refl w.heap.size w);clear ha hd hm hb h h2 hx;go_enter Try.func37,Try.ntmps37
 go_wp2_with fail
 go_at_call 54;refine (memory_thing.calls g at_ _).mono ?_;rintro e w1 ⟨rfl,hb1⟩;have HB1:=aK (show Below w.heap.size w w1 from hb1);clear hb1;unfold thV
 go_wp2_with fail
 go_at_call 72;refine (thing_first.calls g m at_ a _ (MV_below HM.out (below_alloc HB1.out _)) HFi.out).mono ?_;rintro e w2 ⟨rfl,hb2⟩;have HB2:=aK (below_step (below_alloc HB1.out _) hb2);have hbx:=box_new hb2;have b0:=(blk_cell hbx 0).trans rfl;have b1:=(blk_cell hbx 1).trans rfl;clear hb2 hbx
 go_wp2_with fail
 go_at_call 73;refine (thing_leads.calls g m at_ k d _ (MV_below HM.out HB2.out) HLe.out).mono ?_;rintro e w3 ⟨rfl,hb3⟩;have HB3:=aK (below_step HB2.out hb3);clear hb3 b0 b1 HB1 HB2;have hh:=HH.out;clear HH
 cases d with
 | false =>
  rw [if_neg (by simp)] at hh;obtain ⟨z,hz,hh⟩:=Option.bind_eq_some_iff.mp hh;have HZ:=aK hz;clear hz
  cases z with
  |false=>
   have HR:=aK (Option.some.inj hh);clear hh
   go_wp2_with (go_at_call 76;refine (impl_isWord.calls v false _ HZ.out).mono ?_;rintro e w4 ⟨rfl,hd4⟩;have HB4:=aK (below_step HB3.out hd4.below);clear hd4)
   go_ret;exact ⟨by rw [←HR.out];rfl,by rw [←HR.out];exact MO_below HO.out HB4.out,below_then (Below.refl _ _) HBs.out HB4.out⟩
  |true=>
   have HR:=aK (Option.some.inj hh);clear hh
   go_wp2_with fail
   (go_at_call 76;refine (impl_isWord.calls v true _ HZ.out).mono ?_;rintro e w4 ⟨rfl,hd4⟩;have HB4:=aK (below_step HB3.out hd4.below);clear hd4)
   have HW:=aK (MO_below HO.out HB4.out);obtain ⟨AW,cW,AC,cC,AF,cF,AB,cB,g0,hg,hf,r1,r2,r3,r4⟩:=HW.out;have h2:=H2.out;obtain ⟨gw,cw,hv,hbg,_,_⟩:=Kd.R_form r1 (by omega);injection hv with e1 e2 e3;subst e1 e3;have HG0:=aK g0;have HN:=aK (MO_setword x v g0 hg hf r1 r2 r3 r4);obtain ⟨x0,f0⟩:=Kd.R_cell (enc:=Value.int .i64) (h1:=fun _=>rfl) 0 r1 x (by omega) (by omega);have HBg:=aK hbg;have p1:=eq_true (show 0≤x from h2.1);have p2:=eq_true (show x<(m.words.length:Int) from h2.2.1);have k0:=(blk_cell HG0.out 0).trans rfl;clear h2 g0 hg hf r1 r2 r3 r4 hbg e2;go_wp2;go_ret;exact ⟨by rw [←HR.out];rfl,by rw [←HR.out];exact HN.out,(below_then (Below.refl _ _) HBs.out HB4.out).setCell HBg.out _⟩
 | true =>
  rw [if_pos rfl] at hh;by_cases v0:v=0
  ·have d0 : (v != 0) = false := by rw [v0]; rfl
   rw [if_pos v0] at hh;have HR:=aK (Option.some.inj hh);clear hh;clear v0;have HW:=aK (MO_below HO.out HB3.out);obtain ⟨AW,cW,AC,cC,AF,cF,AB,cB,g0,hg,hf,r1,r2,r3,r4⟩:=HW.out;have h2:=H2.out;obtain ⟨gw,cw,hv,hbg,_,_⟩:=Kd.R_form r1 (by omega);injection hv with e1 e2 e3;subst e1 e3;have HG0:=aK g0;have HN:=aK (MO_setword x v g0 hg hf r1 r2 r3 r4);obtain ⟨x0,f0⟩:=Kd.R_cell (enc:=Value.int .i64) (h1:=fun _=>rfl) 0 r1 x (by omega) (by omega);have HBg:=aK hbg;have p1:=eq_true (show 0≤x from h2.1);have p2:=eq_true (show x<(m.words.length:Int) from h2.2.1);have k0:=(blk_cell HG0.out 0).trans rfl;clear h2 g0 hg hf r1 r2 r3 r4 hbg e2;go_wp2;go_ret;exact ⟨by rw [←HR.out];rfl,by rw [←HR.out];exact HN.out,(below_then (Below.refl _ _) HBs.out HB3.out).setCell HBg.out _⟩
  have d0:(v !=0)=true:=bne_iff_ne.mpr v0
  rw [if_neg v0] at hh;obtain ⟨z,hz,hh⟩:=Option.bind_eq_some_iff.mp hh;have HZ:=aK hz;clear hz v0
  cases z with
  |false=>
   have HR:=aK (Option.some.inj hh);clear hh
   go_wp2_with (go_at_call 53;refine (memory_has.calls q g m v false _ (MV_below HM.out HB3.out) HZ.out).mono ?_;rintro e w4 ⟨rfl,hd4⟩;have HB4:=aK (below_step HB3.out hd4.below);clear hd4)
   go_ret;exact ⟨by rw [←HR.out];rfl,by rw [←HR.out];exact MO_below HO.out HB4.out,below_then (Below.refl _ _) HBs.out HB4.out⟩
  | true =>
   rw [if_pos rfl] at hh
   go_wp2_with fail
   (go_at_call 53;refine (memory_has.calls q g m v true _ (MV_below HM.out HB3.out) HZ.out).mono ?_;rintro e w4 ⟨rfl,hd4⟩;have HB4:=aK (below_step HB3.out hd4.below);clear hd4)
   have HV:=aK (MO_below HO.out HB4.out);obtain ⟨AW,cW,AC,cC,AF,cF,AB,cB,g0,hg,hf,r1,r2,r3,r4⟩:=HV.out;have G0:=aK g0;have R2:=aK r2;have k0:=(blk_cell g0 0).trans rfl;have k1:=(blk_cell g0 1).trans rfl;have k2:=(blk_cell g0 2).trans rfl;have k3:=(blk_cell g0 3).trans rfl;have k4:=(blk_cell g0 4).trans rfl;clear g0 hg hf r1 r2 r3 r4;by_cases c1:at_>m.young
   ·rw [if_pos c1] at hh
    go_wp2_with fail
    (go_at_call 74;refine (Mem_isOld.calls AW m.words.length cW m.young m.top m.old AC m.cards.length cC at_ true _ (decide_eq_true (show at_>m.young by omega))).mono ?_;rintro e w5 ⟨rfl,hb_⟩;have HB5:=aK (below_step HB4.out hb_);have kk:=blk_below G0.out hb_;clear hb_)
    clear k0 k1 k2 k3 k4;have G5:=aK kk;have k0:=(blk_cell kk 0).trans rfl;have k1:=(blk_cell kk 1).trans rfl;have k2:=(blk_cell kk 2).trans rfl;have k3:=(blk_cell kk 3).trans rfl;have k4:=(blk_cell kk 4).trans rfl;clear kk;by_cases c2:v>m.young
    ·rw [if_pos c2] at hh
     have HR:=aK (Option.some.inj hh);clear hh
     go_wp2_with fail
     (go_at_call 74;refine (Mem_isOld.calls AW m.words.length cW m.young m.top m.old AC m.cards.length cC v true _ (decide_eq_true (show v>m.young by omega))).mono ?_;rintro e w6 ⟨rfl,hb_⟩;have HB6:=aK (below_step HB5.out hb_);have kk:=blk_below G5.out hb_;clear hb_)
     clear k0 k1 k2 k3 k4 kk G0 G5 HV R2;have HW:=aK (MO_below HO.out HB6.out);obtain ⟨AW,cW,AC,cC,AF,cF,AB,cB,g0,hg,hf,r1,r2,r3,r4⟩:=HW.out;have h2:=H2.out;obtain ⟨gw,cw,hv,hbg,_,_⟩:=Kd.R_form r1 (by omega);injection hv with e1 e2 e3;subst e1 e3;have HG0:=aK g0;have HN:=aK (MO_setword x v g0 hg hf r1 r2 r3 r4);obtain ⟨x0,f0⟩:=Kd.R_cell (enc:=Value.int .i64) (h1:=fun _=>rfl) 0 r1 x (by omega) (by omega);have HBg:=aK hbg;have p1:=eq_true (show 0≤x from h2.1);have p2:=eq_true (show x<(m.words.length:Int) from h2.2.1);have k0:=(blk_cell HG0.out 0).trans rfl;clear h2 g0 hg hf r1 r2 r3 r4 hbg e2;go_wp2;go_ret;exact ⟨by rw [←HR.out];rfl,by rw [←HR.out];exact HN.out,(below_then (Below.refl _ _) HBs.out HB6.out).setCell HBg.out _⟩
    ·rw [if_neg c2] at hh
     split at hh
     case isFalse=>simp at hh
     case isTrue h3=>
     have HR:=aK (Option.some.inj hh)
     go_wp2_with fail
     (go_at_call 74;refine (Mem_isOld.calls AW m.words.length cW m.young m.top m.old AC m.cards.length cC v false _ (decide_eq_false (show¬v>m.young by omega))).mono ?_;rintro e w6 ⟨rfl,hb_⟩;have HB6:=aK (below_step HB5.out hb_);have kk:=blk_below G5.out hb_;clear hb_)
     clear k0 k1 k2 k3 k4 kk G0 G5 HV R2 hh;obtain ⟨j,hj⟩: ∃j,j=x - m.young:=⟨_,rfl⟩;have h2:=H2.out;have q2:IntKind.i64.wrap (x - m.young)=j:=by rw [hj];exact IntWalk.i64_in _ ⟨by omega,by omega⟩
     rw [←hj] at h3 HR;obtain ⟨c,hc⟩: ∃c,c=Int.tdiv j 4:=⟨_,rfl⟩;rw [←hc] at h3 HR;have q3:wrap64 (Int.tdiv j 4)=c:=by rw [←hc];unfold wrap64;omega
     clear hj hc;have HV:=aK (MO_below HO.out HB6.out);obtain ⟨AW,cW,AC,cC,AF,cF,AB,cB,g0,hg,hf,r1,r2,r3,r4⟩:=HV.out;obtain ⟨gc,cc,hv,hbg,_,_⟩:=Kd.R_form r2 (by omega);injection hv with e1 e2 e3;subst e1 e3;have p1:=eq_true (show 0≤c from h3.1);have p2:=eq_true (show c<(m.cards.length:Int) from h3.2);obtain ⟨x0,f0⟩:=Kd.R_cell (enc:=Value.bool) (h1:=fun _=>rfl) false r2 c (by omega) (by omega);have k0:=(blk_cell g0 0).trans rfl;have k1:=(blk_cell g0 1).trans rfl;have k2:=(blk_cell g0 2).trans rfl;have k3:=(blk_cell g0 3).trans rfl;have k4:=(blk_cell g0 4).trans rfl;have HBc:=aK hbg;clear h2 h3;go_wp2;refine sT 13 (S:=fun w'=>Aside0 (Below w6.heap.size w6 w')∧w'.cell? ⟨g,0,none⟩=some (.slice AW m.words.length cW)∧w'.cell? ⟨g,1,none⟩=some (.int .i64 m.young)∧w'.cell? ⟨g,2,none⟩=some (.int .i64 m.top)∧w'.cell? ⟨g,3,none⟩=some (.int .i64 m.old)∧w'.cell? ⟨g,4,none⟩=some (.slice (some ⟨gc,0,none⟩) m.cards.length cC)) (ds:=[12]) ⟨⟨below_drew1 (Below.refl _ _)⟩,(by go_simp),(by go_simp),(by go_simp),(by go_simp),(by go_simp)⟩ (fun hHeld=>?_);refine pS 0 48 (lA 13 1) ?_;refine pS 1 49 (lA 13 3) ?_;refine pS 2 50 (lA 13 7) ?_;refine pS 3 51 (lA 13 15) ?_;refine pS 5 53 (lA 13 47) ?_;refine pS 6 54 (lA 13 111) ?_;refine pS 7 55 (lA 13 239) ?_;refine pS 9 57 (lA 13 751) ?_;refine tS 4 52 (lA 13 767) rfl rfl (by kernel_rfl) hHeld zz5 ?_;refine tS 8 56 (lA 13 1023) rfl rfl (by kernel_rfl) hHeld zz5 ?_;refine oS 10 58 (lA 13 2047) rfl rfl (fun K hK=>?_);refine gO Try.func75 #[.agg #[.slice AW m.words.length cW,.int .i64 m.young,.int .i64 m.top,.int .i64 m.old,.slice (some ⟨gc,0,none⟩) m.cards.length cC],.int .i64 x] ?_;(with_reducible refine (Mem_card.calls AW m.words.length cW m.young m.top m.old (some ⟨gc,0,none⟩) m.cards.length cC x j c _ q2 q3).mono ?_);rintro e w7 ⟨rfl,hb7⟩;have hx7:=below_step hHeld.1.out hb7;have HC7:=aK (show MO (w7.setCell ⟨gc,c.toNat,none⟩ (.bool true)) b g (m.setC c) from MO_setcard c true (blk_below g0 hx7) hg hf (Kd.R_below r1 hx7) (Kd.R_below r2 hx7) (Kd.F_below r3 hx7) (Kd.R_below r4 hx7));have HB7:=aK (show Below b w (w7.setCell ⟨gc,c.toNat,none⟩ (.bool true)) from (below_then (Below.refl _ _) HBs.out (below_step HB6.out hx7)).setCell HBc.out _);obtain ⟨x7,f7⟩:=Kd.R_cell (enc:=Value.bool) (h1:=fun _=>rfl) false (Kd.R_below r2 hx7) c (by have:=of_eq_true p1;omega) (by have:=of_eq_true p2;omega);refine ⟨_,rfl,?_⟩;refine hK.out _ _ ⟨⟨below_step hHeld.1.out hb7⟩,(pw_cell_below hb7 hHeld.2.1),(pw_cell_below hb7 hHeld.2.2.1),(pw_cell_below hb7 hHeld.2.2.2.1),(pw_cell_below hb7 hHeld.2.2.2.2.1),(pw_cell_below hb7 hHeld.2.2.2.2.2)⟩ (fun hHeld=>?_);clear hK K;refine nS 58 ?_;refine pS 11 59 (lA 13 4095) ?_;refine last_ (i:=12) (N:=none) (lA 13 8191) rfl rfl (by kernel_rfl) (by decide) (fun K hK=>?_);refine skip_ (w1:=?_) (by rfl) rfl ?_ ?_;rotate_left
     ·go_simp
      rfl
     refine hK.out _ _ ?_;clear hK K;refine done_ (by kernel_rfl) ?_;have HO7:=HC7;clear HC7 HV g0 hg hf r1 r2 r3 r4 hbg e2 x0 f0 p1 p2 k0 k1 k2 k3 k4;generalize w7.setCell ⟨gc,c.toNat,none⟩ (.bool true)=w8 at HO7 HB7 ⊢;obtain ⟨AW,cW,AC,cC,AF,cF,AB,cB,g0,hg,hf,r1,r2,r3,r4⟩:=HO7.out;have h2:=H2.out;obtain ⟨gw,cw,hv,hbg,_,_⟩:=Kd.R_form r1 (by show 0<m.words.length;omega);injection hv with e1 e2 e3;subst e1 e3;have HG0:=aK g0;have HN:=aK (MO_setword (m:=m.setC c) x v g0 hg hf r1 r2 r3 r4);obtain ⟨x0,f0⟩:=Kd.R_cell (enc:=Value.int .i64) (h1:=fun _=>rfl) 0 r1 x (by omega) (by show x<(m.words.length:Int);omega);have HBg:=aK hbg;have p1:=eq_true (show 0≤x from h2.1);have p2:=eq_true (show x<((m.setC c).words.length:Int) from h2.2.1);have k0:=(blk_cell HG0.out 0).trans rfl;clear h2 g0 hg hf r1 r2 r3 r4 hbg e2;go_wp2;go_ret;exact ⟨by rw [←HR.out];rfl,by rw [←HR.out];exact HN.out,HB7.out.setCell HBg.out _⟩
   ·rw [if_neg c1] at hh
    have HR:=aK (Option.some.inj hh);clear hh
    go_wp2_with fail
    (go_at_call 74;refine (Mem_isOld.calls AW m.words.length cW m.young m.top m.old AC m.cards.length cC at_ false _ (decide_eq_false (show¬at_>m.young by omega))).mono ?_;rintro e w5 ⟨rfl,hb_⟩;have HB5:=aK (below_step HB4.out hb_);have kk:=blk_below G0.out hb_;clear hb_)
    clear k0 k1 k2 k3 k4 kk G0 HV R2;have HW:=aK (MO_below HO.out HB5.out);obtain ⟨AW,cW,AC,cC,AF,cF,AB,cB,g0,hg,hf,r1,r2,r3,r4⟩:=HW.out;have h2:=H2.out;obtain ⟨gw,cw,hv,hbg,_,_⟩:=Kd.R_form r1 (by omega);injection hv with e1 e2 e3;subst e1 e3;have HG0:=aK g0;have HN:=aK (MO_setword x v g0 hg hf r1 r2 r3 r4);obtain ⟨x0,f0⟩:=Kd.R_cell (enc:=Value.int .i64) (h1:=fun _=>rfl) 0 r1 x (by omega) (by omega);have HBg:=aK hbg;have p1:=eq_true (show 0≤x from h2.1);have p2:=eq_true (show x<(m.words.length:Int) from h2.2.1);have k0:=(blk_cell HG0.out 0).trans rfl;clear h2 g0 hg hf r1 r2 r3 r4 hbg e2;go_wp2;go_ret;exact ⟨by rw [←HR.out];rfl,by rw [←HR.out];exact HN.out,(below_then (Below.refl _ _) HBs.out HB5.out).setCell HBg.out _⟩
def putOf (k:Nat) (a2 a3 a4:Int):Option Mm→Option (List Int×Int×Int×Int×List Bool×Bool)
  |none=>some ([],0,0,0,[],false)
  |some m=>(memory_hasIn.f k m a2 a3).bind fun b=>if b=true then (memory_put.f k m a2 a3 a4).bind fun p=>if p.1=true then some (p.2.words,p.2.young,p.2.top,p.2.old,p.2.cards,true) else some ([],0,0,0,[],false) else some ([],0,0,0,[],false)
def impl_MemPut.f (k:Nat) (l0:List (S112)) (l1_0:List Int) (a1_1:Int) (a1_2:Int) (a1_3:Int) (l1_4:List Bool) (a2 a3 a4:Int):Option (List Int×Int×Int×Int×List Bool×Bool):=(mopen k k l0 l1_0 a1_1 a1_2 a1_3 l1_4).bind fun r=>putOf k a2 a3 a4 r
theorem put_zero {r1:List Int} {r2 r3 r4:Int} {r5:List Bool} {r6:Bool} (h:some (([]:List Int),(0:Int),(0:Int),(0:Int),([]:List Bool),false)=some (r1,r2,r3,r4,r5,r6)):[]=r1∧0=r2∧0=r3∧0=r4∧[]=r5∧false=r6:=by
  simpa only [Option.some.injEq,Prod.mk.injEq] using h
set_option maxHeartbeats 8000000 in
set_option maxRecDepth 100000 in
theorem impl_MemPut.calls (k:Nat) (A0:Option Addr) (c0:Nat) (l0:List (S112)) (A1_0:Option Addr) (c1_0:Nat) (l1_0:List Int) (a1_1:Int) (a1_2:Int) (a1_3:Int) (A1_4:Option Addr) (c1_4:Nat) (l1_4:List Bool) (a2 a3 a4:Int) (r1:List Int) (r2 r3 r4:Int) (r5:List Bool) (r6:Bool) (w:World) (hr0:Kd.C k112 w A0 l0.length l0) (hc0:l0.length≤c0) (hr1_0:Kd.C (Kd.int .i64) w A1_0 l1_0.length l1_0) (hc1_0:l1_0.length≤c1_0) (hr1_4:Kd.C Kd.bool w A1_4 l1_4.length l1_4) (hc1_4:l1_4.length≤c1_4) (h:impl_MemPut.f k l0 l1_0 a1_1 a1_2 a1_3 l1_4 a2 a3 a4=some (r1,r2,r3,r4,r5,r6)):
  Calls Try.prog 11 #[.slice A0 l0.length c0,.agg #[.slice A1_0 l1_0.length c1_0,.int .i64 a1_1,.int .i64 a1_2,.int .i64 a1_3,.slice A1_4 l1_4.length c1_4],.int .i64 a2,.int .i64 a3,.int .i64 a4] w fun e w'=> ∃v0_ v4_:Value,e= .returned (.tuple #[.agg #[v0_,.int .i64 r2,.int .i64 r3,.int .i64 r4,v4_],.bool r6])∧Kd.R (Kd.int .i64) 3 w' w.heap.size (fun _=>True) v0_ r1∧Kd.R Kd.bool 4 w' w.heap.size (fun _=>True) v4_ r5∧Below w.heap.size w w':=by
 unfold impl_MemPut.f at h;obtain ⟨m,hm,h⟩:=Option.bind_eq_some_iff.mp h;have HM:=aK hm;have HR0:=aK hr0;have HC0:=aK hc0;have HR1:=aK hr1_0;have HC1:=aK hc1_0;have HR4:=aK hr1_4;have HC4:=aK hc1_4;have HB:=aK (below_alloc (below_alloc (Below.refl w.heap.size w) (.cells #[.slice A1_0 l1_0.length c1_0,.int .i64 a1_1,.int .i64 a1_2,.int .i64 a1_3,.slice A1_4 l1_4.length c1_4] 27 (0,0))) (.cells #[.slice none 0 0,.int .i64 0,.int .i64 0,.int .i64 0,.slice none 0 0] 27 (0,0)));have BR:=aK (alloc_two w (.cells #[.slice A1_0 l1_0.length c1_0,.int .i64 a1_1,.int .i64 a1_2,.int .i64 a1_3,.slice A1_4 l1_4.length c1_4] 27 (0,0)) (.cells #[.slice none 0 0,.int .i64 0,.int .i64 0,.int .i64 0,.slice none 0 0] 27 (0,0)));have HS:=aK (show w.heap.size+1<((w.alloc (.cells #[.slice A1_0 l1_0.length c1_0,.int .i64 a1_1,.int .i64 a1_2,.int .i64 a1_3,.slice A1_4 l1_4.length c1_4] 27 (0,0))).alloc (.cells #[.slice none 0 0,.int .i64 0,.int .i64 0,.int .i64 0,.slice none 0 0] 27 (0,0))).heap.size by simp);have HH:=aK h;clear hr0 hc0 hr1_0 hc1_0 hr1_4 hc1_4 h hm;go_enter Try.func11,Try.ntmps11
 go_wp2_with fail
 go_at_call 35;refine (memOpen.calls k k A0 c0 l0 A1_0 c1_0 l1_0 a1_1 a1_2 a1_3 A1_4 c1_4 l1_4 m _ (Kd.C_below HR0.out HB.out) HC0.out (Kd.C_below HR1.out HB.out) HC1.out (Kd.C_below HR4.out HB.out) HC4.out HM.out).mono ?_
 cases m with
 |none=>
  rintro e w1 ⟨rfl,hb⟩;have HB1:=aK (below_step HB.out hb);replace BR:=aK (blk_below BR.out hb);clear hb HM;have hz:=HH.out;obtain ⟨rfl,rfl,rfl,rfl,rfl,rfl⟩:=put_zero hz;have z0:=(blk_cell BR.out 0).trans rfl;have z1:=(blk_cell BR.out 1).trans rfl;have z2:=(blk_cell BR.out 2).trans rfl;have z3:=(blk_cell BR.out 3).trans rfl;have z4:=(blk_cell BR.out 4).trans rfl;have y0:=blk_frozen BR.out 0;have y1:=blk_frozen BR.out 1;have y2:=blk_frozen BR.out 2;have y3:=blk_frozen BR.out 3;have y4:=blk_frozen BR.out 4;go_wp2;refine bodyPost_ret (results_ct rfl _ _ (w.heap.size+1) 27 #[.slice none 0 0,.int .i64 0,.int .i64 0,.int .i64 0,.slice none 0 0] (0,0) _ rfl (blk_box5 BR.out) Try.underlying27 rfl (by kernel_rfl)) rfl ?_;exact ⟨_,_,rfl,Kd.R_nil _ _ _ _ _,Kd.R_nil _ _ _ _ _,below_box5 HB1.out (by omega)⟩
 | some m =>
  rintro e w1 ⟨g,rfl,hmo,hb⟩;have HB1:=aK (below_step HB.out hb);replace BR:=aK (blk_below BR.out hb);have HMO:=aK hmo;obtain ⟨bb,hbb⟩: ∃bb,bb=((w.alloc (.cells #[.slice A1_0 l1_0.length c1_0,.int .i64 a1_1,.int .i64 a1_2,.int .i64 a1_3,.slice A1_4 l1_4.length c1_4] 27 (0,0))).alloc (.cells #[.slice none 0 0,.int .i64 0,.int .i64 0,.int .i64 0,.slice none 0 0] 27 (0,0))).heap.size:=⟨_,rfl⟩;rw [←hbb] at HS HMO;have HSb:=aK (show bb≤w1.heap.size by rw [hbb];exact below_size hb);have hh:=HH.out;unfold putOf at hh;obtain ⟨b,hq,hh⟩:=Option.bind_eq_some_iff.mp hh;have HQ:=aK hq;clear hb HM HH hmo hq hbb
  cases b with
  |false=>
   rw [if_neg (by simp)] at hh;have HH:=aK hh;clear hh
   go_wp2_with fail
   (go_at_call 36;refine (memory_hasIn.calls k g m a2 a3 false _ (MO_MV HMO.out) HQ.out).mono ?_;rintro e w2 ⟨rfl,hd⟩;have HB2:=aK (below_step HB1.out hd);have BRn:=aK (blk_below BR.out hd);clear BR;have BR:=BRn;clear BRn;have HMO2:=aK (MO_below HMO.out hd);have HSn:=aK (Nat.le_trans HSb.out (below_size hd));clear hd HSb;have HSb:=HSn;clear HSn)
   have hz:=HH.out;obtain ⟨rfl,rfl,rfl,rfl,rfl,rfl⟩:=put_zero hz;have z0:=(blk_cell BR.out 0).trans rfl;have z1:=(blk_cell BR.out 1).trans rfl;have z2:=(blk_cell BR.out 2).trans rfl;have z3:=(blk_cell BR.out 3).trans rfl;have z4:=(blk_cell BR.out 4).trans rfl;have y0:=blk_frozen BR.out 0;have y1:=blk_frozen BR.out 1;have y2:=blk_frozen BR.out 2;have y3:=blk_frozen BR.out 3;have y4:=blk_frozen BR.out 4;go_wp2;refine bodyPost_ret (results_ct rfl _ _ (w.heap.size+1) 27 #[.slice none 0 0,.int .i64 0,.int .i64 0,.int .i64 0,.slice none 0 0] (0,0) _ rfl (blk_box5 BR.out) Try.underlying27 rfl (by kernel_rfl)) rfl ?_;exact ⟨_,_,rfl,Kd.R_nil _ _ _ _ _,Kd.R_nil _ _ _ _ _,below_box5 HB2.out (by omega)⟩
  | true =>
   rw [if_pos rfl] at hh;obtain ⟨⟨ok,m2⟩,hp,hh⟩:=Option.bind_eq_some_iff.mp hh;have HP:=aK hp;clear hp
   go_wp2_with fail
   (go_at_call 36;refine (memory_hasIn.calls k g m a2 a3 true _ (MO_MV HMO.out) HQ.out).mono ?_;rintro e w2 ⟨rfl,hd⟩;have HB2:=aK (below_step HB1.out hd);have BRn:=aK (blk_below BR.out hd);clear BR;have BR:=BRn;clear BRn;have HMO2:=aK (MO_below HMO.out hd);have HSn:=aK (Nat.le_trans HSb.out (below_size hd));clear hd HSb;have HSb:=HSn;clear HSn)
   go_wp2_with fail
   go_at_call 37;refine (memory_put.calls k bb g m a2 a3 a4 (ok,m2) _ HMO2.out HSb.out HP.out).mono ?_;rintro e w3 ⟨rfl,hmo3,hd⟩;have HMO3:=aK (show MO w3 bb g m2 from hmo3);have HB3:=aK (show Below w.heap.size w w3 from HB2.out.trans (hd.mono (by have:=HS.out;omega)));have BRn:=aK ((hd.block _ HS.out).trans BR.out);clear BR;have BR:=BRn;clear BRn hd hmo3 HSb HMO2 HMO HB1 HB2
   cases ok with
   |false=>
    have HH:=aK hh;clear hh;have hz:=HH.out;obtain ⟨rfl,rfl,rfl,rfl,rfl,rfl⟩:=put_zero hz;have z0:=(blk_cell BR.out 0).trans rfl;have z1:=(blk_cell BR.out 1).trans rfl;have z2:=(blk_cell BR.out 2).trans rfl;have z3:=(blk_cell BR.out 3).trans rfl;have z4:=(blk_cell BR.out 4).trans rfl;have y0:=blk_frozen BR.out 0;have y1:=blk_frozen BR.out 1;have y2:=blk_frozen BR.out 2;have y3:=blk_frozen BR.out 3;have y4:=blk_frozen BR.out 4;go_wp2;refine bodyPost_ret (results_ct rfl _ _ (w.heap.size+1) 27 #[.slice none 0 0,.int .i64 0,.int .i64 0,.int .i64 0,.slice none 0 0] (0,0) _ rfl (blk_box5 BR.out) Try.underlying27 rfl (by kernel_rfl)) rfl ?_;exact ⟨_,_,rfl,Kd.R_nil _ _ _ _ _,Kd.R_nil _ _ _ _ _,below_box5 HB3.out (by omega)⟩
   |true=>
    obtain ⟨rfl,rfl,rfl,rfl,rfl,rfl⟩:m2.words=r1∧m2.young=r2∧m2.top=r3∧m2.old=r4∧m2.cards=r5∧true=r6:=by simpa using hh
    clear hh;obtain ⟨AW,cW,AC,cC,AF,cF,AB,cB,g0,hg,hf,r1,r2,r3,r4⟩:=HMO3.out;have R1:=aK r1;have R2:=aK r2;have hgr:=HS.out;have k0:=(blk_cell g0 0).trans rfl;have k1:=(blk_cell g0 1).trans rfl;have k2:=(blk_cell g0 2).trans rfl;have k3:=(blk_cell g0 3).trans rfl;have k4:=(blk_cell g0 4).trans rfl;have z0:=(blk_cell BR.out 0).trans rfl;have z1:=(blk_cell BR.out 1).trans rfl;have z2:=(blk_cell BR.out 2).trans rfl;have z3:=(blk_cell BR.out 3).trans rfl;have z4:=(blk_cell BR.out 4).trans rfl;have y0:=blk_frozen BR.out 0;have y1:=blk_frozen BR.out 1;have y2:=blk_frozen BR.out 2;have y3:=blk_frozen BR.out 3;have y4:=blk_frozen BR.out 4;clear g0 hg hf r1 r2 r3 r4;go_wp2;refine bodyPost_ret (results_ct rfl _ _ (w.heap.size+1) 27 #[.slice AW m2.words.length cW,.int .i64 m2.young,.int .i64 m2.top,.int .i64 m2.old,.slice AC m2.cards.length cC] (0,0) _ rfl (blk_box5 BR.out) Try.underlying27 rfl (by kernel_rfl)) rfl ?_;exact ⟨_,_,rfl,R_box5 R1.out hgr (by omega),R_box5 R2.out hgr (by omega),below_box5 HB3.out (by omega)⟩
def spec_l21Is.f (k:Nat) (l0:List (S112)) (l1_0:List Int) (a1_1:Int) (a1_2:Int) (a1_3:Int) (l1_4:List Bool) (a2:Int):Option (Bool):=(spec_l21Walk.f k l0 l1_0 a1_1 a1_2 a1_3 l1_4).bind fun bt348=>((spec_l6In.f a2 1 (l1_0.length:Int)).bind fun t352=>(if t352=true then ((spec_l21Starts.f k (l1_0.length:Int) bt348.1).bind fun t353=>(if 0≤(wrap64 (a2 - 1)) then (if (wrap64 (a2 - 1))<(t353.length:Int) then (some (rdOf false t353 (wrap64 (a2 - 1)))) else (none)) else (none))) else (some false)))
set_option maxHeartbeats 8000000 in
set_option maxRecDepth 100000 in
theorem spec_l21Is.calls (k:Nat) (A0:Option Addr) (c0:Nat) (l0:List (S112)) (A1_0:Option Addr) (c1_0:Nat) (l1_0:List Int) (a1_1:Int) (a1_2:Int) (a1_3:Int) (A1_4:Option Addr) (c1_4:Nat) (l1_4:List Bool) (a2:Int) (r:Bool) (w:World) (hr0:Kd.C k112 w A0 l0.length l0) (hc0:l0.length≤c0) (hr1_0:Kd.C (Kd.int .i64) w A1_0 l1_0.length l1_0) (hc1_0:l1_0.length≤c1_0) (hr1_4:Kd.C Kd.bool w A1_4 l1_4.length l1_4) (hc1_4:l1_4.length≤c1_4) (h:spec_l21Is.f k l0 l1_0 a1_1 a1_2 a1_3 l1_4 a2=some r):
  Calls Try.prog 77 #[.slice A0 l0.length c0,.agg #[.slice A1_0 l1_0.length c1_0,.int .i64 a1_1,.int .i64 a1_2,.int .i64 a1_3,.slice A1_4 l1_4.length c1_4],.int .i64 a2] w fun e w'=>e= .returned (.bool r)∧Below w.heap.size w w':=by
 have hu27:=Try.underlying27;have HR0:=aK hr0;have HC0:=aK hc0;clear hr0 hc0;have HR1_0:=aK hr1_0;have HC1_0:=aK hc1_0;clear hr1_0 hc1_0;have HR1_4:=aK hr1_4;have HC1_4:=aK hc1_4;clear hr1_4 hc1_4;have HB:=aK (Below.refl w.heap.size w);have H:((spec_l21Walk.f k l0 l1_0 a1_1 a1_2 a1_3 l1_4).bind fun bt348=>((spec_l6In.f a2 1 (l1_0.length:Int)).bind fun t352=>(if t352=true then ((spec_l21Starts.f k (l1_0.length:Int) bt348.1).bind fun t353=>(if 0≤(wrap64 (a2 - 1)) then (if (wrap64 (a2 - 1))<(t353.length:Int) then (some (rdOf false t353 (wrap64 (a2 - 1)))) else (none)) else (none))) else (some false))))=some r:=h
 clear h;replace H:=Option.bind_eq_some_iff.mp H;obtain ⟨⟨t348,t351⟩,A40,H⟩:=H;(try dsimp only at H);have A4:=aK A40;clear A40;replace H:=Option.bind_eq_some_iff.mp H;obtain ⟨t352,A50,H⟩:=H;(try dsimp only at H);have A5:=aK A50;clear A50;by_cases c6:t352=true
 ·subst c6
  rw [if_pos rfl] at H;replace H:=Option.bind_eq_some_iff.mp H;obtain ⟨t353,A70,H⟩:=H;(try dsimp only at H);have A7:=aK A70;clear A70;obtain ⟨ji8,hji8⟩: ∃j_:Int,(wrap64 (a2 - 1))=j_:=⟨_,rfl⟩;replace H:(if 0≤(ji8) then (if (ji8)<(t353.length:Int) then (some (rdOf false t353 (ji8))) else (none)) else (none))=some r:=by first|(rw [hji8] at H;exact H)|(simp only [hji8] at H ⊢;exact H)
  (try rw [hji8] at A4)
  (try rw [hji8] at A5)
  (try rw [hji8] at A7)
  have hji8w:(IntKind.i64.wrap (a2 - 1))=ji8:=(i64_w _).trans hji8
  by_cases c9:0≤(ji8)
  ·rw [if_pos c9] at H
   have c9b0:decide (0≤(ji8))=true:=decide_eq_true c9
   clear c9;by_cases c10:(ji8)<(t353.length:Int)
   ·rw [if_pos c10] at H
    have c10b0:decide ((ji8)<(t353.length:Int))=true:=decide_eq_true c10
    clear c10;obtain rfl:=Option.some.inj H;go_enter Try.func77,Try.ntmps77
    go_wp2_with (first|((with_reducible refine gate_dst (N:=4) rfl ?_);(try (refine gate_guard (by rfl) ?_;dsimp only));refine box_event ?hg (N:=4) ?hd (cs:= #[.slice A1_0 l1_0.length c1_0,.int .i64 a1_1,.int .i64 a1_2,.int .i64 a1_3,.slice A1_4 l1_4.length c1_4]) (t:=27) ?hr ?_;(case hd=>rfl);(case hg=>rfl);(case hr=>first|(go_simp;done)|(go_simp;rfl));intro gb347 hg w11 hbox hb;have BK347:=aK (hbox);have GW347:=aK ((by rw [hg];exact (below_size zz1):w.heap.size≤gb347));have GE347:=aK ((by rw [hg];exact (below_size zz1):w.heap.size≤gb347));replace HB:=aK (below_step zz1 hb);clear hb hbox hg;obtain ⟨hcz12_0,hcz12_1,hcz12_2,hcz12_3,hcz12_4,hfz12_0,hfz12_1,hfz12_2,hfz12_3,hfz12_4⟩:=cbf5 BK347)|((with_reducible refine gate_callee (f:=40) rfl ?_);refine goesL_ (some 12) rfl rfl Try.func40 (by kernel_rfl) rfl #[.slice A0 l0.length c0,.agg #[.slice A1_0 l1_0.length c1_0,.int .i64 a1_1,.int .i64 a1_2,.int .i64 a1_3,.slice A1_4 l1_4.length c1_4]] rfl zz2 ?_;(with_reducible refine (spec_l21Walk.calls k _ _ l0 _ _ l1_0 a1_1 a1_2 a1_3 _ _ l1_4 t348 t351 _ ?side1 ?side2 ?side3 ?side4 ?side5 ?side6 A4.out).mono ?_);(case side1=>exact zz4);(case side2=>exact HC0.out);(case side3=>exact zz6);(case side4=>exact HC1_0.out);(case side5=>exact zz12);(case side6=>exact HC1_4.out);rintro e w13 ⟨v349,rfl,ho0,hb⟩;refine ⟨_,rfl,?_⟩;have HO350:=aK (Kd.R_lower ho0 (below_size zz23));replace BK347:=aK (blk_below (g:=gb347) (o:= .cells #[.slice A1_0 l1_0.length c1_0,.int .i64 a1_1,.int .i64 a1_2,.int .i64 a1_3,.slice A1_4 l1_4.length c1_4] 27 (0,0)) (by (with_reducible repeat (first|refine blk_drewN ?_ _|refine blk_drew ?_|refine blk_alloc ?_ _));exact BK347.out) hb);replace HB:=aK (below_step zz23 hb);(try clear hb);(try clear hb2);(try clear hk);(try clear hi);(try clear ho0);obtain ⟨hcz14_0,hcz14_1,hcz14_2,hcz14_3,hcz14_4,hfz14_0,hfz14_1,hfz14_2,hfz14_3,hfz14_4⟩:=cbf5 BK347)|((with_reducible refine gate_callee (f:=79) rfl ?_);refine goesL_ (some 19) rfl rfl Try.func79 (by kernel_rfl) rfl #[.int .i64 a2,.int .i64 1,.int .i64 (l1_0.length:Int)] rfl zz2 ?_;(with_reducible refine (spec_l6In.calls a2 1 (l1_0.length:Int) true _ A5.out).mono ?_);rintro e w' ⟨rfl,⟨nd,rfl⟩⟩;refine ⟨_,rfl,?_⟩;obtain ⟨Ao15,co15,eo15⟩:=Kd.R_slice HO350.out;subst eo15)|(go_at_call 42;(with_reducible refine (spec_l21Starts.calls k (l1_0.length:Int) _ _ t348 t353 _ ?side1 ?side2 A7.out).mono ?_);(case side1=>exact (by repeat (first|exact (Kd.R_reads' HO350.out).2.2|(with_reducible refine Kd.C_alloc ?_ _)|(with_reducible refine Kd.C_drewN ?_ _)|(with_reducible refine Kd.C_drew ?_))));(case side2=>exact (Kd.R_reads' HO350.out).2.1);rintro e w16 ⟨v354,rfl,ho0,hb⟩;have HO355:=aK (Kd.R_lower ho0 (below_size zz23));replace HO350:=aK (Kd.R_below (by (with_reducible repeat (first|apply Kd.R_alloc|apply Kd.R_drewN|apply Kd.R_drew));exact HO350.out) hb);replace BK347:=aK (blk_below (g:=gb347) (o:= .cells #[.slice A1_0 l1_0.length c1_0,.int .i64 a1_1,.int .i64 a1_2,.int .i64 a1_3,.slice A1_4 l1_4.length c1_4] 27 (0,0)) (by (with_reducible repeat (first|refine blk_drewN ?_ _|refine blk_drew ?_|refine blk_alloc ?_ _));exact BK347.out) hb);replace HB:=aK (below_step zz23 hb);(try clear hb);(try clear hb2);(try clear hk);(try clear hi);(try clear ho0);obtain ⟨Ao17,co17,eo17⟩:=Kd.R_slice HO355.out;subst eo17;have p356:0≤((ji8):Int):=of_decide_eq_true zz3;have q356:(ji8)<(t353.length:Int):=of_decide_eq_true zz3;obtain ⟨ad356,e356,hx356_0⟩:=Kd.at_bool (Kd.R_reads' HO355.out).2.2 (ji8) p356 q356;cases e356;replace p356:=eq_true p356;replace q356:=eq_true q356))
    go_ret;exact ⟨(by first|rfl|(simp [errW_none,errW_some]<;>rfl)|(simp only [←hji8];first|rfl|(simp [errW_none,errW_some]<;>rfl))|(simp [*,errW_none,errW_some]<;>rfl)),zz23⟩
   ·rw [if_neg c10] at H
    exact absurd H (by simp)
  ·rw [if_neg c9] at H
   exact absurd H (by simp)
 ·replace c6 := Bool.eq_false_iff.mpr c6
  subst c6;rw [if_neg (show¬(false=true) by decide)] at H;obtain rfl:=Option.some.inj H;go_enter Try.func77,Try.ntmps77
  go_wp2_with (first|((with_reducible refine gate_dst (N:=4) rfl ?_);(try (refine gate_guard (by rfl) ?_;dsimp only));refine box_event ?hg (N:=4) ?hd (cs:= #[.slice A1_0 l1_0.length c1_0,.int .i64 a1_1,.int .i64 a1_2,.int .i64 a1_3,.slice A1_4 l1_4.length c1_4]) (t:=27) ?hr ?_;(case hd=>rfl);(case hg=>rfl);(case hr=>first|(go_simp;done)|(go_simp;rfl));intro gb347 hg w18 hbox hb;have BK347:=aK (hbox);have GW347:=aK ((by rw [hg];exact (below_size zz1):w.heap.size≤gb347));have GE347:=aK ((by rw [hg];exact (below_size zz1):w.heap.size≤gb347));replace HB:=aK (below_step zz1 hb);clear hb hbox hg;obtain ⟨hcz19_0,hcz19_1,hcz19_2,hcz19_3,hcz19_4,hfz19_0,hfz19_1,hfz19_2,hfz19_3,hfz19_4⟩:=cbf5 BK347)|((with_reducible refine gate_callee (f:=40) rfl ?_);refine goesL_ (some 12) rfl rfl Try.func40 (by kernel_rfl) rfl #[.slice A0 l0.length c0,.agg #[.slice A1_0 l1_0.length c1_0,.int .i64 a1_1,.int .i64 a1_2,.int .i64 a1_3,.slice A1_4 l1_4.length c1_4]] rfl zz2 ?_;(with_reducible refine (spec_l21Walk.calls k _ _ l0 _ _ l1_0 a1_1 a1_2 a1_3 _ _ l1_4 t348 t351 _ ?side1 ?side2 ?side3 ?side4 ?side5 ?side6 A4.out).mono ?_);(case side1=>exact zz4);(case side2=>exact HC0.out);(case side3=>exact zz6);(case side4=>exact HC1_0.out);(case side5=>exact zz12);(case side6=>exact HC1_4.out);rintro e w20 ⟨v349,rfl,ho0,hb⟩;refine ⟨_,rfl,?_⟩;have HO350:=aK (Kd.R_lower ho0 (below_size zz23));replace BK347:=aK (blk_below (g:=gb347) (o:= .cells #[.slice A1_0 l1_0.length c1_0,.int .i64 a1_1,.int .i64 a1_2,.int .i64 a1_3,.slice A1_4 l1_4.length c1_4] 27 (0,0)) (by (with_reducible repeat (first|refine blk_drewN ?_ _|refine blk_drew ?_|refine blk_alloc ?_ _));exact BK347.out) hb);replace HB:=aK (below_step zz23 hb);(try clear hb);(try clear hb2);(try clear hk);(try clear hi);(try clear ho0);obtain ⟨hcz21_0,hcz21_1,hcz21_2,hcz21_3,hcz21_4,hfz21_0,hfz21_1,hfz21_2,hfz21_3,hfz21_4⟩:=cbf5 BK347)|((with_reducible refine gate_callee (f:=79) rfl ?_);refine goesL_ (some 19) rfl rfl Try.func79 (by kernel_rfl) rfl #[.int .i64 a2,.int .i64 1,.int .i64 (l1_0.length:Int)] rfl zz2 ?_;(with_reducible refine (spec_l6In.calls a2 1 (l1_0.length:Int) false _ A5.out).mono ?_);rintro e w' ⟨rfl,⟨nd,rfl⟩⟩;refine ⟨_,rfl,?_⟩))
  go_ret;exact ⟨zz8,zz23⟩
def spec_l21Inside.f (k:Nat) (l0:List (S112)) (l1_0:List Int) (a1_1:Int) (a1_2:Int) (a1_3:Int) (l1_4:List Bool) (a2:Int) (a3:Int):Option (Int×Bool):=(spec_l21Is.f k l0 l1_0 a1_1 a1_2 a1_3 l1_4 a2).bind fun t358=>(if t358=true then (if 0≤(wrap64 (a2 - 1)) then (if (wrap64 (a2 - 1))<(l1_0.length:Int) then ((spec_l21Head.f (rd l1_0 (wrap64 (a2 - 1)))).bind fun t360=>((spec_l21Size.f k l0 l1_0 (wrap64 (a2 - 1)) (l1_0.length:Int)).bind fun t361=>((spec_l6In.f a3 0 (wrap64 ((wrap64 (t361 - t360)) - 1))).bind fun t362=>(some (wrap64 ((wrap64 ((wrap64 (a2 - 1))+t360))+a3),t362))))) else (none)) else (none)) else (some (0,false)))
set_option maxHeartbeats 8000000 in
set_option maxRecDepth 100000 in
theorem spec_l21Inside.calls (k:Nat) (A0:Option Addr) (c0:Nat) (l0:List (S112)) (A1_0:Option Addr) (c1_0:Nat) (l1_0:List Int) (a1_1:Int) (a1_2:Int) (a1_3:Int) (A1_4:Option Addr) (c1_4:Nat) (l1_4:List Bool) (a2:Int) (a3:Int) (r1:Int) (r2:Bool) (w:World) (hr0:Kd.C k112 w A0 l0.length l0) (hc0:l0.length≤c0) (hr1_0:Kd.C (Kd.int .i64) w A1_0 l1_0.length l1_0) (hc1_0:l1_0.length≤c1_0) (hr1_4:Kd.C Kd.bool w A1_4 l1_4.length l1_4) (hc1_4:l1_4.length≤c1_4) (h:spec_l21Inside.f k l0 l1_0 a1_1 a1_2 a1_3 l1_4 a2 a3=some (r1,r2)):
  Calls Try.prog 38 #[.slice A0 l0.length c0,.agg #[.slice A1_0 l1_0.length c1_0,.int .i64 a1_1,.int .i64 a1_2,.int .i64 a1_3,.slice A1_4 l1_4.length c1_4],.int .i64 a2,.int .i64 a3] w fun e w'=>e= .returned (.tuple #[.int .i64 r1,.bool r2])∧Below w.heap.size w w':=by
 have hu27:=Try.underlying27;have HR0:=aK hr0;have HC0:=aK hc0;clear hr0 hc0;have HR1_0:=aK hr1_0;have HC1_0:=aK hc1_0;clear hr1_0 hc1_0;have HR1_4:=aK hr1_4;have HC1_4:=aK hc1_4;clear hr1_4 hc1_4;have HB:=aK (Below.refl w.heap.size w);have H:((spec_l21Is.f k l0 l1_0 a1_1 a1_2 a1_3 l1_4 a2).bind fun t358=>(if t358=true then (if 0≤(wrap64 (a2 - 1)) then (if (wrap64 (a2 - 1))<(l1_0.length:Int) then ((spec_l21Head.f (rd l1_0 (wrap64 (a2 - 1)))).bind fun t360=>((spec_l21Size.f k l0 l1_0 (wrap64 (a2 - 1)) (l1_0.length:Int)).bind fun t361=>((spec_l6In.f a3 0 (wrap64 ((wrap64 (t361 - t360)) - 1))).bind fun t362=>(some (wrap64 ((wrap64 ((wrap64 (a2 - 1))+t360))+a3),t362))))) else (none)) else (none)) else (some (0,false))))=some (r1,r2):=h
 clear h;replace H:=Option.bind_eq_some_iff.mp H;obtain ⟨t358,A50,H⟩:=H;(try dsimp only at H);have A5:=aK A50;clear A50;by_cases c6:t358=true
 ·subst c6
  rw [if_pos rfl] at H;obtain ⟨ji7,hji7⟩: ∃j_:Int,(wrap64 (a2 - 1))=j_:=⟨_,rfl⟩;replace H:(if 0≤(ji7) then (if (ji7)<(l1_0.length:Int) then ((spec_l21Head.f (rd l1_0 (ji7))).bind fun t360=>((spec_l21Size.f k l0 l1_0 (ji7) (l1_0.length:Int)).bind fun t361=>((spec_l6In.f a3 0 (wrap64 ((wrap64 (t361 - t360)) - 1))).bind fun t362=>(some (wrap64 ((wrap64 ((ji7)+t360))+a3),t362))))) else (none)) else (none))=some (r1,r2):=by first|(rw [hji7] at H;exact H)|(simp only [hji7] at H ⊢;exact H)
  (try rw [hji7] at A5)
  have hji7w:(IntKind.i64.wrap (a2 - 1))=ji7:=(i64_w _).trans hji7
  by_cases c8:0≤(ji7)
  ·rw [if_pos c8] at H
   have c8b0:decide (0≤(ji7))=true:=decide_eq_true c8
   clear c8;by_cases c9:(ji7)<(l1_0.length:Int)
   ·rw [if_pos c9] at H
    have c9b0:decide ((ji7)<(l1_0.length:Int))=true:=decide_eq_true c9
    clear c9;replace H:=Option.bind_eq_some_iff.mp H;obtain ⟨t360,A100,H⟩:=H;(try dsimp only at H);have A10:=aK A100;clear A100;replace H:=Option.bind_eq_some_iff.mp H;obtain ⟨t361,A110,H⟩:=H;(try dsimp only at H);have A11:=aK A110;clear A110;replace H:=Option.bind_eq_some_iff.mp H;obtain ⟨t362,A120,H⟩:=H;(try dsimp only at H);have A12:=aK A120;clear A120;simp only [Option.some.injEq,Prod.mk.injEq] at H;obtain ⟨rfl,rfl⟩:=H;go_enter Try.func38,Try.ntmps38
    go_wp2_with (first|((with_reducible refine gate_dst (N:=5) rfl ?_);refine box_event ?hg (N:=5) ?hd (cs:= #[.slice A1_0 l1_0.length c1_0,.int .i64 a1_1,.int .i64 a1_2,.int .i64 a1_3,.slice A1_4 l1_4.length c1_4]) (t:=27) ?hr ?_;(case hd=>rfl);(case hg=>rfl);(case hr=>first|(go_simp;done)|(go_simp;rfl));intro gb357 hg w13 hbox hb;have BK357:=aK (hbox);have GW357:=aK ((by rw [hg];exact (below_size zz1):w.heap.size≤gb357));have GE357:=aK ((by rw [hg];exact (below_size zz1):w.heap.size≤gb357));replace HB:=aK (below_step zz1 hb);clear hb hbox hg;obtain ⟨hcz14_0,hcz14_1,hcz14_2,hcz14_3,hcz14_4,hfz14_0,hfz14_1,hfz14_2,hfz14_3,hfz14_4⟩:=cbf5 BK357)|((with_reducible refine gate_callee (f:=77) rfl ?_);refine goesL_ (some 14) rfl rfl Try.func77 (by kernel_rfl) rfl #[.slice A0 l0.length c0,.agg #[.slice A1_0 l1_0.length c1_0,.int .i64 a1_1,.int .i64 a1_2,.int .i64 a1_3,.slice A1_4 l1_4.length c1_4],.int .i64 a2] rfl zz2 ?_;(with_reducible refine (spec_l21Is.calls k _ _ l0 _ _ l1_0 a1_1 a1_2 a1_3 _ _ l1_4 a2 true _ ?side1 ?side2 ?side3 ?side4 ?side5 ?side6 A5.out).mono ?_);(case side1=>exact zz4);(case side2=>exact HC0.out);(case side3=>exact zz6);(case side4=>exact HC1_0.out);(case side5=>exact zz12);(case side6=>exact HC1_4.out);rintro e w15 ⟨rfl,hb⟩;refine ⟨_,rfl,?_⟩;replace BK357:=aK (blk_below (g:=gb357) (o:= .cells #[.slice A1_0 l1_0.length c1_0,.int .i64 a1_1,.int .i64 a1_2,.int .i64 a1_3,.slice A1_4 l1_4.length c1_4] 27 (0,0)) (by (with_reducible repeat (first|refine blk_drewN ?_ _|refine blk_drew ?_|refine blk_alloc ?_ _));exact BK357.out) hb);replace HB:=aK (below_step zz28 hb);(try clear hb);(try clear hb2);(try clear hk);(try clear hi);obtain ⟨hcz16_0,hcz16_1,hcz16_2,hcz16_3,hcz16_4,hfz16_0,hfz16_1,hfz16_2,hfz16_3,hfz16_4⟩:=cbf5 BK357;have p359:0≤((ji7):Int):=of_decide_eq_true zz3;have q359:(ji7)<(l1_0.length:Int):=of_decide_eq_true zz3;obtain ⟨ad359,e359,hx359_0⟩:=Kd.at_int HR1_0.out (ji7) p359 q359;cases e359;replace hx359_0:=(HB.out.cell (World.block_lt_of_cell? w _ hx359_0)).trans hx359_0;replace p359:=eq_true p359;replace q359:=eq_true q359)|((with_reducible refine gate_callee (f:=78) rfl ?_);refine goesL_ (some 22) rfl rfl Try.func78 (by kernel_rfl) rfl #[.int .i64 (rd l1_0 (ji7))] rfl (by (try simp only [List.map_toArray,List.map_cons,List.map_nil]);first|done|(simp only [hji7];rfl)|rfl|(simp only [List.length_drop,List.length_take];rfl)) ?_;(with_reducible refine (spec_l21Head.calls (rd l1_0 (ji7)) t360 _ A10.out).mono ?_);rintro e w' ⟨rfl,⟨nd,rfl⟩⟩;refine ⟨_,rfl,?_⟩)|((with_reducible refine gate_callee (f:=80) rfl ?_);refine goesL_ (some 38) rfl rfl Try.func80 (by kernel_rfl) rfl #[.slice A0 l0.length c0,.slice (some ad359) l1_0.length c1_0,.int .i64 ji7,.int .i64 (l1_0.length:Int)] rfl (by (try simp only [List.map_toArray,List.map_cons,List.map_nil]);first|done|(simp only [hji7];rfl)|rfl|(simp only [List.length_drop,List.length_take];rfl)) ?_;(with_reducible refine (spec_l21Size.calls k _ _ l0 _ _ l1_0 ji7 (l1_0.length:Int) t361 _ ?side1 ?side2 ?side3 ?side4 A11.out).mono ?_);(case side1=>repeat (first|exact (Kd.C_below HR0.out zz28)|(with_reducible refine Kd.C_alloc ?_ _)|(with_reducible refine Kd.C_drewN ?_ _)|(with_reducible refine Kd.C_drew ?_)));(case side2=>exact HC0.out);(case side3=>repeat (first|exact (Kd.C_below HR1_0.out zz28)|(with_reducible refine Kd.C_alloc ?_ _)|(with_reducible refine Kd.C_drewN ?_ _)|(with_reducible refine Kd.C_drew ?_)));(case side4=>exact HC1_0.out);rintro e w17 ⟨rfl,hb⟩;refine ⟨_,rfl,?_⟩;replace BK357:=aK (blk_below (g:=gb357) (o:= .cells #[.slice (some ad359) l1_0.length c1_0,.int .i64 a1_1,.int .i64 a1_2,.int .i64 a1_3,.slice A1_4 l1_4.length c1_4] 27 (0,0)) (by (with_reducible repeat (first|refine blk_drewN ?_ _|refine blk_drew ?_|refine blk_alloc ?_ _));exact BK357.out) hb);replace HB:=aK (below_step zz28 hb);(try clear hb);(try clear hb2);(try clear hk);(try clear hi))|((with_reducible refine gate_callee (f:=79) rfl ?_);refine goesL_ (some 42) rfl rfl Try.func79 (by kernel_rfl) rfl #[.int .i64 a3,.int .i64 0,.int .i64 (wrap64 ((wrap64 (t361 - t360)) - 1))] rfl zz2 ?_;(with_reducible refine (spec_l6In.calls a3 0 (wrap64 ((wrap64 (t361 - t360)) - 1)) t362 _ A12.out).mono ?_);rintro e w' ⟨rfl,⟨nd,rfl⟩⟩;refine ⟨_,rfl,?_⟩))
    go_ret2
    exact ⟨(by first|rfl|(simp [errW_none,errW_some]<;>rfl)|(simp only [←hji7];first|rfl|(simp [errW_none,errW_some]<;>rfl))|(simp [*,errW_none,errW_some]<;>rfl)),zz28⟩
   ·rw [if_neg c9] at H
    exact absurd H (by simp)
  ·rw [if_neg c8] at H
   exact absurd H (by simp)
 ·replace c6 := Bool.eq_false_iff.mpr c6
  subst c6;rw [if_neg (show¬(false=true) by decide)] at H;simp only [Option.some.injEq,Prod.mk.injEq] at H;obtain ⟨rfl,rfl⟩:=H;go_enter Try.func38,Try.ntmps38
  go_wp2_with (first|((with_reducible refine gate_dst (N:=5) rfl ?_);refine box_event ?hg (N:=5) ?hd (cs:= #[.slice A1_0 l1_0.length c1_0,.int .i64 a1_1,.int .i64 a1_2,.int .i64 a1_3,.slice A1_4 l1_4.length c1_4]) (t:=27) ?hr ?_;(case hd=>rfl);(case hg=>rfl);(case hr=>first|(go_simp;done)|(go_simp;rfl));intro gb357 hg w18 hbox hb;have BK357:=aK (hbox);have GW357:=aK ((by rw [hg];exact (below_size zz1):w.heap.size≤gb357));have GE357:=aK ((by rw [hg];exact (below_size zz1):w.heap.size≤gb357));replace HB:=aK (below_step zz1 hb);clear hb hbox hg;obtain ⟨hcz19_0,hcz19_1,hcz19_2,hcz19_3,hcz19_4,hfz19_0,hfz19_1,hfz19_2,hfz19_3,hfz19_4⟩:=cbf5 BK357)|((with_reducible refine gate_callee (f:=77) rfl ?_);refine goesL_ (some 14) rfl rfl Try.func77 (by kernel_rfl) rfl #[.slice A0 l0.length c0,.agg #[.slice A1_0 l1_0.length c1_0,.int .i64 a1_1,.int .i64 a1_2,.int .i64 a1_3,.slice A1_4 l1_4.length c1_4],.int .i64 a2] rfl zz2 ?_;(with_reducible refine (spec_l21Is.calls k _ _ l0 _ _ l1_0 a1_1 a1_2 a1_3 _ _ l1_4 a2 false _ ?side1 ?side2 ?side3 ?side4 ?side5 ?side6 A5.out).mono ?_);(case side1=>exact zz4);(case side2=>exact HC0.out);(case side3=>exact zz6);(case side4=>exact HC1_0.out);(case side5=>exact zz12);(case side6=>exact HC1_4.out);rintro e w20 ⟨rfl,hb⟩;refine ⟨_,rfl,?_⟩;replace BK357:=aK (blk_below (g:=gb357) (o:= .cells #[.slice A1_0 l1_0.length c1_0,.int .i64 a1_1,.int .i64 a1_2,.int .i64 a1_3,.slice A1_4 l1_4.length c1_4] 27 (0,0)) (by (with_reducible repeat (first|refine blk_drewN ?_ _|refine blk_drew ?_|refine blk_alloc ?_ _));exact BK357.out) hb);replace HB:=aK (below_step zz28 hb);(try clear hb);(try clear hb2);(try clear hk);(try clear hi)))
  go_ret2
  exact ⟨zz8,zz28⟩
end Go.Proofs.Ytnlieahdakafbaa.K
