import Derived.Test.YtbaklikaoleplaaPh4
import Derived.Test.YtbaklikaoleplaaPh3
namespace Go.Proofs.YtbaklikaoleplaaW.PrintLast
open Go.Proofs.YtbaklikaoleplaaW.PrintWords (Aside0)
def bCo (md:Region.Mode) (o:Oper):List Nat:=(o.after.toList.filter (fun e=>Region.binds md e)).map (fun e=>e.on)
def bKl (md:Region.Mode) (ops:Array Oper) (i:Nat) (oi:Oper):List Nat:=(List.range ops.size).filter fun j=>!(j==i)&&match ops[j]? with
  |some oj=>!(oj.after.any (fun e=>Region.binds md e&&e.on==i)||oi.apart ops oj)
  |none=>false
def vF (md:Region.Mode) (ops:Array Oper):Bool×List (List Nat×List Nat):=(Region.noSelect ops,(List.range ops.size).map fun i=>match ops[i]? with
  |some o=>(bCo md o,bKl md ops i o)
  |none=>([],[]))
def zQ (T:List (List Nat×List Nat)) (l:List Bool) (i:Nat):Bool:=!l.getD i true&&match T[i]? with
  |some r=>r.1.all (fun j=>l.getD j false)
  |none=>false
def bFi (T:List (List Nat×List Nat)) (l:List Bool):List Nat:=(List.range T.length).filter (zQ T l)
def bMb (T:List (List Nat×List Nat)) (l:List Bool) (i:Nat):Bool:=match T[i]? with
  |some r=>r.2.all (fun j=>l.getD j true)
  |none=>false
def bGu (T:List (List Nat×List Nat)) (l:List Bool):Bool:=(List.range T.length).all fun j=>!l.getD j false||match T[j]? with
  |some r=>r.1.all (fun k=>l.getD k false)
  |none=>true
def bFj (T : List (List Nat × List Nat)) (i : Nat) : Nat → Nat → Bool
  |0,_=>false
  | fuel + 1, d => match T[d]? with
    |some r=>r.1.any fun j=>j==i||bFj T i fuel j
    |none=>false
def bOl (T:List (List Nat×List Nat)) (l:List Bool) (ds:List Nat) (i:Nat):Bool:=ds.all fun d=>l.getD d true||bFj T i T.length d
section
variable {md:Region.Mode} {ops:Array Oper} {T:Bool×List (List Nat×List Nat)} {l l' li lj lk:Array Bool} {ds:List Nat} {i j k:Nat}
theorem gd (l:Array Bool) (j:Nat) (b:Bool):l.getD j b=l.toList.getD j b:=by simp [Array.getD_eq_getD_getElem?,List.getD_eq_getElem?_getD]
theorem bIy (o:Oper) (p:Nat→Bool):o.after.all (fun e=>!Region.binds md e||p e.on)=(bCo md o).all p:=by
  unfold bCo;rw [←Array.all_toList]
  induction o.after.toList with
  |nil=>rfl
  | cons e r ih =>
    rw [List.all_cons,ih,List.filter_cons]
    cases h:Region.binds md e<;>simp
theorem bPm (o:Oper) (p:Nat→Bool):o.after.any (fun e=>Region.binds md e&&p e.on)=(bCo md o).any p:=by
  unfold bCo;rw [←Array.any_toList]
  induction o.after.toList with
  |nil=>rfl
  | cons e r ih =>
    rw [List.any_cons,ih,List.filter_cons]
    cases h:Region.binds md e<;>simp
theorem zP:(vF md ops).2.length=ops.size:=by simp [vF]
theorem bCi {o:Oper} (h:ops[i]? =some o):(vF md ops).2[i]? =some (bCo md o,bKl md ops i o):=by
  have hi:=(Array.getElem?_eq_some_iff.1 h).1;unfold vF;rw [List.getElem?_map,List.getElem?_range hi,Option.map_some,h]
theorem bCj (h:ops[i]? =none):(vF md ops).2[i]? =none:=by
  have hi:ops.size≤i:=Array.getElem?_eq_none_iff.1 h
  exact List.getElem?_eq_none (by rw [zP];exact hi)
theorem bNc:zQ (vF md ops).2 l.toList i=(!l.getD i true&&((ops[i]?).map (·.after.all fun e=>!Region.binds md e||l.getD e.on false)).getD false):=by
  unfold zQ;rw [gd]
  cases h:ops[i]? with
  |none=>rw [bCj h];rfl
  | some o =>
    rw [bCi h];simp only [Option.map_some,Option.getD_some]
    rw [←bIy];simp only [gd]
theorem bEq:Region.ready md ops l=bFi (vF md ops).2 l.toList:=by
  unfold Region.ready bFi;rw [zP];refine List.filter_congr (fun i _=>?_);rw [bNc]
theorem bOn:Region.free md ops l i=bMb (vF md ops).2 l.toList i:=by
  unfold Region.free bMb
  cases h:ops[i]? with
  |none=>rw [bCj h]
  | some oi =>
    rw [bCi h];simp only [bKl]
    rw [List.all_filter]
    congr 1
    funext j
    rw [gd]
    cases hj:ops[j]? with
    |none=>cases (j==i)<;>cases (l.toList.getD j true)<;>simp
    | some oj =>
      cases (j==i)<;>cases (l.toList.getD j true)<;>cases (oj.after.any (fun e=>Region.binds md e&&e.on==i)||oi.apart ops oj)<;>simp_all
theorem bPz:Region.closedB md ops l=bGu (vF md ops).2 l.toList:=by
  unfold Region.closedB bGu;rw [zP]
  congr 1
  funext j
  rw [gd]
  cases h:ops[j]? with
  |none=>rw [bCj h]
  | some o =>
    rw [bCi h];simp only
    rw [←bIy];simp only [gd]
theorem bLj: ∀(fuel d:Nat),Region.reachB md ops i fuel d=bFj (vF md ops).2 i fuel d
  |0,_=>rfl
  | fuel + 1, d => by
    unfold Region.reachB bFj
    cases h:ops[d]? with
    |none=>rw [bCj h]
    | some o =>
      rw [bCi h];simp only
      rw [←bPm]
      congr 1
      funext e
      rw [bLj fuel]
theorem last_eq:Region.lastB md ops l ds i=bOl (vF md ops).2 l.toList ds i:=by
  unfold Region.lastB bOl;rw [zP]
  congr 1
  funext d
  rw [gd,bLj]
theorem bFu (h:zQ T.2 l.toList i=true) (hT:vF md ops=T):(Region.ready md ops l).contains i=true:=by
  subst hT;rw [bEq];unfold bFi;rw [List.contains_iff_mem,List.mem_filter,List.mem_range];refine ⟨?_,h⟩;unfold zQ at h;rw [Bool.and_eq_true] at h
  cases hq:(vF md ops).2[i]? with
  |none=>rw [hq] at h;simp at h
  |some r=>exact (List.getElem?_eq_some_iff.1 hq).1
theorem bHe (h:(l.toList.set i true==l'.toList)=true):(l.setIfInBounds i true==l')=true:=by
  rw [beq_iff_eq] at h ⊢;apply Array.ext'
  rw [Array.toList_setIfInBounds];exact h
def bSj (T:Bool×List (List Nat×List Nat)) (l l':List Bool) (i:Nat):Bool:=T.1&&bMb T.2 l i&&zQ T.2 l i&&(l.set i true==l')
theorem bNw (hT:vF md ops=T) (h:bSj T l.toList l'.toList i=true):bMk md ops l l' i=true:=by
  simp only [bSj,Bool.and_eq_true] at h;obtain ⟨⟨⟨h1,h2⟩,h3⟩,h4⟩:=h;have h5:=bFu h3 hT;have h6:=bHe h4;subst hT;simp only [bMk,Bool.and_eq_true]
  exact ⟨⟨⟨h1,by rw [bOn];exact h2⟩,h5⟩,h6⟩
def bQw (T:Bool×List (List Nat×List Nat)) (ds:List Nat) (l l':List Bool) (i:Nat):Bool:=T.1&&bMb T.2 l i&&zQ T.2 l i&&bGu T.2 l&&bOl T.2 l ds i&&(l.set i true==l')
theorem take_of (hT:vF md ops=T) (h:bQw T ds l.toList l'.toList i=true):bIo md ops ds l l' i=true:=by
  simp only [bQw,Bool.and_eq_true] at h;obtain ⟨⟨⟨⟨⟨h1,h2⟩,h3⟩,h4⟩,h5⟩,h6⟩:=h;have h7:=bFu h3 hT;have h8:=bHe h6;subst hT;simp only [bIo,Bool.and_eq_true]
  exact ⟨⟨⟨⟨⟨h1,by rw [bOn];exact h2⟩,h7⟩,by rw [bPz];exact h4⟩,by rw [last_eq];exact h5⟩,h8⟩
theorem mT (hT:vF md ops=T) (h:(bFi T.2 l.toList==[i]&&l.toList.set i true==l'.toList)=true):bDs md ops l l' i=true:=by
  simp only [Bool.and_eq_true] at h;obtain ⟨h1,h2⟩:=h;subst hT;simp only [bDs,Bool.and_eq_true]
  exact ⟨by rw [bEq];exact h1,bHe h2⟩
theorem bQu (hT:vF md ops=T) (h:(bFi T.2 l.toList==[i,j]&&l.toList.set i true==li.toList&&l.toList.set j true==lj.toList)=true):(Region.ready md ops l==[i,j]&&l.setIfInBounds i true==li&&l.setIfInBounds j true==lj)=true:=by
  simp only [Bool.and_eq_true] at h ⊢;obtain ⟨⟨h1,h2⟩,h3⟩:=h;subst hT;exact ⟨⟨by rw [bEq];exact h1,bHe h2⟩,bHe h3⟩
theorem vH (hT:vF md ops=T) (h:(bFi T.2 l.toList==[])=true):(Region.ready md ops l==[])=true:=by
  subst hT;rw [bEq];exact h
def upM (B:List Nat) (d:Nat):List Nat→Nat
  |[]=>0
  |n::r=>(2 ^ n ||| (if n<d then B.getD n 0 else 0)) ||| upM B d r
def xY (T:List (List Nat×List Nat)) (B:List Nat):Bool:=(List.range T.length).all fun d=>match T[d]? with
  |some r=>(B.getD d 0 ||| upM B d r.1)==upM B d r.1
  |none=>false
theorem bOe {B : List Nat} {d i : Nat} : ∀ {ns : List Nat}, (upM B d ns).testBit i = true → ∃ n ∈ ns, n = i ∨ (n < d ∧ (B.getD n 0).testBit i = true)
  |[],h=>by simp [upM] at h
  | n :: r, h => by
    unfold upM at h;rw [Nat.testBit_or,Nat.testBit_or,Bool.or_eq_true,Bool.or_eq_true] at h;rcases h with (h|h)|h
    · rw [Nat.testBit_two_pow] at h
      exact ⟨n,List.mem_cons_self,.inl (by simpa using h)⟩
    · by_cases hn : n < d
      · rw [if_pos hn] at h
        exact ⟨n,List.mem_cons_self,.inr ⟨hn,h⟩⟩
      · rw [if_neg hn] at h
        simp at h
    · obtain ⟨m, hm, h2⟩ := bOe h
      exact ⟨m,List.mem_cons_of_mem _ hm,h2⟩
theorem bIv {T:List (List Nat×List Nat)} {B:List Nat} (hB:xY T B=true): ∀(fuel d:Nat),d<fuel→d<T.length→(B.getD d 0).testBit i=true→bFj T i fuel d=true
  |0,d,h,_,_=>by omega
  | fuel + 1, d, h, hd, hb => by
    have h1:=List.all_eq_true.1 hB d (List.mem_range.2 hd)
    cases hr:T[d]? with
    |none=>rw [hr] at h1;simp at h1
    | some r =>
      rw [hr] at h1;simp only [beq_iff_eq] at h1;have h2:(upM B d r.1).testBit i=true:=by rw [←h1,Nat.testBit_or,hb,Bool.true_or]
      obtain ⟨n,hn,h3⟩:=bOe h2;unfold bFj;rw [hr];simp only
      rw [List.any_eq_true];refine ⟨n,hn,?_⟩;rcases h3 with rfl|⟨h4,h5⟩
      · simp
      · rw [bIv hB fuel n (by omega) (by omega) h5,Bool.or_true]
def lastW (T:List (List Nat×List Nat)) (B:List Nat) (l:List Bool) (ds:List Nat) (i:Nat):Bool:=ds.all fun d=>l.getD d true||(decide (d<T.length)&&(B.getD d 0).testBit i)
def takeW (T:Bool×List (List Nat×List Nat)) (B:List Nat) (ds:List Nat) (l l':List Bool) (i:Nat):Bool:=T.1&&bMb T.2 l i&&zQ T.2 l i&&bGu T.2 l&&lastW T.2 B l ds i&&(l.set i true==l')
theorem jR {B:List Nat} (hT:vF md ops=T) (hB:xY T.2 B=true) (h:takeW T B ds l.toList l'.toList i=true):bIo md ops ds l l' i=true:=by
  refine take_of hT ?_;simp only [takeW,bQw,Bool.and_eq_true] at h ⊢;obtain ⟨⟨⟨⟨⟨h1,h2⟩,h3⟩,h4⟩,h5⟩,h6⟩:=h;refine ⟨⟨⟨⟨⟨h1,h2⟩,h3⟩,h4⟩,?_⟩,h6⟩;unfold lastW at h5;unfold bOl;rw [List.all_eq_true] at h5 ⊢;intro d hd;have h7:=h5 d hd;rw [Bool.or_eq_true,Bool.and_eq_true,decide_eq_true_eq] at h7;rcases h7 with h7|⟨h8,h9⟩
  · rw [h7,Bool.true_or]
  · rw [bIv hB _ d h8 h8 h9,Bool.or_true]
theorem qZ {P:Program} {Q:Exit→Act→World→Prop} {S:World→Prop} {n:Nat} {a:Act} {w:World} {B:List Nat} (hT:vF md ops=T) (hB:xY T.2 B=true) (h:Aside0 (vF md ops=T)→Aside0 (xY T.2 B=true)→fD P md ops Q S ds n l a w):fD P md ops Q S ds n l a w:=h ⟨hT⟩ ⟨hB⟩
end
def bDg : Code → Nat → Option (Array Oper)
  | .region id ops _,k=>if id==k then some ops else none
  | .seq a b, k => match bDg a k with
    |some o=>some o
    |none=>bDg b k
  | .cond _ a b, k => match bDg a k with
    |some o=>some o
    |none=>bDg b k
  | .block _ c,k=>bDg c k
  | .loop c,k=>bDg c k
  | .scope c,k=>bDg c k
  | .rangeFunc _ _ a b, k => match bDg a k with
    |some o=>some o
    |none=>bDg b k
  |_,_=>none
def bLl (f:Func) (k:Nat):Array Oper:=((f.body.bind fun c=>bDg c k)).getD #[]
end Go.Proofs.YtbaklikaoleplaaW.PrintLast
