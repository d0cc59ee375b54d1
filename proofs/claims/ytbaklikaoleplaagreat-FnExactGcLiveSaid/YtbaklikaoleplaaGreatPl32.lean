import Derived.Test.YtbaklikaoleplaaGreatPl24
import Derived.Test.YtbaklikaoleplaaGreatPl28
import Derived.Test.YtbaklikaoleplaaGreatPl31
import Derived.Test.YtbaklikaoleplaaGreatPl30
import Derived.Shelf.Sort.Plain
import Derived.Shelf.Slices.In.SortNone
import Derived.WalkMore
import Derived.Laws.EntriesVeiled
import Derived.Test.YtbaklikaoleplaaGreatPl29
set_option maxHeartbeats 64000000
set_option maxRecDepth 100000
namespace Go.Proofs.YtbaklikaoleplaaGreat.K
open Go.RowKit Go.Proofs.YtbaklikaoleplaaGreatW.PrintWords Go.Proofs.YtbaklikaoleplaaGreatW.PrintLast Go.Proofs.YtbaklikaoleplaaGreatW.PrintMore
attribute [local go_sem] gV gT jT jS fY fX gU gR
set_option linter.unusedVariables false
set_option linter.unusedSimpArgs false
def bFj (k q : Nat) (l0 : List S78) (ws : List Int) (y t o : Int) (cs : List Bool) (roots : List Int) : Option (Option Mm) :=
  (yY k q l0 ws y t o cs).bind fun r=>match r with
    |none=>some none
    |some m=>(rC q m roots).bind fun b=>some (if b=true then some m else none)
theorem bGc (k q:Nat) (A0:Option Addr) (c0:Nat) (l0:List (S78)) (A1:Option Addr) (c1:Nat) (ws:List Int) (y t o:Int) (A4:Option Addr) (c4:Nat) (cs:List Bool) (AR:Option Addr) (cR:Nat) (roots:List Int) (r:Option Mm) (w:World)
  (hr0:Kd.C yD w A0 l0.length l0) (hc0:l0.length≤c0) (hr1:Kd.C (Kd.int .i64) w A1 ws.length ws) (hc1:ws.length≤c1) (hr4:Kd.C Kd.bool w A4 cs.length cs) (hc4:cs.length≤c4) (hr5:Kd.C (Kd.int .i64) w AR roots.length roots) (hl5:roots.length≤281474976710656) (h:bFj k q l0 ws y t o cs roots=some r):
  Calls Tryz.prog 40 #[.slice A0 l0.length c0,.agg #[.slice A1 ws.length c1,.int .i64 y,.int .i64 t,.int .i64 o,.slice A4 cs.length c4],.slice AR roots.length cR] w (bHv w r):=by
 unfold bFj at h;obtain ⟨m,hm,h⟩:=Option.bind_eq_some_iff.mp h;have HM:=aK hm;have HR0:=aK hr0;have HC0:=aK hc0;have HR1:=aK hr1;have HC1:=aK hc1;have HR4:=aK hr4;have HC4:=aK hc4;have HR5:=aK hr5;have HL5:=aK hl5;have HB:=aK (bI (bQ w.heap.size w) (.cells #[.slice A1 ws.length c1,.int .i64 y,.int .i64 t,.int .i64 o,.slice A4 cs.length c4] 27 (0,0)));have HH:=aK h;clear hr0 hc0 hr1 hc1 hr4 hc4 hr5 hl5 h hm;go_enter Tryz.func40,Tryz.ntmps40
 go_wp2_with fail
 go_at_call 46;refine (bEy k q A0 c0 l0 A1 c1 ws y t o A4 c4 cs m _ (bS HR0.out HB.out) HC0.out (bS HR1.out HB.out) HC1.out (bS HR4.out HB.out) HC4.out HM.out).mono ?_
 cases m with
 |none=>
  rintro e w1 ⟨rfl,hb⟩;have HB1:=aK (bG HB.out hb);obtain rfl:=bC HH.out;clear hb HM HH;go_wp2;refine tD (yO (rs:=[.tmp 6,.tmp 7]) rfl (by simp) (.tmp (.tmp .nil))) rfl ?_;exact ⟨rfl,HB1.out⟩
 | some m =>
  rintro e w1 ⟨g,rfl,hmo,hb⟩;have HMo:=aK (show MO w1 w.heap.size g m by obtain ⟨AW,cW,AC,cC,AF,cF,AB,cB,a0,a1,a2,a3,a4,a5,a6⟩:=hmo;exact ⟨AW,cW,AC,cC,AF,cF,AB,cB,a0,dW (bN HB.out) a1,a2,dR a3 (bN HB.out),dR a4 (bN HB.out),a5,dR a6 (bN HB.out)⟩);have HB1:=aK (bG HB.out hb);obtain ⟨b,hb1,hh⟩:=Option.bind_eq_some_iff.mp HH.out;have H1:=aK hb1;have H2:=aK (bC hh);clear hb HM HH hmo hb1 hh HB
  go_wp2_with (go_at_call 67;refine cL (fun hng=>?_))
  refine hng ?_;clear hng;refine (zO q g m AR cR roots b _ (bEo HMo.out) (bS HR5.out HB1.out) HL5.out H1.out).mono ?_;rintro e w2 ⟨rfl,hb⟩;replace HMo:=aK (sH HMo.out hb);replace HB1:=aK (bG HB1.out hb);clear hb
  cases b with
  |false=>
   have h2:=H2.out;rw [if_neg (by simp)] at h2;subst h2;go_wp2;refine tD (yO (rs:=[.tmp 6,.tmp 7]) rfl (by simp) (.tmp (.tmp .nil))) rfl ?_;exact ⟨rfl,HB1.out⟩
  |true=>
   have h2:=H2.out;rw [if_pos rfl] at h2;subst h2;go_wp2;refine tD (yO (rs:=[.tmp 6,.tmp 7]) rfl (by simp) (.tmp (.tmp .nil))) rfl ?_;exact ⟨g,rfl,HMo.out,HB1.out⟩
def xC (w0 W:World) (g:Nat) (f0:List Int) (f1:Int):Prop:= ∃A0 c0,W.heap[g]? =some (.cells #[.slice A0 f0.length c0,.int .i64 f1] 92 (0,0))∧w0.heap.size≤g∧Kd.C (Kd.int .u8) w0 A0 f0.length f0
theorem xC.grown {w0 W:World} {g:Nat} {f0:List Int} {f1:Int} {W1:World} {row:Option Nat} (h:xC w0 W g f0 f1) (hw:W.grownBy W1 row) (hne:some g≠row):xC w0 W1 g f0 f1:=by
  obtain ⟨A0,c0,hb,hg,hr0⟩:=h;exact ⟨A0,c0,qJ hb hw hne,hg,hr0⟩
theorem xC.kept {w0 W:World} {g:Nat} {f0:List Int} {f1:Int} {W1:World} {S:Nat→Prop} (h:xC w0 W g f0 f1) (hk:Kept W W1 S) (hne: ¬S g):xC w0 W1 g f0 f1:=by
  obtain ⟨A0,c0,hb,hg,hr0⟩:=h;exact ⟨A0,c0,sE hb hk hne,hg,hr0⟩
theorem xC.below {w0 W:World} {g:Nat} {f0:List Int} {f1:Int} {W1:World} (h:xC w0 W g f0 f1) (hw:Below W.heap.size W W1):xC w0 W1 g f0 f1:=h.grown (zR hw none) (by simp)
theorem xC.drewN {w0 W:World} {g:Nat} {f0:List Int} {f1:Int} (h:xC w0 W g f0 f1) (m:Nat):xC w0 (W.drewN m) g f0 f1:=h
theorem xC.drew {w0 W:World} {g:Nat} {f0:List Int} {f1:Int} (h:xC w0 W g f0 f1):xC w0 W.drew g f0 f1:=h
theorem xC.at_ {w0 W:World} {g:Nat} {f0:List Int} {f1:Int} {w':World} {m:Nat} (hq:W.drewN m=w') (h:xC w0 W g f0 f1):xC w0 w' g f0 f1:=by subst hq;exact xC.drewN h m
theorem xC.apart {w0 W:World} {g:Nat} {f0:List Int} {f1:Int} {α:Type} {d:Kd α} {e:Nat} {base:Nat} {ok:Nat→Prop} {v:Value} {xs:List α} (h:xC w0 W g f0 f1) (ho:d.R e W base ok v xs) (ht: ∀q,q∈e::d.E→q≠92):d.R e W base (fun k=>ok k∧k≠g) v xs:=by
  obtain ⟨A0,c0,hb,hg,hr0⟩:=h;exact sU ho hb ht
theorem xC.ge {w0 W:World} {g:Nat} {f0:List Int} {f1:Int} (h:xC w0 W g f0 f1):w0.heap.size≤g:=by
  obtain ⟨A0,c0,hb,hg,hr0⟩:=h;exact hg
def spec_l6Open.f (l0:List Int):Option (List Int×Int):=if (l0.length:Int)>2000 then (if 2000≤(l0.length:Int) then (some (l0.take 2000,0)) else (none)) else (some (l0,0))
def xH:Nat→Int→Bool→List Int→Int→Option (Int×Int)
  |0,_,_,_,_=>none
  |k+1,x1,x24,x1000,x1001=>if x24=true then (some (0,x1001)) else (if (wrap64 (x1001 - 1))<(x1000.length:Int) then (if 0≤(wrap64 (x1001 - 1)) then (if x1=0 then (none) else (some (Int.tmod (wrap64 (rd x1000 (wrap64 (x1001 - 1)))) x1,x1001))) else (none)) else (if (x1000.length:Int)=0 then (none) else (if 0≤(Int.tmod (wrap64 (x1001 - 1)) (x1000.length:Int)) then (if (Int.tmod (wrap64 (x1001 - 1)) (x1000.length:Int))<(x1000.length:Int) then (if 0≤(Int.tmod (wrap64 ((wrap64 ((wrap64 (x1001 - 1))*7))+3)) (x1000.length:Int)) then (if (Int.tmod (wrap64 ((wrap64 ((wrap64 (x1001 - 1))*7))+3)) (x1000.length:Int))<(x1000.length:Int) then (if x1=0 then (none) else (some (Int.tmod (Go.bits .xor .i64 (wrap64 ((wrap64 ((wrap64 ((wrap64 ((wrap64 (rd x1000 (Int.tmod (wrap64 (x1001 - 1)) (x1000.length:Int))))*131))+(wrap64 ((wrap64 (rd x1000 (Int.tmod (wrap64 ((wrap64 ((wrap64 (x1001 - 1))*7))+3)) (x1000.length:Int))))*1117))))+(wrap64 ((wrap64 (x1001 - 1))*29))))+(wrap64 ((wrap64 (Int.tdiv (wrap64 (x1001 - 1)) (x1000.length:Int)))*53)))) (wrap64 (Int.tdiv (wrap64 ((wrap64 ((wrap64 ((wrap64 ((wrap64 (rd x1000 (Int.tmod (wrap64 (x1001 - 1)) (x1000.length:Int))))*131))+(wrap64 ((wrap64 (rd x1000 (Int.tmod (wrap64 ((wrap64 ((wrap64 (x1001 - 1))*7))+3)) (x1000.length:Int))))*1117))))+(wrap64 ((wrap64 (x1001 - 1))*29))))+(wrap64 ((wrap64 (Int.tdiv (wrap64 (x1001 - 1)) (x1000.length:Int)))*53)))) 64))) x1,x1001))) else (none)) else (none)) else (none)) else (none))))
def bKk (k:Nat) (s0_0:List Int) (s0_1:Int) (a1:Int):Option (Int×Int):=if a1<1 then (xH k a1 true s0_0 (wrap64 (s0_1+1))) else (xH k a1 ((s0_0.length:Int)==0) s0_0 (wrap64 (s0_1+1)))
end Go.Proofs.YtbaklikaoleplaaGreat.K
namespace Go.Proofs.YtbaklikaoleplaaGreat.Pure
open Go.RowKit Go.Proofs.YtbaklikaoleplaaGreat.K Go.Proofs.YtbaklikaoleplaaGreatW.PrintWords Go.Proofs.YtbaklikaoleplaaGreatW.PrintLast Go.Proofs.YtbaklikaoleplaaGreatW.PrintMore
set_option linter.unusedVariables false
set_option linter.unusedSimpArgs false
theorem evp {α:Type} {c:Prop} [Decidable c] {f g:Nat→Option α} {r:α} (h:c) (k:Ev f r):Ev (fun n=>if c then f n else g n) r:=Ev.congr (fun _=>if_pos h) k
theorem evn {α:Type} {c:Prop} [Decidable c] {f g:Nat→Option α} {r:α} (h: ¬c) (k:Ev g r):Ev (fun n=>if c then f n else g n) r:=Ev.congr (fun _=>if_neg h) k
theorem jA {i n:Int} (h0:0≤i) (h:i<n) (hn:n≤4611686018427387904):wrap64 (i+1)=i+1:=by
  unfold wrap64;omega
theorem rY (xs:List Int) (i:Nat):rd xs (i:Int)=xs.getD i 0:=by simp [rd]
theorem yF {α:Type} (xs:List α) (i:Nat) (d:α) (h:i<xs.length):xs.drop i=xs.getD i d::xs.drop (i+1):=by
  rw [fO h];simp [bM,h]
theorem dX {n:Int} (h: -9223372036854775808≤n) (h':n≤9223372036854775807):wrap64 n=n:=by unfold wrap64;omega
end Go.Proofs.YtbaklikaoleplaaGreat.Pure
namespace Go.Proofs.YtbaklikaoleplaaGreat.K
open Go.RowKit Go.Proofs.YtbaklikaoleplaaGreatW.PrintWords Go.Proofs.YtbaklikaoleplaaGreatW.PrintLast Go.Proofs.YtbaklikaoleplaaGreatW.PrintMore
attribute [local go_sem] gV gT jT jS fY fX gU gR
set_option linter.unusedVariables false
set_option linter.unusedSimpArgs false
open Go.Proofs.YtbaklikaoleplaaGreat.Pure
def bMo (M:Int) (w0 w:World) (g:Nat):Prop:=(∃(b:List Int) (p:Int),xC w0 w g b p∧b.length≤2000∧(∀x∈b,0≤x∧x≤255)∧0≤p∧p≤M)∧Below w0.heap.size w0 w
section
variable {M L:Int} {w0 w w1:World} {g:Nat}
theorem bMo.below (h:bMo M w0 w g) (hb:Below w.heap.size w w1):bMo M w0 w1 g:=by
  obtain ⟨⟨b,p,h1,h2,h3,h4,h5⟩,h6⟩:=h;exact ⟨⟨b,p,h1.below hb,h2,h3,h4,h5⟩,bG h6 hb⟩
theorem bMo.drew (h:bMo M w0 w g):bMo M w0 w.drew g:=h.below (bH (bQ _ _))
theorem bMo.drewN (h:bMo M w0 w g) (m:Nat):bMo M w0 (w.drewN m) g:=h.below (bF (bQ _ _) m)
theorem bMo.grown (h:bMo M w0 w g) {row:Option Nat} (hg:w.grownBy w1 row) (hne:some g≠row) (hr: ∀k,row=some k→w0.heap.size≤k):bMo M w0 w1 g:=by
  obtain ⟨⟨b,q,h1,h2,h3,h4,h5⟩,h6⟩:=h;exact ⟨⟨b,q,h1.grown hg hne,h2,h3,h4,h5⟩,h6.grown hg h6.size hr⟩
theorem bMo.ge (h:bMo M w0 w g):w0.heap.size≤g:=by
  obtain ⟨⟨b,q,h1,_⟩,_⟩:=h;exact h1.ge
end
end Go.Proofs.YtbaklikaoleplaaGreat.K
namespace Go.Proofs.YtbaklikaoleplaaGreat.K
open Go.RowKit Go.Proofs.YtbaklikaoleplaaGreatW.PrintWords Go.Proofs.YtbaklikaoleplaaGreatW.PrintLast Go.Proofs.YtbaklikaoleplaaGreatW.PrintMore
attribute [local go_sem] gV gT jT jS fY fX gU gR
set_option linter.unusedVariables false
set_option linter.unusedSimpArgs false
theorem bGr {α:Type} {K:Kd α} {q t:TypeId} {w:World} {base g gc n cap:Nat} {ok:Nat→Prop} {xs:List α} {cs:Array Value} (h:w.heap[g]? =some (.cells cs t (0,0))) (hr:K.R q w base ok (.slice (some ⟨gc,0,none⟩) n cap) xs) (hq:t≠q):g≠gc:=by
 intro e;subst e;obtain ⟨inner,ho⟩:=Kd.R_own hr;obtain ⟨cells,hc⟩:=yA ho g (by simp [Value.ownBlock]);rw [h] at hc;injection hc with hc;injection hc with _ h2;exact hq h2
structure Ch (S:Nat→Prop) (w w':World):Prop where
 os:w'.os=w.os
 tape:w'.tape=w.tape
 output:w'.output=w.output
 size:w.heap.size≤w'.heap.size
 block: ∀k,k<w.heap.size→¬S k→w'.heap[k]? =w.heap[k]?
section
variable {S S2:Nat→Prop} {w w0 w1 w2:World}
theorem Ch.refl (S:Nat→Prop) (w:World):Ch S w w:=⟨rfl,rfl,rfl,bV _,fun _ _ _=>rfl⟩
theorem Ch.trans (h:Ch S w w1) (k:Ch S2 w1 w2) (hs: ∀k,S2 k→S k∨w.heap.size≤k):Ch S w w2:=
  ⟨k.os.trans h.os,k.tape.trans h.tape,k.output.trans h.output,dW h.size k.size,fun i hi hn=>(k.block i (rM hi h.size) (fun h2=>(hs i h2).elim hn (fun h3=>by omega))).trans (h.block i hi hn)⟩
theorem Ch.below (h:Ch S w w1) (hb:Below w1.heap.size w1 w2):Ch S w w2:=
  h.trans (S2:=fun _=>False) ⟨hb.os,hb.tape,hb.output,hb.size,fun i hi _=>hb.block i hi⟩ (fun _ h=>h.elim)
theorem Ch.drew (h:Ch S w w1):Ch S w w1.drew:=h.below (bH (bQ _ _))
theorem Ch.drewN (h:Ch S w w1) (m:Nat):Ch S w (w1.drewN m):=h.below (bF (bQ _ _) m)
theorem Ch.set (h:Ch S w w1) {p:Addr} (hp:S p.block∨w.heap.size≤p.block) (u:Value):Ch S w (w1.setCell p u):=
  h.trans (S2:=fun k=>k=p.block) ⟨rfl,rfl,rfl,by simp [World.setCell],fun k _ hn=>gF _ _ _ _ hn⟩ (fun k hk=>by rw [hk];exact hp)
theorem Ch.grown (h:Ch S w w1) {row:Option Nat} (hg:w1.grownBy w2 row) (hr: ∀k,row=some k→S k∨w.heap.size≤k):Ch S w w2:=
  h.trans (S2:=fun k=>row=some k) ⟨hg.os,hg.tape,hg.output,hg.size,fun k hk hn=>hg.block k hk (fun e=>hn e.symm)⟩ hr
theorem Ch.kept (h:Ch S w w1):Kept w w1 S:=⟨h.size,h.block⟩
theorem Ch.toBelow (h:Ch S w w1) {B:Nat} (hB:B≤w.heap.size) (hS: ∀k,S k→B≤k):Below B w w1:=⟨h.os,h.tape,h.output,h.size,fun k hk=>h.block k (by omega) (fun h2=>by have:=hS k h2;omega)⟩
theorem Ch.blk (h:Ch S w w1) {g:Nat} {o:Obj} (hb:w.heap[g]? =some o) (hn: ¬S g):w1.heap[g]? =some o:=sE hb h.kept hn
theorem Ch.R {α:Type} {d:Kd α} {e base:Nat} {ok:Nat→Prop} {v:Value} {xs:List α} (h:Ch S w w1) (hr:d.R e w base ok v xs) (hne: ∀k,ok k→¬S k):d.R e w1 base ok v xs:=rS hr h.kept hne
end
section
variable {M L:Int} {w0 w w1:World} {g:Nat} {S:Nat→Prop}
theorem bMo.ch (h:bMo M w0 w g) (hc:Ch S w w1) (hne: ¬S g) (hS: ∀k,S k→w0.heap.size≤k):bMo M w0 w1 g:=by
  obtain ⟨⟨b,q,⟨A0,c0,hb,hg,hC⟩,h2,h3,h4,h5⟩,h6⟩:=h;exact ⟨⟨b,q,⟨A0,c0,hc.blk hb hne,hg,hC⟩,h2,h3,h4,h5⟩,h6.trans (hc.toBelow h6.size hS)⟩
end
def yK (w w':World):Prop:= ∀(k:Nat) (cells:Array Value) (t:Nat),(t=124∨t=66∨t=94∨t=27∨t=85)→w.heap[k]? =some (.cells cells t (0,0))→w'.heap[k]? =some (.cells cells t (0,0))
theorem yK.refl (w:World):yK w w:=fun _ _ _ _ h=>h
theorem yK.trans {w w1 w2:World} (h:yK w w1) (k:yK w1 w2):yK w w2:=fun a b c d e=>k a b c d (h a b c d e)
theorem yK.of_below {w w1:World} (h:Below w.heap.size w w1):yK w w1:=fun a _ _ _ e=>(h.block a (cK e)).trans e
theorem yK.below {w w1 w2:World} (h:yK w w1) (hb:Below w1.heap.size w1 w2):yK w w2:=h.trans (yK.of_below hb)
theorem yK.thing {w w1:World} (h:yK w w1) {g:Nat} {c:Array Value} (hb:w.heap[g]? =some (.cells c 124 (0,0))):w1.heap[g]? =some (.cells c 124 (0,0)):=h g c _ (.inl rfl) hb
section
variable {P:Program} {ops:Array Oper} {Q:Exit→Act→World→Prop}
theorem bMg {rest : List Oper} {oi : Oper} {a : Act} {w : World} (hg : oi.guard = none) {f : FuncId} {fn : Func} {x : Operand} {xs : Array Operand} {ts : Array TypeId} {caps : Array Value} (hf : P.funcs[f]? = some fn) (hname : (fn.name == "runtime.NumGoroutine") = false) (hb : fn.body.isSome = true) (args : Array Value)
  (hop:oi.op= .call {callee:= .value x,args:=xs,argTypes:=ts}) (hx:a.eval x= .func (.func f) #[] caps) (hargs:xs.map a.eval++caps=args)
  (h:Calls P f args w fun e w'=> ∃v,e= .returned v∧wpList P ops Q rest (a.put oi.dst v) w'):wpList P ops Q (oi::rest) a w:=by
 refine wpList_plain hg fun K hK=>?_
 have he:=bDj hf hname hb args w
 have hrun:(execOp a.eval oi).run P w= .ok (.enter f args) w:=by
  unfold execOp;simp [hop,resolve,hx,Deferred.ofValue,invoke,hargs,he]
 unfold Oper.wp;rw [hrun,Oper.upon_enter];refine h.mono fun e w'' hh=>?_
 obtain ⟨v,rfl,hk⟩:=hh;exact hK _ _ hk
end
def thBox (w:World) (g:Nat) (a b:Value):World:=(w.setCell ⟨g,0,none⟩ a).setCell ⟨g,1,none⟩ b
theorem bKy {w:World} {g:Nat} {t:TypeId} {c0 c1 a b:Value} (h:w.heap[g]? =some (.cells #[c0,c1] t (0,0))):(thBox w g a b).heap[g]? =some (.cells #[a,b] t (0,0)):=
  gC (gC h 0 _ rfl) 1 _ rfl
theorem Ch.thBox {S:Nat→Prop} {w w1:World} (h:Ch S w w1) {g:Nat} (hp:S g∨w.heap.size≤g) (a b:Value):Ch S w (thBox w1 g a b):=(h.set (p:=⟨g,0,none⟩) hp a).set (p:=⟨g,1,none⟩) hp b
def bIp (m:Mm) (a f:Int):Nat→Int→Option (List Int)
  |0,_=>some []
  |d+1,k=>(mH m a k).bind fun b=>(bIp m a f d (k+1)).bind fun r=>some (if b=true then wrap64 (f+k)::r else r)
def bKs (m:Mm) (a:Int):Option (List Int):=(mI m a).bind fun n=>if n≤4294967296 then (jY m a).bind fun f=>bIp m a f n.toNat 0 else none
theorem bCc (N : Nat) (fn : Func) (hf : Tryz.prog.funcs[N]? = some fn) (hn : (fn.name == "runtime.NumGoroutine") = false) (hbd : fn.body.isSome = true) (caps : Array Value)
  (g:Nat) (m:Mm) (a:Int) (I:List Int→World→Prop) (ws:List Int) (w:World)
  (hm: ∀l W,I l W→MV W g m) (hI:I ws w) (hst: ∀l W W',I l W→Below W.heap.size W W'→I l W')
  (hcb: ∀x r W,I (x::r) W→Calls Tryz.prog N (#[.int .i64 x]++caps) W fun e W'=>e= .returned (.tuple #[])∧I r W'∧yK W W')
  (h:bKs m a=some ws):
  Calls Tryz.prog 72 #[.pointer (some ⟨g,0,none⟩),.int .i64 a,.func (.func N) #[] caps] w fun e w'=>e= .returned (.tuple #[])∧I [] w'∧yK w w':=by
 unfold bKs at h;obtain ⟨n,hn1,h⟩:=Option.bind_eq_some_iff.mp h
 split at h
 case isFalse=>simp at h
 case isTrue hnl=>
 obtain ⟨f,hf1,h⟩:=Option.bind_eq_some_iff.mp h;have HI:=aK hI;have HM:=aK hm;have HS:=aK hst;have HCB:=aK hcb;have H1:=aK hn1;have H2:=aK hf1;have H3:=aK h;have HNL:=aK hnl;have HK:=aK (yK.refl w);have HF:=aK (show _∧_∧_ from ⟨hf,hn,hbd⟩);clear hI hm hst hcb hn1 hf1 h hf hn hbd hnl;go_enter Tryz.func72,Tryz.ntmps72
 go_wp2_with (go_at_call 94;refine cL (fun hng=>?_))
 refine hng ?_;clear hng;refine (rJ g a _).mono ?_;rintro e w1 ⟨rfl,hb⟩;unfold bFu;replace HI:=aK (HS.out _ _ _ HI.out hb);replace HK:=aK (HK.out.below hb);clear hb
 go_wp2_with ((with_reducible refine dG (N:=6) rfl ?_);refine cL (fun hng=>?_))
 refine hng ?_;clear hng;refine dN ?hg (N:=6) ?hd (cs:= #[.pointer none,.int .i64 0]) (t:=124) ?hr ?_
 (case hd=>rfl)
 (case hg=>rfl)
 (case hr=>first|(go_simp;done)|(go_simp;rfl))
 intro gt hg w2 hbox hb;have BT:=aK hbox;have HX:=aK hb;have HG:=aK (show gt=w1.heap.size from hg);clear hb hbox hg;have qc0:=(bK BT.out 0).trans rfl;have qc1:=(bK BT.out 1).trans rfl;have qf0:=fK BT.out 0;have qf1:=fK BT.out 1
 go_wp2_with ((with_reducible refine kS (t:=124) (p:=6) rfl ?_);refine cL (fun hng=>?_))
 refine hng ?_;clear hng;refine jU (t:=124) (p:=6) (v:=?vot) (w1:=(thBox w2 gt (.pointer (some ⟨g,0,none⟩)) (.int .i64 a))) ?hg ?ho ?hn ?hr ?_
 (case ho=>rfl)
 (case hg=>rfl)
 (case hn=>rfl)
 (case hr=>first|(go_simp;done)|(go_simp;rfl))
 intro w3 hw;have hc:Ch (fun k=>k=gt) w2 w3:=by rw [hw];exact (Ch.refl (fun k=>k=gt) _).thBox (.inl rfl) _ _
 replace HX:=aK (HX.out.trans (hc.toBelow (B:=w1.heap.size) (bN HX.out) (fun k hk=>by have:=HG.out;omega)));replace BT:=aK (show w3.heap[gt]? =some (.cells #[.pointer (some ⟨g,0,none⟩),.int .i64 a] 124 (0,0)) by rw [hw];exact bKy BT.out);replace HI:=aK (HS.out _ _ _ HI.out HX.out);replace HK:=aK (HK.out.below HX.out);clear hw hc qc0 qc1 qf0 qf1 HX HG;have qc0:=(bK BT.out 0).trans rfl;have qc1:=(bK BT.out 1).trans rfl
 go_wp2_with (go_at_call 103;refine cL (fun hng=>?_))
 refine hng ?_;clear hng;refine (xG g m a n _ (HM.out _ _ HI.out) H1.out).mono ?_;rintro e w4 ⟨rfl,hb⟩;replace HI:=aK (HS.out _ _ _ HI.out hb);replace HK:=aK (HK.out.below hb);replace BT:=aK (cJ BT.out hb);clear hb;clear qc0 qc1;go_wp2
 go_loopw [13] (fun v13 wr=> ∃(k:Int) (d:Nat) (rest:List Int),v13= .int .i64 k∧Aside0 (0≤k∧k+d=max n 0)∧Aside0 (bIp m a f d k=some rest)∧Aside0 (I rest wr)∧Aside0 (wr.heap[gt]? =some (.cells #[.pointer (some ⟨g,0,none⟩),.int .i64 a] 124 (0,0)))∧Aside0 (yK w wr)) (fun v13 _=>(n - intOf v13).toNat)
 case atStart=>exact ⟨0,n.toNat,ws,rfl,⟨by omega⟩,H3,HI,BT,HK⟩
 case round=>
  clear HI BT HK H3;obtain ⟨k,d,rest,rfl,HD,HL,HI,BT,HK⟩:=hrel;by_cases cx:k<n
  ·have d0 : decide (k < n) = true := bB cx
   obtain ⟨d,rfl⟩: ∃z,d=z+1:=⟨d - 1,by have:=HD.out;omega⟩;have HC:=aK cx;have hl:=HL.out;unfold bIp at hl;obtain ⟨b,hb1,hl⟩:=Option.bind_eq_some_iff.mp hl;obtain ⟨r,hr1,hl⟩:=Option.bind_eq_some_iff.mp hl;have H4:=aK hb1;have H5:=aK hr1;have H6:=aK (bC hl);clear hb1 hr1 hl HL cx;have qc0:=(bK BT.out 0).trans rfl;have qc1:=(bK BT.out 1).trans rfl
   go_wp2_with (go_at_call 105;refine cL (fun hng=>?_))
   refine hng ?_;clear hng;refine (jL g m a k b _ (HM.out _ _ HI.out) H4.out).mono ?_;rintro e w5 ⟨rfl,hb⟩;replace HI:=aK (HS.out _ _ _ HI.out hb);replace HK:=aK (HK.out.below hb);replace BT:=aK (cJ BT.out hb);clear hb;clear qc0 qc1
   cases b with
   |false=>
    have h6:=H6.out;rw [if_neg (by simp)] at h6;subst h6;clear H6;have u1:IntKind.i64.wrap (k+1)=k+1:=hZ _ (by have:=HC.out;have:=HD.out;have:=HNL.out;omega)
    go_wp2
    go_roundw
    case rel=>exact ⟨k+1,d,r,rfl,⟨by have:=HD.out;have:=HC.out;omega⟩,H5,HI,BT,HK⟩
    case measure=>have:=HC.out;simp only [intOf];omega
   |true=>
    have h6:=H6.out;rw [if_pos rfl] at h6;subst h6;clear H6;have qc0:=(bK BT.out 0).trans rfl;have qc1:=(bK BT.out 1).trans rfl
    go_wp2_with (go_at_call 125;refine cL (fun hng=>?_))
    refine hng ?_;clear hng;refine (jM g m a f _ (HM.out _ _ HI.out) H2.out).mono ?_;rintro e w6 ⟨rfl,hb⟩;replace HI:=aK (HS.out _ _ _ HI.out hb);replace HK:=aK (HK.out.below hb);replace BT:=aK (cJ BT.out hb);clear hb;clear qc0 qc1;obtain ⟨x,hx⟩: ∃z,z=wrap64 (f+k):=⟨_,rfl⟩;have u2:IntKind.i64.wrap (f+k)=x:=by rw [mC];exact hx.symm
    rw [←hx] at HI;clear hx
    go_wp2_with ((with_reducible refine bMg rfl HF.out.1 HF.out.2.1 HF.out.2.2 (#[.int .i64 x]++caps) rfl rfl ?hargs ?_);(case hargs=>(simp only [kH,mR,nK];rfl));refine cL (fun hng=>?_))
    refine hng ?_;clear hng;refine (HCB.out x r _ HI.out).mono ?_;rintro e w7 ⟨rfl,hi,hk⟩;replace HI:=aK hi;replace BT:=aK (hk.thing BT.out);replace HK:=aK (HK.out.trans hk);clear hi hk u2;refine ⟨_,rfl,?_⟩;have u1:IntKind.i64.wrap (k+1)=k+1:=hZ _ (by have:=HC.out;have:=HD.out;have:=HNL.out;omega)
    go_wp2
    go_roundw
    case rel=>exact ⟨k+1,d,r,rfl,⟨by have:=HD.out;have:=HC.out;omega⟩,H5,HI,BT,HK⟩
    case measure=>have:=HC.out;simp only [intOf];omega
  ·have d0 : decide (k < n) = false := bJ cx
   obtain rfl:d=0:=by have:=HD.out;omega
   have hl:=HL.out;unfold bIp at hl;have hl:=bC hl;subst hl;clear HL cx;go_wp2
   go_end0
   exact ⟨rfl,HI.out,HK.out⟩
structure Lv where
  sn:List Bool
  q:List Int
def bBu (s:Lv) (a:Int):Option Lv:=
  if a=0 then some s else if 0≤a∧a<s.sn.length∧s.q.length<2000000 then (if fW false s.sn a=true then some s else some ⟨s.sn.set a.toNat true,s.q++[a]⟩) else none
def xA (f:Lv→Int→Option Lv):Lv→List Int→Option Lv
  |s,[]=>some s
  |s,x::r=>(f s x).bind fun s'=>xA f s' r
def zA (w w':World):Prop:= ∀(k:Nat) (cells:Array Value) (t:Nat),(t≠3∧t≠4∧t≠24)→w.heap[k]? =some (.cells cells t (0,0))→w'.heap[k]? =some (.cells cells t (0,0))
theorem zA.refl (w:World):zA w w:=fun _ _ _ _ h=>h
theorem zA.trans {w w1 w2:World} (h:zA w w1) (k:zA w1 w2):zA w w2:=fun a b c d e=>k a b c d (h a b c d e)
theorem zA.of_below {w w1:World} (h:Below w.heap.size w w1):zA w w1:=fun a _ _ _ e=>(h.block a (cK e)).trans e
theorem zA.below {w w1 w2:World} (h:zA w w1) (hb:Below w1.heap.size w1 w2):zA w w2:=h.trans (zA.of_below hb)
theorem zA.keepO {w w1:World} (h:zA w w1):yK w w1:=fun k c t ht hb=>h k c t (by rcases ht with rfl|rfl|rfl|rfl|rfl<;>decide) hb
theorem zA.of_ch {S:Nat→Prop} {w w1:World} (hc:Ch S w w1) (hne: ∀(k:Nat) (c:Array Value) (t:Nat),(t≠3∧t≠4∧t≠24)→w.heap[k]? =some (.cells c t (0,0))→¬S k):zA w w1:=
  fun k c t ht hb=>(hc.block k (cK hb) (hne k c t ht hb)).trans hb
structure Lq (b:Nat) (w0:World) (gs gq gS cS:Nat) (AO:Option Addr) (cO:Nat) (w:World) (s:Lv):Prop where
 bs:w.heap[gs]? =some (.cells #[.slice (some ⟨gS,0,none⟩) s.sn.length cS] 25 (0,0))
 bq:w.heap[gq]? =some (.cells #[.slice AO s.q.length cO] 24 (0,0))
 ge:b≤gs∧b≤gq
 rs:Kd.R Kd.bool 4 w b (fun k=>k≠gs∧k≠gq) (.slice (some ⟨gS,0,none⟩) s.sn.length cS) s.sn
 rq:Kd.R (Kd.int .i64) 3 w b (fun k=>(k≠gs∧k≠gq)∧k≠gS) (.slice AO s.q.length cO) s.q
 be:Below b w0 w
 sz:b≤w.heap.size
section
variable {b gs gq gS cS cO:Nat} {w0 w w1:World} {AO:Option Addr} {s:Lv}
theorem Lq.step (h:Lq b w0 gs gq gS cS AO cO w s) {S:Nat→Prop} (hc:Ch S w w1) (hS: ∀k,S k→b≤k):Below b w0 w1∧b≤w1.heap.size:=⟨h.be.trans (hc.toBelow h.sz hS),dW h.sz hc.size⟩
theorem Lq.far (h:Lq b w0 gs gq gS cS AO cO w s) {k t:Nat} {c:Array Value} (hk:w.heap[k]? =some (.cells c t (0,0))) (ht:t≠3∧t≠4∧t≠24∧t≠25) (hc:Ch (fun i=>i=k) w w1) (hb:b≤k):Lq b w0 gs gq gS cS AO cO w1 s:=by
 have n1:gs≠k:=fun e=>by have h1:=h.bs;rw [e,hk] at h1;injection h1 with h1;injection h1 with _ h1;exact ht.2.2.2 h1
 have n2:gq≠k:=fun e=>by have h1:=h.bq;rw [e,hk] at h1;injection h1 with h1;injection h1 with _ h1;exact ht.2.2.1 h1
 have hs:=h.be.trans (hc.toBelow h.sz (fun i hi=>by rw [hi];exact hb));refine ⟨hc.blk h.bs n1,hc.blk h.bq n2,h.ge,?_,?_,hs,dW h.sz hc.size⟩
 ·refine qN (enc := Value.bool) (h1 := fun _ => rfl) (qM (enc := Value.bool) (h1 := fun _ => rfl) (hc.R (ok := fun i => (Value.slice (some ⟨gS, 0, none⟩) s.sn.length cS).ownBlock = some i) (qN (enc := Value.bool) (h1 := fun _ => rfl) (qM (enc := Value.bool) (h1 := fun _ => rfl) h.rs) (fun i hi => hi)) (fun i hi e => ?_))) h.rs.1
  exact Kd.R_ne h.rs hk (fun e=>ht.2.1 e.symm) (by rw [←e];exact hi.symm)
 ·refine qN (enc := Value.int .i64) (h1 := fun _ => rfl) (qM (enc := Value.int .i64) (h1 := fun _ => rfl) (hc.R (ok := fun i => (Value.slice AO s.q.length cO).ownBlock = some i) (qN (enc := Value.int .i64) (h1 := fun _ => rfl) (qM (enc := Value.int .i64) (h1 := fun _ => rfl) h.rq) (fun i hi => hi)) (fun i hi e => ?_))) h.rq.1
  exact Kd.R_ne h.rq hk (fun e=>ht.1 e.symm) (by rw [←e];exact hi.symm)
theorem Lq.gSb (h:Lq b w0 gs gq gS cS AO cO w s):(gS≠gs∧gS≠gq)∧b≤gS:=⟨h.rs.1 gS rfl,rU h.rs gS rfl⟩
theorem Lq.gsq (h:Lq b w0 gs gq gS cS AO cO w s):gs≠gq:=fun e=>by have h1:=h.bs;rw [e,h.bq] at h1;injection h1 with h1;injection h1 with _ h1;exact absurd h1 (by decide)
theorem Lq.below (h:Lq b w0 gs gq gS cS AO cO w s) (hb:Below w.heap.size w w1):Lq b w0 gs gq gS cS AO cO w1 s:=
  ⟨cJ h.bs hb,cJ h.bq hb,h.ge,cA h.rs hb,cA h.rq hb,h.be.trans ((Ch.below (Ch.refl (fun _=>False) _) hb).toBelow h.sz (fun _ hk=>hk.elim)),dW h.sz (bN hb)⟩
theorem Lq.mark (h:Lq b w0 gs gq gS cS AO cO w s) (a:Int):Lq b w0 gs gq gS cS AO cO (w.setCell ⟨gS,a.toNat,none⟩ (.bool true)) ⟨s.sn.set a.toNat true,s.q⟩∧zA w (w.setCell ⟨gS,a.toNat,none⟩ (.bool true)):=by
 have hc:Ch (fun k=>k=gS) w (w.setCell ⟨gS,a.toNat,none⟩ (.bool true)):=(Ch.refl (fun k=>k=gS) w).set (p:=⟨gS,a.toNat,none⟩) (.inl rfl) _
 have hr:=(Kd.R_put (enc:=Value.bool) (h1:=fun _=>rfl) h.rs a true).1;have hg:=h.gSb;have hs:=h.step hc (fun k hk=>by rw [hk];exact hg.2);refine ⟨⟨?_,hc.blk h.bq (fun e=>hg.1.2 e.symm),h.ge,?_,hc.R h.rq (fun k hk=>hk.2),hs.1,hs.2⟩,zA.of_ch hc (fun k c t ht hb e=>Kd.R_ne h.rs hb (fun e=>ht.2.1 e.symm) (by rw [e];rfl))⟩
 ·show (w.setCell ⟨gS, a.toNat, none⟩ (.bool true)).heap[gs]? = some (.cells #[.slice (some ⟨gS, 0, none⟩) (s.sn.set a.toNat true).length cS] 25 (0, 0))
  rw [fI];exact hc.blk h.bs (fun e=>hg.1.1 e.symm)
 ·show Kd.R Kd.bool 4 _ b _ (.slice (some ⟨gS, 0, none⟩) (s.sn.set a.toNat true).length cS) (s.sn.set a.toNat true)
  rw [fI];exact hr
theorem Lq.app (h:Lq b w0 gs gq gS cS AO cO w s) {AN:Option Addr} {cN:Nat} {ys:List Int} (a:Int) (hy:ys=s.q++[a]) (hr:Kd.R (Kd.int .i64) 3 w1 b (fun k=>(k≠gs∧k≠gq)∧k≠gS) (.slice AN ys.length cN) ys) (hgr:w.grownBy w1 (Value.slice AO s.q.length cO).ownBlock):
  Lq b w0 gs gq gS cS AN cN (w1.setCell ⟨gq,0,none⟩ (.slice AN ys.length cN)) ⟨s.sn,s.q++[a]⟩∧zA w (w1.setCell ⟨gq,0,none⟩ (.slice AN ys.length cN))∧w1.heap[gq]? =w.heap[gq]? :=by
 have hc:Ch (fun k=>some k=(Value.slice AO s.q.length cO).ownBlock) w w1:=⟨hgr.os,hgr.tape,hgr.output,hgr.size,fun k hk hn=>hgr.block k hk hn⟩
 have hob:=fun k (hk:some k=(Value.slice AO s.q.length cO).ownBlock)=>h.rq.1 k hk.symm
 have hb1:w1.heap[gq]? =some (.cells #[.slice AO s.q.length cO] 24 (0,0)):=hc.blk h.bq (fun e=>(hob gq e).1.2 rfl)
 have hs:=h.step hc (fun k hk=>rU h.rq k hk.symm);have hg:=h.gSb
 have hr1:Kd.R Kd.bool 4 w1 b (fun k=>k≠gs∧k≠gq) (.slice (some ⟨gS,0,none⟩) s.sn.length cS) s.sn:=
  qN (enc:=Value.bool) (h1:=fun _=>rfl) (qM (enc:=Value.bool) (h1:=fun _=>rfl) (hc.R (ok:=fun k=>k=gS) (qN (enc:=Value.bool) (h1:=fun _=>rfl) (qM (enc:=Value.bool) (h1:=fun _=>rfl) h.rs) (fun k hk=>by injection hk with hk;exact hk.symm)) (fun k hk e=>(hob k e).2 hk))) h.rs.1
 have hc2:Ch (fun k=>k=gq) w1 (w1.setCell ⟨gq,0,none⟩ (.slice AN ys.length cN)):=(Ch.refl (fun k=>k=gq) w1).set (p:=⟨gq,0,none⟩) (.inl rfl) _
 refine ⟨⟨hc2.blk (hc.blk h.bs (fun e=>(hob gs e).1.1 rfl)) h.gsq,?_,h.ge,hc2.R hr1 (fun k hk=>hk.2),?_,hs.1.trans (hc2.toBelow hs.2 (fun k hk=>by rw [hk];exact h.ge.2)),dW hs.2 hc2.size⟩,?_,hb1.trans h.bq.symm⟩
 ·show (w1.setCell ⟨gq, 0, none⟩ (.slice AN ys.length cN)).heap[gq]? = some (.cells #[.slice AN (s.q ++ [a]).length cN] 24 (0, 0))
  rw [←hy];exact gC hb1 0 _ rfl
 ·show Kd.R (Kd.int .i64) 3 _ b _ (.slice AN (s.q ++ [a]).length cN) (s.q ++ [a])
  rw [←hy];exact hc2.R hr (fun k hk=>hk.1.2)
 ·refine (zA.of_ch hc (fun k c t ht hb e => Kd.R_ne h.rq hb (fun e => ht.1 e.symm) e)).trans (zA.of_ch hc2 (fun k c t ht hb e => ?_))
  rw [e,hb1] at hb;injection hb with hb;injection hb with _ hb;exact ht.2.2 hb.symm
end
def bMt (b:Nat) (w0:World) (gs gq gS cS:Nat) (s':Lv) (w:World) (e:Ending) (w':World):Prop:=e= .returned (.tuple #[])∧(∃(AO:Option Addr) (cO:Nat),Lq b w0 gs gq gS cS AO cO w' s')∧zA w w'
theorem bCr (b:Nat) (w0:World) (gs gq gS cS:Nat) (AO:Option Addr) (cO:Nat) (s s':Lv) (a:Int) (w:World) (hb0:b=w0.heap.size) (hg:Lq b w0 gs gq gS cS AO cO w s) (h:bBu s a=some s'):
  Calls Tryz.prog 97 #[.int .i64 a,.pointer (some ⟨gs,0,none⟩),.pointer (some ⟨gq,0,none⟩)] w (bMt b w0 gs gq gS cS s' w):=by
 subst hb0;have HG:=aK hg;have HK:=aK (zA.refl w);unfold bBu at h;by_cases c0:a=0
 ·rw [if_pos c0] at h
  obtain rfl:=bC h;have d0:(a !=0)=false:=by simp [c0]
  clear h c0 hg;go_enter Tryz.func97,Tryz.ntmps97;go_wp2
  go_end0
  exact ⟨rfl,⟨_,_,HG.out⟩,HK.out⟩
 rw [if_neg c0] at h;have d0:(a !=0)=true:=by simp [c0]
 clear c0
 split at h
 case isFalse=>simp at h
 case isTrue hx=>
 have HX:=aK hx;have q0:=(bK hg.bs 0).trans rfl;have p0:=(bK hg.bq 0).trans rfl;have hcell:=(Kd.R_cell (enc:=Value.bool) (h1:=fun _=>rfl) false hg.rs a hx.1 hx.2.1).1;have i1:=bL hx.1;have i2:=bL hx.2.1;by_cases c1:fW false s.sn a=true
 ·rw [if_pos c1] at h
  obtain rfl:=bC h;change _=some (Value.bool (fW false s.sn a)) at hcell
  rw [c1] at hcell;clear h c1 hg hx;go_enter Tryz.func97,Tryz.ntmps97;go_wp2
  go_end0
  exact ⟨rfl,⟨_,_,HG.out⟩,HK.out⟩
 ·rw [if_neg c1] at h
  obtain rfl:=bC h;change _=some (Value.bool (fW false s.sn a)) at hcell
  rw [Bool.eq_false_iff.mpr c1] at hcell;have f0:=(Kd.R_cell (enc:=Value.bool) (h1:=fun _=>rfl) false hg.rs a hx.1 hx.2.1).2;clear h c1 hg hx;go_enter Tryz.func97,Tryz.ntmps97
  go_wp2_with ((with_reducible refine kS (t:=4) (p:=15) rfl ?_);refine cL (fun hng=>?_))
  refine hng ?_;clear hng;refine jU (t:=4) (p:=15) (v:=?vo1) (w1:=(w.setCell ⟨gS,a.toNat,none⟩ (.bool true))) ?hg ?ho ?hn ?hr ?_
  (case ho=>rfl)
  (case hg=>rfl)
  (case hn=>rfl)
  (case hr=>first|(go_simp;done)|(go_simp;rfl))
  intro w4 hw;have hn:=HG.out.mark a;rw [←hw] at hn;have HG4:=aK hn.1;replace HK:=aK (HK.out.trans hn.2);clear hw hn q0 p0 hcell f0 HG;have p0:=(bK HG4.out.bq 0).trans rfl
  go_wp2_with ((with_reducible refine kR (b:= .append) (xs:= #[.tmp 16,.tmp 18]) rfl ?_);refine cL (fun hng=>?_))
  refine hng ?_;clear hng;refine Kd.R_append (Kd.int .i64) (w0:=w0) w0.heap.size rfl (.tmp 16) (.tmp 18) 24 3 (.int .i64 0) 8 rfl Tryz.underlying24 tB rfl (by decide) (by omega) (.slice AO s.q.length cO) s.q a [.int .i64 a] (fun k=>(k≠gs∧k≠gq)∧k≠gS) (fun _=>False) rfl rfl ?aP (fun _ hk=>hk.elim) ?aF ?aO ?aB ?aS ?aL ?_
  (case aP=>exact rfl)
  (case aB=>exact HG4.out.be)
  (case aF=>exact fun k hk=>⟨⟨by have:=cK HG4.out.bs;omega,by have:=cK HG4.out.bq;omega⟩,fun e=>by have:=rN HG4.out.rs gS rfl;omega⟩)
  (case aO=>exact HG4.out.rq)
  (case aS=>exact HG4.out.sz)
  (case aL=>have:=HX.out;omega)
  intro v19 w6 ho hbn hgr hat;obtain ⟨AN,cN,rfl⟩:=cH ho;have hn:=HG4.out.app a rfl ho hgr;have hbx:=hn.2.2.trans HG4.out.bq;have HN:=aK (And.intro hn.1 hn.2.1);have n0:=(bK hbx 0).trans rfl;have f0:=fK hbx 0;clear hn hbx ho hbn hgr hat p0 HG4
  go_wp2_with ((with_reducible refine kS (t:=24) (p:=2) rfl ?_);refine cL (fun hng=>?_))
  refine hng ?_;clear hng;refine jU (t:=24) (p:=2) (v:=?vo2) (w1:=(w6.setCell ⟨gq,0,none⟩ (.slice AN (s.q++[a]).length cN))) ?hg ?ho ?hn ?hr ?_
  (case ho=>rfl)
  (case hg=>rfl)
  (case hn=>rfl)
  (case hr=>first|(go_simp;done)|(go_simp;rfl))
  intro w7 hw;rw [←hw] at HN;clear hw n0 f0;go_wp2
  go_end0
  exact ⟨rfl,⟨_,_,HN.out.1⟩,HK.out.trans HN.out.2⟩
def bDs (m:Mm) (s:Lv) (x:Int):Option Lv:=if 0≤x∧x<m.words.length then bBu s (rd m.words x) else none
section
variable {P:Program} {ops:Array Oper} {Q:Exit→Act→World→Prop}
theorem goesW_ {oi : Oper} {N : Option Tmp} {a : Act} {w : World} {K : Act → World → Prop} {f : FuncId} {fn : Func} {x : Operand} {xs : Array Operand} {ts : Array TypeId} {caps : Array Value} (hf : P.funcs[f]? = some fn) (hname : (fn.name == "runtime.NumGoroutine") = false) (hb : fn.body.isSome = true) (args : Array Value)
  (hw:Region.wanted oi (yielded ops a.tmps)=true) (hN:oi.dst=N) (hop:oi.op= .call {callee:= .value x,args:=xs,argTypes:=ts}) (hx:a.eval x= .func (.func f) #[] caps) (hargs:xs.map a.eval++caps=args)
  (h:Calls P f args w fun e w'=> ∃v,e= .returned v∧K (a.put N v) w'):if Region.wanted oi (yielded ops a.tmps)=true then Oper.wp P oi a w K Q else K (a.put N undef) w:=by
 refine call_ f args hw hN ?_ h;have he:=bDj hf hname hb args w;unfold execOp;simp [hop,resolve,hx,Deferred.ofValue,invoke,hargs,he]
end
theorem bHg (b:Nat) (w0:World) (gs gq gS cS:Nat) (AO:Option Addr) (cO:Nat) (g gf gp:Nat) (m:Mm) (s s':Lv) (x:Int) (w:World) (hm:MV w0 g m) (hb0:b=w0.heap.size) (hg:Lq b w0 gs gq gS cS AO cO w s)
  (hf:w.heap[gf]? =some (.cells #[.func (.func 97) #[] #[.pointer (some ⟨gs,0,none⟩),.pointer (some ⟨gq,0,none⟩)]] 97 (0,0))) (hp:w.heap[gp]? =some (.cells #[.pointer (some ⟨g,0,none⟩)] 66 (0,0))) (h:bDs m s x=some s'):
  Calls Tryz.prog 98 #[.int .i64 x,.pointer (some ⟨gf,0,none⟩),.pointer (some ⟨gp,0,none⟩)] w (bMt b w0 gs gq gS cS s' w):=by
 subst hb0;unfold bDs at h
 split at h
 case isFalse=>simp at h
 case isTrue hx=>
 have hmw:MV w g m:=cP hm hg.be
 obtain ⟨AW,cM,ACm,cC',AF,cF,AB,cB,m0,mw,mrest⟩:=hmw;obtain ⟨ad,e0,hcell⟩:=dA mw x hx.1 hx.2
 cases e0
 obtain ⟨v,hv⟩: ∃v,v=rd m.words x:=⟨_,rfl⟩;rw [←hv] at hcell h;have HG:=aK hg;have H:=aK h;have HK:=aK (zA.refl w);have q0:=(bK hf 0).trans rfl;have p0:=(bK hp 0).trans rfl;have g0:=(bK m0 0).trans rfl;have i1:=bL hx.1;have i2:=bL hx.2;clear hm hg h hx m0 mw mrest hf hp hv;go_enter Tryz.func98,Tryz.ntmps98;go_wp2;refine sT 10 (S:=fun w'=>w'.cell? ⟨gf,0,none⟩=some (.func (.func 97) #[] #[.pointer (some ⟨gs,0,none⟩),.pointer (some ⟨gq,0,none⟩)])∧w'.cell? ⟨gp,0,none⟩=some (.pointer (some ⟨g,0,none⟩))∧w'.cell? ⟨g,0,none⟩=some (.slice (some ad) m.words.length cM)∧w'.cell? (ad.add x.toNat)=some (.int .i64 v)) (ds:=[9]) ⟨(by go_simp),(by go_simp),(by go_simp),(by go_simp)⟩ (fun hHeld=>?_);replace HG:=aK (HG.out.below (bH (bQ w.heap.size w)));replace HK:=aK (HK.out.below (bH (bQ w.heap.size w)));generalize World.drew w=wt at HG HK hHeld ⊢;refine pS 6 10 #[false,false,false,false,false,false,true,false,false,false] ?_;refine tS 0 4 #[true,false,false,false,false,false,true,false,false,false] rfl rfl (by kernel_rfl) hHeld yL ?_;refine tS 1 5 #[true,true,false,false,false,false,true,false,false,false] rfl rfl (by kernel_rfl) hHeld yL ?_;refine pS 2 6 #[true,true,true,false,false,false,true,false,false,false] ?_;refine pS 3 7 #[true,true,true,true,false,false,true,false,false,false] ?_;refine pS 4 8 #[true,true,true,true,true,false,true,false,false,false] ?_;refine tS 5 9 #[true,true,true,true,true,true,true,false,false,false] rfl rfl (by kernel_rfl) hHeld yL ?_;refine pS 7 11 #[true,true,true,true,true,true,true,true,false,false] ?_;refine tS 8 12 #[true,true,true,true,true,true,true,true,true,false] rfl rfl (by kernel_rfl) hHeld yL ?_;refine last_ (i:=9) (N:=some 13) #[true,true,true,true,true,true,true,true,true,true] rfl rfl (by kernel_rfl) (by decide) (fun K hK=>?_);refine goesW_ Tryz.func97 (by kernel_rfl) rfl #[.int .i64 v,.pointer (some ⟨gs,0,none⟩),.pointer (some ⟨gq,0,none⟩)] (by rfl) rfl rfl rfl (by simp only [kH,mR,nK];rfl) ?_;refine (bCr _ w0 gs gq gS cS AO cO s s' v _ rfl HG.out H.out).mono ?_;rintro e w9 ⟨rfl,⟨AN,cN,hl2⟩,hk2⟩;refine ⟨_,rfl,?_⟩;refine hK.out _ _ ?_;clear hK K;refine nS 13 ?_;refine kX (by kernel_rfl) ?_;have HF:=aK (And.intro hl2 hk2);clear hl2 hk2 q0 p0 g0;go_wp2
 go_end0
 exact ⟨rfl,⟨AN,cN,HF.out.1⟩,HK.out.trans HF.out.2⟩
def srtRen:Go.Shelf.Ren:=⟨fun|125=>144|128=>165|129=>166|189=>99|215=>168|216=>148|257=>143|294=>157|295=>158|296=>159|297=>160|298=>161|299=>162|300=>163|301=>164|328=>169|329=>170|330=>171|331=>172|332=>173|343=>175|n=>n,fun|0=>0|3=>3|4=>4|5=>5|9=>9|28=>24|46=>156|51=>179|53=>181|131=>138|182=>172|183=>173|218=>185|222=>189|228=>191|229=>192|n=>n,fun n=>n⟩
theorem bJi:Lays.n189 Tryz.prog srtRen:={
 mixed:=by kernel_rfl
 f125:=Tryz.func144.trans (dY some (by kernel_rfl))
 f128:=Tryz.func165.trans (dY some (by kernel_rfl))
 f129:=Tryz.func166.trans (dY some (by kernel_rfl))
 f189:=Tryz.func99.trans (dY some (by kernel_rfl))
 f215:=Tryz.func168.trans (dY some (by kernel_rfl))
 f216:=Tryz.func148.trans (dY some (by kernel_rfl))
 f257:=Tryz.func143.trans (dY some (by kernel_rfl))
 f294:=Tryz.func157.trans (dY some (by kernel_rfl))
 f295:=Tryz.func158.trans (dY some (by kernel_rfl))
 f296:=Tryz.func159.trans (dY some (by kernel_rfl))
 f297:=Tryz.func160.trans (dY some (by kernel_rfl))
 f298:=Tryz.func161.trans (dY some (by kernel_rfl))
 f299:=Tryz.func162.trans (dY some (by kernel_rfl))
 f300:=Tryz.func163.trans (dY some (by kernel_rfl))
 f301:=Tryz.func164.trans (dY some (by kernel_rfl))
 f328:=Tryz.func169.trans (dY some (by kernel_rfl))
 f329:=Tryz.func170.trans (dY some (by kernel_rfl))
 f330:=Tryz.func171.trans (dY some (by kernel_rfl))
 f331:=Tryz.func172.trans (dY some (by kernel_rfl))
 f332:=Tryz.func173.trans (dY some (by kernel_rfl))
 f343:=Tryz.func175.trans (dY some (by kernel_rfl))
 t0:=Tryz.underlying0
 a0:=Tryz.isAgg0
 z0:=Tryz.sizeOf0
 v0:=Tryz.zeroValue0
 t3:=Tryz.underlying3
 a3:=Tryz.isAgg3
 z3:=Tryz.sizeOf3
 v3:=Tryz.zeroValue3
 t4:=Tryz.underlying4
 a4:=Tryz.isAgg4
 z4:=Tryz.sizeOf4
 v4:=Tryz.zeroValue4
 t5:=Tryz.underlying5
 a5:=Tryz.isAgg5
 z5:=Tryz.sizeOf5
 v5:=Tryz.zeroValue5
 t9:=Tryz.underlying9
 a9:=Tryz.isAgg9
 z9:=Tryz.sizeOf9
 v9:=Tryz.zeroValue9
 t28:=Tryz.underlying24
 a28:=Tryz.isAgg24
 z28:=Tryz.sizeOf24
 v28:=Tryz.zeroValue24
 t46:=Tryz.underlying156
 a46:=Tryz.isAgg156
 z46:=Tryz.sizeOf156
 v46:=Tryz.zeroValue156
 t51:=Tryz.underlying179
 a51:=Tryz.isAgg179
 z51:=Tryz.sizeOf179
 v51:=Tryz.zeroValue179
 t53:=Tryz.underlying181
 a53:=Tryz.isAgg181
 z53:=Tryz.sizeOf181
 v53:=Tryz.zeroValue181
 t131:=Tryz.underlying138
 a131:=Tryz.isAgg138
 z131:=Tryz.sizeOf138
 v131:=Tryz.zeroValue138
 t182:=Tryz.underlying172
 a182:=Tryz.isAgg172
 z182:=Tryz.sizeOf172
 v182:=Tryz.zeroValue172
 t183:=Tryz.underlying173
 a183:=Tryz.isAgg173
 z183:=Tryz.sizeOf173
 v183:=Tryz.zeroValue173
 t218:=Tryz.underlying185
 a218:=Tryz.isAgg185
 z218:=Tryz.sizeOf185
 v218:=Tryz.zeroValue185
 t222:=Tryz.underlying189
 a222:=Tryz.isAgg189
 z222:=Tryz.sizeOf189
 v222:=Tryz.zeroValue189
 t228:=Tryz.underlying191
 a228:=Tryz.isAgg191
 z228:=Tryz.sizeOf191
 v228:=Tryz.zeroValue191
 t229:=Tryz.underlying192
 a229:=Tryz.isAgg192
 z229:=Tryz.sizeOf192
 v229:=Tryz.zeroValue192}
theorem bKj {enc:Int→Value} {d:List Int} {cur:Array Value} (h:d.length≤cur.size):(Go.Sort.putCells enc 0 d.toArray cur).size=cur.size∧(Go.Sort.putCells enc 0 d.toArray cur).toList.take d.length=d.map enc:=by
 unfold Go.Sort.putCells;refine ⟨by simp,List.ext_getElem? (fun j=>?_)⟩;by_cases hj:j<d.length
 ·have hc : j < cur.size := by omega
  have e1:(cur.mapIdx fun k x=>if 0≤k∧k<0+d.toArray.size then enc d.toArray[k - 0]! else x).toList[j]? =some (enc d[j]):=by
   rw [Array.getElem?_toList,Array.getElem?_mapIdx,Array.getElem?_eq_getElem hc];simp [hj]
  rw [dQ,if_pos hj,e1,kM,bO hj];rfl
 ·rw [dQ,if_neg hj,kM,qC (by omega)];rfl
theorem bDt {b:Nat} {ok:Nat→Prop} {w:World} {AO:Option Addr} {cO:Nat} {q:List Int} (hR:Kd.R (Kd.int .i64) 3 w b ok (.slice AO q.length cO) q) (hl:q.length≤2000000):
  Calls Tryz.prog 99 #[.slice AO q.length cO] w fun e w'=>e= .returned (.tuple #[])∧Kd.R (Kd.int .i64) 3 w' b ok (.slice AO q.length cO) (q.mergeSort fun x y=>decide (x≤y))∧Ch (fun k=>some k=(Value.slice AO q.length cO).ownBlock) w w':=by
 by_cases h0:q=[]
 ·subst h0
  refine (Any.slices_Sort_int_none bJi AO cO w).mono ?_;rintro e w' ⟨rfl,rfl⟩;exact ⟨rfl,by rw [List.mergeSort_nil];exact hR,Ch.refl _ _⟩
 have hp:0<q.length:=List.length_pos_iff.mpr h0
 obtain ⟨g,cap,e0,hbg,hgl,cur,hcur⟩:=rT hR hp;injection e0 with e1 e2 e3;subst e1 e3;have ho:=qM (enc:=Value.int .i64) (h1:=fun _=>rfl) hR;obtain ⟨hlen,hcase⟩:=ho;rcases hcase with ⟨hx,_⟩|⟨g2,cap2,cur2,hx,hb2,hh2,hn2,hm2,hs2,ht2⟩
 ·cases hx
 injection hx with x1 x2 x3;injection x1 with x1;injection x1 with x1;subst x1 x3;rw [nL] at hs2 ht2
 have hcell: ∀j,j<q.length→cur2[j]? =some (Value.int .i64 (q.getD j 0)):=fun j hj=>by
  have h1:(cur2.toList.take q.length)[j]? =some (Value.int .i64 (q.getD j 0)):=by
   rw [ht2];show (q.map (Value.int .i64))[j]? =_
   rw [kM,bO hj,bM,bO hj];rfl
  rw [dQ,if_pos hj,Array.getElem?_toList] at h1;exact h1
 have hH:Go.Sort.Holds (Value.int .i64) w g 0 q.toArray:=fun j hj=>by
  have hj:j<q.length:=by simpa using hj
  have hc:=Kd.R_cell (enc:=Value.int .i64) (h1:=fun _=>rfl) 0 hR (j:Int) (by omega) (by omega);rw [dK] at hc;have e9:q.toArray[j]! =fW 0 q (j:Int):=by unfold fW;rw [dK,bM];simp [hj]
  rw [tE,e9];exact hc
 refine (Any.slices_Sort_int bJi g 0 _ q w hH hgl (by omega)).mono ?_;rintro e w' ⟨rfl,n,os,rfl⟩;obtain ⟨d,hd⟩: ∃d,d=q.mergeSort fun x y=>decide (x≤y):=⟨_,rfl⟩
 have hdl:d.length=q.length:=by rw [hd,List.length_mergeSort]
 rw [←hd];obtain ⟨s1,s2⟩:=bKj (enc:=Value.int .i64) (d:=d) (cur:=cur2) (by omega);have hsz:(w.heap.modify g (Go.Sort.onCells (Go.Sort.putCells (Value.int .i64) 0 d.toArray))).size=w.heap.size:=by simp
 have hat: ∀k,k<w.heap.size→(Go.Sort.grow (Go.Sort.putRow (Value.int .i64) (Go.Sort.ahead w n) g 0 d.toArray) os).heap[k]? =(w.heap.modify g (Go.Sort.onCells (Go.Sort.putCells (Value.int .i64) 0 d.toArray)))[k]? :=fun k hk=>by
  show (w.heap.modify g (Go.Sort.onCells (Go.Sort.putCells (Value.int .i64) 0 d.toArray))++os)[k]? =_
  exact Array.getElem?_append_left (by rw [hsz];exact hk)
 refine ⟨rfl,?_,⟨rfl,rfl,rfl,?_,fun k hk hn=>?_⟩⟩
 ·refine qN (enc := Value.int .i64) (h1 := fun _ => rfl) ?_ hR.1
  rw [hdl];refine ⟨by rw [nL];show (List.map (Value.int .i64) d).length=_;rw [gN];exact hdl,.inr ⟨g,_,Go.Sort.putCells (Value.int .i64) 0 d.toArray cur2,rfl,hb2,?_,hn2,hm2,by rw [s1,hs2,nL],?_⟩⟩
  ·rw [hat g hgl,Array.getElem?_modify,if_pos rfl,hh2];rfl
  ·rw [nL,←hdl,s2];rfl
 ·show w.heap.size ≤ (w.heap.modify g (Go.Sort.onCells (Go.Sort.putCells (Value.int .i64) 0 d.toArray)) ++ os).size
  rw [Array.size_append,hsz];omega
 ·rw [hat k hk,Array.getElem?_modify,if_neg (fun e=>hn (by rw [e];rfl))]
def bBe (m:Mm):Nat→Nat→Lv→Option Lv
  |0,_,_=>none
  |q+1,i,s=>if s.q.length≤i then some s else (bKs m (rd s.q i)).bind fun ws=>(xA (bDs m) s ws).bind fun s'=>bBe m q (i+1) s'
def bJn (m:Mm):Lv:=⟨List.replicate (m.words.length+1) false,[]⟩
def bFh (k:Nat) (m:Mm) (roots:List Int):Option (List Int):=
  if m.words.length≤2000000∧roots.length≤4000000 then (xA bBu (bJn m) roots).bind fun s1=>(bBe m k 0 s1).bind fun s2=>if s2.q.length≤2000000 then some (s2.q.mergeSort fun x y=>decide (x≤y)) else none
  else none
theorem bDf (N : Nat) (fn : Func) (hf : Tryz.prog.funcs[N]? = some fn) (hn : (fn.name == "runtime.NumGoroutine") = false) (hbd : fn.body.isSome = true) (caps : Array Value)
  (b:Nat) (w0:World) (gs gq gS cS g:Nat) (AO:Option Addr) (cO:Nat) (m:Mm) (f:Lv→Int→Option Lv) (a:Int) (ws:List Int) (X:World→Prop) (s s':Lv) (w:World)
  (hX: ∀W W',X W→Below W.heap.size W W'→X W')
  (hcb: ∀AO cO s s' x W,Lq b w0 gs gq gS cS AO cO W s→X W→f s x=some s'→Calls Tryz.prog N (#[.int .i64 x]++caps) W fun e W'=>(e= .returned (.tuple #[])∧(∃AO cO,Lq b w0 gs gq gS cS AO cO W' s')∧yK W W')∧X W')
  (hm:MV w0 g m) (hb0:b=w0.heap.size) (hg:Lq b w0 gs gq gS cS AO cO w s) (hx:X w) (h1:bKs m a=some ws) (h2:xA f s ws=some s'):
  Calls Tryz.prog 72 #[.pointer (some ⟨g,0,none⟩),.int .i64 a,.func (.func N) #[] caps] w fun e w'=>e= .returned (.tuple #[])∧(∃AO cO,Lq b w0 gs gq gS cS AO cO w' s')∧X w':=by
 refine (bCc N fn hf hn hbd caps g m a (fun rest W=>X W∧∃AO cO t,Lq b w0 gs gq gS cS AO cO W t∧xA f t rest=some s') ws w ?_ ⟨hx,AO,cO,s,hg,h2⟩ ?_ ?_ h1).mono ?_
 ·rintro l W ⟨_, AO, cO, t, hg, _⟩
  exact cP hm (by rw [←hb0];exact hg.be)
 ·rintro l W W' ⟨hx, AO, cO, t, hg, hf⟩ hb
  exact ⟨hX W W' hx hb,AO,cO,t,hg.below hb,hf⟩
 ·rintro x r W ⟨hx, AO, cO, t, hg, hf⟩
  unfold xA at hf;obtain ⟨t',ht,hf⟩:=Option.bind_eq_some_iff.mp hf;refine (hcb AO cO t t' x W hg hx ht).mono ?_;rintro e W' ⟨⟨he,⟨AN,cN,hgn⟩,hk⟩,hxn⟩;exact ⟨he,⟨hxn,AN,cN,t',hgn,hf⟩,hk⟩
 ·rintro e w' ⟨he, ⟨hxn, AN, cN, t, hgn, hf⟩, hk⟩
  unfold xA at hf;obtain rfl:=bC hf;exact ⟨he,⟨AN,cN,hgn⟩,hxn⟩
theorem bBn (k g:Nat) (m:Mm) (AR:Option Addr) (cR:Nat) (roots:List Int) (r:List Int) (w:World) (hm:MV w g m) (hr:Kd.C (Kd.int .i64) w AR roots.length roots) (h:bFh k m roots=some r):
  Calls Tryz.prog 53 #[.pointer (some ⟨g,0,none⟩),.slice AR roots.length cR] w fun e w'=> ∃v,e= .returned v∧Kd.R (Kd.int .i64) 3 w' w.heap.size (fun _=>True) v r∧Below w.heap.size w w':=by
 unfold bFh at h
 split at h
 case isFalse=>simp at h
 case isTrue hsz=>
 obtain ⟨s1,h1,h⟩:=Option.bind_eq_some_iff.mp h;obtain ⟨s2,h4,h⟩:=Option.bind_eq_some_iff.mp h
 split at h
 case isFalse=>simp at h
 case isTrue hql=>
 obtain rfl:=bC h;have HSZ:=aK hsz;have HQL:=aK hql;have H1:=aK (show xA bBu (bJn m) (roots.drop 0)=some s1 by rw [nM];exact h1);have H4:=aK h4;have HM:=aK hm;have HR:=aK hr;have HB:=aK (bQ w.heap.size w);clear hm hr h h1 h4 hsz hql;go_enter Tryz.func53,Tryz.ntmps53
 go_wp2_with ((with_reducible refine dG (N:=2) rfl ?_);refine cL (fun hng=>?_))
 refine hng ?_;clear hng;refine dN ?hg (N:=2) ?hd (cs:= #[.pointer (some ⟨g,0,none⟩)]) (t:=66) ?hr ?_
 (case hd=>rfl)
 (case hg=>rfl)
 (case hr=>first|(go_simp;done)|(go_simp;rfl))
 intro gp hg w1 hbox hb;have BP:=aK hbox;have HGp:=aK (show w.heap.size≤gp by rw [hg];exact bV _);replace HB:=aK (bG HB.out hb);clear hb hbox hg;have hmw:MV w1 g m:=cP HM.out HB.out
 obtain ⟨AW,cM,ACm,cC',AF,cF,AB,cB,n0,nw,nc,nf,nb,lw,lc,lf,lb⟩:=hmw;have p0:=(bK BP.out 0).trans rfl;have g0_:=(bK n0 0).trans rfl;clear n0 nw nc nf nb lw lc lf lb;obtain ⟨n,hn⟩: ∃n:Int,n=(m.words.length:Int)+1:=⟨_,rfl⟩;have u1:IntKind.i64.wrap ((m.words.length:Int)+1)=n:=by rw [hn];exact hZ _ (by have:=HSZ.out;omega)
 have HN:=aK hn;clear hn
 go_wp2_with ((with_reducible refine dG (N:=18) rfl ?_);refine cL (fun hng=>?_))
 refine hng ?_;clear hng;refine Kd.R_make Kd.bool _ 4 rfl (N:=18) rfl 25 _ _ rfl n rfl rfl Tryz.underlying25 (.bool false) 1 bFi rfl (by decide) (by omega) false (ok:=fun _=>True) (okp:=fun _=>True) rfl (fun _ hk=>hk) gG (by have:=HN.out;omega) (by have:=HN.out;have:=HSZ.out;omega) (bQ _ _) (bV _) ?_;intro v18 w2 ho hb hg_ hnew_;clear hg_ hnew_ p0 g0_ u1;obtain ⟨gS,cS,rfl,hgS,_,_⟩:=rT ho (by rw [List.length_replicate];have:=HN.out;omega);have HS:=aK (dR ho (bN HB.out));have HSn:=aK (show List.replicate n.toNat false=(bJn m).sn by unfold bJn;dsimp only;rw [show n.toNat=m.words.length+1 by have:=HN.out;omega]);replace BP:=aK (cJ BP.out hb);replace HB:=aK (bG HB.out hb);clear ho hb hgS;rw [HSn.out] at HS ⊢
 go_wp2_with ((with_reducible refine dG (N:=5) rfl ?_);refine cL (fun hng=>?_))
 refine hng ?_;clear hng;refine dN ?hg (N:=5) ?hd (cs:= #[.slice none 0 0]) (t:=25) ?hr ?_
 (case hd=>rfl)
 (case hg=>rfl)
 (case hr=>first|(go_simp;done)|(go_simp;rfl))
 intro gs hg w3 hbox hb;have BS:=aK hbox;have HGs:=aK (show w.heap.size≤gs by rw [hg];exact bN HB.out);have HSg:=aK (show gS≠gs by have:=rN HS.out gS rfl;omega);replace HS:=aK (cA HS.out hb);replace BP:=aK (cJ BP.out hb);replace HB:=aK (bG HB.out hb);clear hb hbox hg;have z0:=(bK BS.out 0).trans rfl;have y0:=fK BS.out 0
 go_wp2_with ((with_reducible refine kS (t:=25) (p:=5) rfl ?_);refine cL (fun hng=>?_))
 refine hng ?_;clear hng;refine jU (t:=25) (p:=5) (v:=?vo1) (w1:=(w3.setCell ⟨gs,0,none⟩ (.slice (some ⟨gS,0,none⟩) (bJn m).sn.length cS))) ?hg ?ho ?hn ?hr ?_
 (case ho=>rfl)
 (case hg=>rfl)
 (case hn=>rfl)
 (case hr=>first|(go_simp;done)|(go_simp;rfl))
 intro w4 hw;have hc:Ch (fun k=>k=gs) w3 w4:=by rw [hw];exact (Ch.refl (fun k=>k=gs) w3).set (p:=⟨gs,0,none⟩) (.inl rfl) _
 replace HS:=aK (show Kd.R Kd.bool 4 w4 w.heap.size (fun k=>k≠gs) (.slice (some ⟨gS,0,none⟩) (bJn m).sn.length cS) (bJn m).sn from hc.R (qN (enc:=Value.bool) (h1:=fun _=>rfl) (qM (enc:=Value.bool) (h1:=fun _=>rfl) HS.out) (fun k hk=>by injection hk with hk;rw [←hk];exact HSg.out)) (fun k hk=>hk));replace BP:=aK (hc.blk BP.out (fun e=>by have h1:=BP.out;rw [e,BS.out] at h1;injection h1 with h1;injection h1 with _ h1;exact absurd h1 (by decide)));replace HB:=aK (HB.out.trans (hc.toBelow (B:=w.heap.size) (bN HB.out) (fun k hk=>by rw [hk];exact HGs.out)));replace BS:=aK (show w4.heap[gs]? =some (.cells #[.slice (some ⟨gS,0,none⟩) (bJn m).sn.length cS] 25 (0,0)) by rw [hw];exact gC BS.out 0 _ rfl);clear hw hc z0 y0 HSg
 go_wp2_with ((with_reducible refine dG (N:=6) rfl ?_);refine cL (fun hng=>?_))
 refine hng ?_;clear hng;refine dN ?hg (N:=6) ?hd (cs:= #[.slice none 0 0]) (t:=24) ?hr ?_
 (case hd=>rfl)
 (case hg=>rfl)
 (case hr=>first|(go_simp;done)|(go_simp;rfl))
 intro gq hg w5 hbox hb;have HL:=aK (show Lq w.heap.size w gs gq gS cS none 0 w5 (bJn m) from ⟨cJ BS.out hb,hbox,⟨HGs.out,by rw [hg];exact bN HB.out⟩,qN (enc:=Value.bool) (h1:=fun _=>rfl) (qM (enc:=Value.bool) (h1:=fun _=>rfl) (cA HS.out hb)) (fun k hk=>⟨HS.out.1 k hk,by have:=rN HS.out k hk;omega⟩),Kd.R_nil _ _ _ _ _,bG HB.out hb,bN (bG HB.out hb)⟩);replace BP:=aK (cJ BP.out hb);replace HB:=aK (bG HB.out hb);clear hb hbox hg BS HS HGs
 go_wp2_with ((with_reducible refine dG (N:=7) rfl ?_);refine cL (fun hng=>?_))
 refine hng ?_;clear hng;refine dN ?hg (N:=7) ?hd (cs:= #[.nilFunc]) (t:=97) ?hr ?_
 (case hd=>rfl)
 (case hg=>rfl)
 (case hr=>first|(go_simp;done)|(go_simp;rfl))
 intro gf hg w6 hbox hb;replace HL:=aK (HL.out.below hb);have HGf:=aK (show w.heap.size≤gf by rw [hg];exact bN HB.out);replace BP:=aK (cJ BP.out hb);replace HB:=aK (bG HB.out hb);have BF:=aK hbox;clear hb hbox hg;have z0:=(bK BF.out 0).trans rfl;have y0:=fK BF.out 0
 go_wp2_with ((with_reducible refine kS (t:=97) (p:=7) rfl ?_);refine cL (fun hng=>?_))
 refine hng ?_;clear hng;refine jU (t:=97) (p:=7) (v:=?vo2) (w1:=(w6.setCell ⟨gf,0,none⟩ (.func (.func 97) #[] #[.pointer (some ⟨gs,0,none⟩),.pointer (some ⟨gq,0,none⟩)]))) ?hg ?ho ?hn ?hr ?_
 (case ho=>rfl)
 (case hg=>rfl)
 (case hn=>rfl)
 (case hr=>first|(go_simp;done)|(go_simp;rfl))
 intro w7 hw;have hc:Ch (fun k=>k=gf) w6 w7:=by rw [hw];exact (Ch.refl (fun k=>k=gf) w6).set (p:=⟨gf,0,none⟩) (.inl rfl) _
 replace HL:=aK (HL.out.far BF.out (by decide) hc HGf.out);replace BP:=aK (hc.blk BP.out (fun e=>by have h1:=BP.out;rw [e,BF.out] at h1;injection h1 with h1;injection h1 with _ h1;exact absurd h1 (by decide)));replace BF:=aK (show w7.heap[gf]? =some (.cells #[.func (.func 97) #[] #[.pointer (some ⟨gs,0,none⟩),.pointer (some ⟨gq,0,none⟩)]] 97 (0,0)) by rw [hw];exact gC BF.out 0 _ rfl);clear hw hc z0 y0 HB HGf HGp HSn HN;replace HL:=aK (show∃(AO:Option Addr) (cO:Nat),Lq w.heap.size w gs gq gS cS AO cO w7 (bJn m) from ⟨none,0,HL.out⟩);go_wp2
 go_loopw [22] (fun v22 wr=> ∃(k_:Nat) (t:Lv),v22= .int .i64 (k_:Int)∧Aside0 (k_≤roots.length∧xA bBu t (roots.drop k_)=some s1)∧Aside0 (∃(AO:Option Addr) (cO:Nat),Lq w.heap.size w gs gq gS cS AO cO wr t)∧Aside0 (wr.heap[gp]? =some (.cells #[.pointer (some ⟨g,0,none⟩)] 66 (0,0)))∧Aside0 (wr.heap[gf]? =some (.cells #[.func (.func 97) #[] #[.pointer (some ⟨gs,0,none⟩),.pointer (some ⟨gq,0,none⟩)]] 97 (0,0)))) (fun v22 _=>roots.length - (intOf v22).toNat)
 case atStart=>exact ⟨0,bJn m,rfl,⟨xD _,H1.out⟩,HL,BP,BF⟩
 case round =>
  clear H1 HL BP BF;obtain ⟨k_,t,rfl,H1,HL,BP,BF⟩:=hrel;by_cases cx:(k_:Int)<(roots.length:Int)
  ·have d0 : decide ((k_ : Int) < (roots.length : Int)) = true := bB cx
   have d0b:=bL (show k_<roots.length by omega);obtain ⟨AO,cO,hl⟩:=HL.out;have hlt:k_<roots.length:=by omega
   have hd:=fO hlt;have hg_:roots[k_]=rd roots k_:=by unfold rd;rw [dK,bM,bO hlt];rfl
   obtain ⟨ad,e0,hcell⟩:=dA (bS HR.out hl.be) k_ (by omega) (by omega)
   cases e0
   rw [dK] at hcell;have h1:=H1.out.2;rw [hd,hg_] at h1;unfold xA at h1;obtain ⟨t1,ht1,h1⟩:=Option.bind_eq_some_iff.mp h1;obtain ⟨x,hx⟩: ∃x,x=rd roots k_:=⟨_,rfl⟩;rw [←hx] at hcell ht1;have HT:=aK ht1;have H2:=aK h1;have HKl:=aK hlt;have HG:=aK hl;have i1:=bL (show 0≤(k_:Int) by omega);have i2:=bL (show (k_:Int)<(roots.length:Int) by omega);have f0:=(bK BF.out 0).trans rfl;clear hd hg_ h1 ht1 hx hl hlt cx HL
   go_wp2_with ((with_reducible refine bMg rfl Tryz.func97 (by kernel_rfl) rfl #[.int .i64 x,.pointer (some ⟨gs,0,none⟩),.pointer (some ⟨gq,0,none⟩)] rfl rfl ?hargs ?_);(case hargs=>(simp only [kH,mR,nK];rfl));refine cL (fun hng=>?_))
   refine hng ?_;clear hng;refine (bCr w.heap.size w gs gq gS cS AO cO t t1 x _ rfl HG.out HT.out).mono ?_;rintro e w9 ⟨rfl,hl2,hk2⟩;replace BP:=aK (hk2 _ _ _ (by decide) BP.out);replace BF:=aK (hk2 _ _ _ (by decide) BF.out);have HL:=aK hl2;clear hl2 hk2 hcell f0 i1 i2 HG;refine ⟨_,rfl,?_⟩;have u1:IntKind.i64.wrap ((k_:Int)+1)=(k_:Int)+1:=hZ _ (by have h2:=HKl.out;have h3:=HSZ.out;omega)
   go_wp2
   go_roundw
   case rel=>exact ⟨k_+1,t1,rfl,⟨HKl.out,H2.out⟩,HL,BP,BF⟩
   case measure=>have:=HKl.out;simp only [intOf];omega
  ·have d0 : decide ((k_ : Int) < (roots.length : Int)) = false := bJ cx
   have d0b:=eq_false (show¬k_<roots.length by omega);have h1:=H1.out.2;rw [kW (by omega)] at h1;unfold xA at h1;obtain rfl:=bC h1;clear h1 H1 cx;go_wp2
   rename World=>wz
   go_loopw [10] (fun v10 wr=> ∃(k_ q:Nat) (t:Lv),v10= .int .i64 (k_:Int)∧Aside0 (k_+q=k∧bBe m q k_ t=some s2)∧Aside0 (∃(AO:Option Addr) (cO:Nat),Lq w.heap.size w gs gq gS cS AO cO wr t)∧Aside0 (wr.heap[gp]? =some (.cells #[.pointer (some ⟨g,0,none⟩)] 66 (0,0)))∧Aside0 (wr.heap[gf]? =some (.cells #[.func (.func 97) #[] #[.pointer (some ⟨gs,0,none⟩),.pointer (some ⟨gq,0,none⟩)]] 97 (0,0)))) (fun v10 _=>k - (intOf v10).toNat)
   case atStart=>exact ⟨0,k,_,rfl,⟨by omega,H4.out⟩,HL,BP,BF⟩
   case round=>
    clear H4 HL BP BF d0 d0b;obtain ⟨k_,q,t,rfl,HK1,HL,BP,BF⟩:=hrel;obtain ⟨AO,cO,hl⟩:=HL.out;have HG:=aK hl;clear hl HL;have hc:=HK1.out.2
    cases q with
    |zero=>simp [bBe] at hc
    | succ q =>
     unfold bBe at hc;have qc:=(bK HG.out.bq 0).trans rfl;by_cases cl:t.q.length≤k_
     ·rw [if_pos cl] at hc
      obtain rfl:=bC hc;have d1:decide ((k_:Int)<(t.q.length:Int))=false:=bJ (by omega)
      have d1b:=eq_false (show¬k_<t.q.length by omega);clear hc cl
      go_wp2_with (go_at_call 99;refine cL (fun hng=>?_))
      refine hng ?_;clear hng;refine (bDt HG.out.rq HQL.out).mono ?_;rintro e w9 ⟨rfl,hs,hch⟩;have hq9:=hch.blk HG.out.bq (fun e=>(HG.out.rq.1 gq e.symm).1.2 rfl);have qc9:=(bK hq9 0).trans rfl;have HF:=aK (And.intro hs (HG.out.be.trans (hch.toBelow HG.out.sz (fun k hk=>rU HG.out.rq k hk.symm))));clear hs hch hq9 qc;go_wp2;go_ret;exact ⟨.slice AO t.q.length cO,rfl,fG HF.out.1 (fun _ _=>trivial),HF.out.2⟩
     ·rw [if_neg cl] at hc
      have d1:decide ((k_:Int)<(t.q.length:Int))=true:=bB (by omega)
      have d1b:=bL (show k_<t.q.length by omega);obtain ⟨ws,hws,hc⟩:=Option.bind_eq_some_iff.mp hc;obtain ⟨t1,hf,hc⟩:=Option.bind_eq_some_iff.mp hc;obtain ⟨ad,e0,hcell⟩:=dA (bR HG.out.rq).2.2 k_ (by omega) (by omega)
      cases e0
      rw [dK] at hcell;obtain ⟨x,hx⟩: ∃x,x=rd t.q k_:=⟨_,rfl⟩;rw [←hx] at hcell hws;have HW:=aK hws;have HFo:=aK hf;have H5:=aK hc;have i1:=bL (show 0≤(k_:Int) by omega);have i2:=bL (show (k_:Int)<(t.q.length:Int) by omega);have HKl:=aK (show k_<t.q.length by omega);have HMX:=aK (Kd.C_max (bR HG.out.rq).2.2);have p0:=(bK BP.out 0).trans rfl;clear hc hws hf hx cl;go_wp2;refine sT 7 (S:=fun w'=>w'.cell? ⟨gp,0,none⟩=some (.pointer (some ⟨g,0,none⟩))∧w'.cell? ⟨gq,0,none⟩=some (.slice (some ad) t.q.length cO)∧w'.cell? (ad.add k_)=some (.int .i64 x)) (ds:=[6]) ⟨(by go_simp),(by go_simp),(by go_simp)⟩ (fun hHeld=>?_);replace HG:=aK (HG.out.below (bH (bQ wr.heap.size wr)));replace BP:=aK (cJ BP.out (bH (bQ wr.heap.size wr)));replace BF:=aK (cJ BF.out (bH (bQ wr.heap.size wr)));generalize World.drew wr=wt at HG BP BF hHeld ⊢;have hcall:=bDf 98 _ Tryz.func98 (by kernel_rfl) rfl #[.pointer (some ⟨gf,0,none⟩),.pointer (some ⟨gp,0,none⟩)] w.heap.size w gs gq gS cS g (some ad) cO m (bDs m) x ws (fun W=>W.heap[gp]? =some (.cells #[.pointer (some ⟨g,0,none⟩)] 66 (0,0))∧W.heap[gf]? =some (.cells #[.func (.func 97) #[] #[.pointer (some ⟨gs,0,none⟩),.pointer (some ⟨gq,0,none⟩)]] 97 (0,0))) t t1 _ (fun W W' h hb=>⟨cJ h.1 hb,cJ h.2 hb⟩) (fun AO2 cO2 u u' y W hgu hx hu=>(bHg w.heap.size w gs gq gS cS AO2 cO2 g gf gp m u u' y W HM.out rfl hgu hx.2 hx.1 hu).mono (fun e W' hh=>⟨⟨hh.1,hh.2.1,hh.2.2.keepO⟩,hh.2.2 _ _ _ (by decide) hx.1,hh.2.2 _ _ _ (by decide) hx.2⟩)) HM.out rfl HG.out ⟨BP.out,BF.out⟩ HW.out HFo.out;refine pS 2 38 #[false,false,true,false,false,false,false] ?_;refine pS 5 41 #[false,false,true,false,false,true,false] ?_;refine tS 0 36 #[true,false,true,false,false,true,false] rfl rfl (by kernel_rfl) hHeld (by rintro w' ⟨s0,s1,s2⟩;go_simp;with_reducible rfl) ?_;refine tS 1 37 #[true,true,true,false,false,true,false] rfl rfl (by kernel_rfl) hHeld (by rintro w' ⟨s0,s1,s2⟩;go_simp;with_reducible rfl) ?_;refine pS 3 39 #[true,true,true,true,false,true,false] ?_;refine tS 4 40 #[true,true,true,true,true,true,false] rfl rfl (by kernel_rfl) hHeld (by rintro w' ⟨s0,s1,s2⟩;go_simp;with_reducible rfl) ?_;refine last_ (i:=6) (N:=some 42) #[true,true,true,true,true,true,true] rfl rfl (by kernel_rfl) (by decide) (fun K hK=>?_);refine gO Tryz.func72 #[.pointer (some ⟨g,0,none⟩),.int .i64 x,.func (.func 98) #[] #[.pointer (some ⟨gf,0,none⟩),.pointer (some ⟨gp,0,none⟩)]] ?_;(with_reducible refine (hcall).mono ?_);rintro e w9 ⟨rfl,hl2,hx2⟩;refine ⟨_,rfl,?_⟩;refine hK.out _ _ ?_;clear hK K;refine nS 42 ?_;refine kX (by kernel_rfl) ?_;clear hHeld;have HL:=aK hl2;replace BP:=aK hx2.1;replace BF:=aK hx2.2;clear hl2 hx2 qc p0 hcell i1 i2 d1 d1b HG;have u1:IntKind.i64.wrap ((k_:Int)+1)=(k_:Int)+1:=hZ _ (by have h2:=HKl.out;have h3:=HMX.out;omega)
      go_wp2
      go_roundw
      case rel=>exact ⟨k_+1,q,t1,rfl,⟨by have:=HK1.out.1;omega,H5.out⟩,HL,BP,BF⟩
      case measure=>have:=HK1.out.1;simp only [intOf];omega
def glOf (k:Nat) (roots:List Int):Option Mm→Option (List Int)
  |none=>some []
  |some m=>bFh k m roots
def nA (k:Nat) (l0:List (S78)) (l1_0:List Int) (a1_1:Int) (a1_2:Int) (a1_3:Int) (l1_4:List Bool) (l2:List Int):Option (List Int):=
  if l2.length≤281474976710656 then (bFj k k l0 l1_0 a1_1 a1_2 a1_3 l1_4 l2).bind fun r=>glOf k l2 r else none
theorem xQ (k:Nat) (A0:Option Addr) (c0:Nat) (l0:List (S78)) (A1_0:Option Addr) (c1_0:Nat) (l1_0:List Int) (a1_1:Int) (a1_2:Int) (a1_3:Int) (A1_4:Option Addr) (c1_4:Nat) (l1_4:List Bool) (A2:Option Addr) (c2:Nat) (l2:List Int) (r:List Int) (w:World) (hr0:Kd.C yD w A0 l0.length l0) (hc0:l0.length≤c0) (hr1_0:Kd.C (Kd.int .i64) w A1_0 l1_0.length l1_0) (hc1_0:l1_0.length≤c1_0) (hr1_4:Kd.C Kd.bool w A1_4 l1_4.length l1_4) (hc1_4:l1_4.length≤c1_4) (hr2:Kd.C (Kd.int .i64) w A2 l2.length l2) (hc2:l2.length≤c2) (h:nA k l0 l1_0 a1_1 a1_2 a1_3 l1_4 l2=some r):
  Calls Tryz.prog 22 #[.slice A0 l0.length c0,.agg #[.slice A1_0 l1_0.length c1_0,.int .i64 a1_1,.int .i64 a1_2,.int .i64 a1_3,.slice A1_4 l1_4.length c1_4],.slice A2 l2.length c2] w fun e w'=> ∃v0_:Value,e= .returned v0_∧Kd.R (Kd.int .i64) 3 w' w.heap.size (fun _=>True) v0_ r∧Below w.heap.size w w':=by
 unfold nA at h
 split at h
 case isFalse=>simp at h
 case isTrue hl2=>
 obtain ⟨m,hm,h⟩:=Option.bind_eq_some_iff.mp h;have HM:=aK hm;have HL2:=aK hl2;have HR0:=aK hr0;have HC0:=aK hc0;have HR1:=aK hr1_0;have HC1:=aK hc1_0;have HR4:=aK hr1_4;have HC4:=aK hc1_4;have HR2:=aK hr2;have HB:=aK (bI (bQ w.heap.size w) (.cells #[.slice A1_0 l1_0.length c1_0,.int .i64 a1_1,.int .i64 a1_2,.int .i64 a1_3,.slice A1_4 l1_4.length c1_4] 27 (0,0)));have HZ:=aK (show w.heap.size≤(w.alloc (.cells #[.slice A1_0 l1_0.length c1_0,.int .i64 a1_1,.int .i64 a1_2,.int .i64 a1_3,.slice A1_4 l1_4.length c1_4] 27 (0,0))).heap.size by simp);have HH:=aK h;clear hr0 hc0 hr1_0 hc1_0 hr1_4 hc1_4 hr2 hc2 h hm hl2;go_enter Tryz.func22,Tryz.ntmps22
 go_wp2_with fail
 go_at_call 40;refine (bGc k k A0 c0 l0 A1_0 c1_0 l1_0 a1_1 a1_2 a1_3 A1_4 c1_4 l1_4 A2 c2 l2 m _ (bS HR0.out HB.out) HC0.out (bS HR1.out HB.out) HC1.out (bS HR4.out HB.out) HC4.out (bS HR2.out HB.out) HL2.out HM.out).mono ?_
 cases m with
 |none=>
  rintro e w1 ⟨rfl,hb⟩;have HB1:=aK (bG HB.out hb);clear hb HM;obtain rfl:=bC HH.out;go_wp2;go_ret;exact ⟨_,rfl,Kd.R_nil _ _ _ _ _,HB1.out⟩
 |some m=>
  rintro e w1 ⟨g,rfl,hmo,hb⟩;have HB1:=aK (bG HB.out hb);have HMO:=aK hmo;have HF:=aK (show bFh k m l2=some r from HH.out);clear hb HM hmo HH
  go_wp2_with fail
  go_at_call 53;refine (bBn k g m A2 c2 l2 r _ (bEo HMO.out) (bS HR2.out HB1.out) HF.out).mono ?_;rintro e w2 ⟨v,rfl,h0,hb⟩;have H0:=aK (dR h0 (bN HB1.out));have HB2:=aK (bG HB1.out hb);clear hb h0;go_wp2;go_ret;exact ⟨_,rfl,H0.out,HB2.out⟩
def gY:Nat→List Int→List Int→Int→Option (Bool)
  |0,_,_,_=>none
  |k+1,x0,x1,x5=>if x5<(x0.length:Int) then (if 0≤x5 then (if x5<(x1.length:Int) then (if (rd x0 x5)=(rd x1 x5) then (gY k x0 x1 (wrap64 (x5+1))) else (some false)) else (none)) else (none)) else (some true)
def gP (k:Nat) (l0:List Int) (l1:List Int):Option (Bool):=if (l0.length:Int)=(l1.length:Int) then (gY k l0 l1 0) else (some false)
theorem vT: ∀k,(∀y0 y1 y2,bBf (gY k y0 y1 y2) (gY (k+1) y0 y1 y2))
 |0=>fun _ _ _ r h=>by simp [gY] at h
 | k + 1 => by
  have ih0:=vT k
  ·intro y0 y1 y2
   unfold gY;repeat' first
   |(with_reducible exact ih0 _ _ _)
   |(with_reducible exact bBf.refl _)
   |(with_reducible exact bBf.none _)
   |(with_reducible refine bBf.ite ?_ ?_)
   |(with_reducible refine bBf.bind ?_ (fun _=>?_))
   |exact ih0 _ _ _
   |exact bBf.none _
   |refine bBf.ite ?_ ?_
   |refine bBf.bind ?_ (fun _=>?_)
theorem yB: ∀a0 a1 k,bBf (gP k a0 a1) (gP (k+1) a0 a1):=by
  intro a0 a1 k;have ih0:=vT k;unfold gP
  repeat' first
      |(with_reducible exact ih0 _ _ _)
      |(with_reducible exact bBf.refl _)
      |(with_reducible exact bBf.none _)
      |(with_reducible refine bBf.ite ?_ ?_)
      |(with_reducible refine bBf.bind ?_ (fun _=>?_))
      |exact ih0 _ _ _
      |exact bBf.none _
      |refine bBf.ite ?_ ?_
      |refine bBf.bind ?_ (fun _=>?_)
theorem gB (k : Nat) (A0 : Option Addr) (c0 : Nat) (l0 : List Int) (A1 : Option Addr) (c1 : Nat) (l1 : List Int) (r : Bool) (w : World) (hr0 : Kd.C (Kd.int .i64) w A0 l0.length l0) (hc0 : l0.length ≤ c0) (hr1 : Kd.C (Kd.int .i64) w A1 l1.length l1) (hc1 : l1.length ≤ c1) (h : gP k l0 l1 = some r) :
  Calls Tryz.prog 23 #[.slice A0 l0.length c0,.slice A1 l1.length c1] w fun e w'=>e= .returned (.bool r)∧Drawn0 w w':=by
 have HR0:=aK hr0;have HC0:=aK hc0;clear hr0 hc0;have HR1:=aK hr1;have HC1:=aK hc1;clear hr1 hc1;have H:(if (l0.length:Int)=(l1.length:Int) then (gY k l0 l1 0) else (some false))=some r:=h
 clear h;by_cases c3:(l0.length:Int)=(l1.length:Int)
 ·rw [if_pos c3] at H
  have c3b0:((l0.length:Int)==(l1.length:Int))=true:=beq_iff_eq.mpr c3
  have c3b1:((l0.length:Int) !=(l1.length:Int))=false:=bne_eq_false_iff_eq.mpr c3
  have c3b2:(l0.length==l1.length)=true:=by first|simpa using c3|(simp at c3 ⊢;omega)
  clear c3;have H':=aK H;clear H;go_enter Tryz.func23,Tryz.ntmps23;go_wp2;repeat (go_quiet (fail);try go_wp2)
  go_loopg [5] k (fun kq v5 w'=> ∃(x5_1:Int),v5= .int .i64 x5_1∧Aside0 (gY kq l0 l1 x5_1=some r)∧Aside0 (kq≤k)∧Drawn0 w w')
  case atStart=>exact ⟨(0),kG,H',⟨bV _⟩,by repeat (first|exact Drawn0.refl _|apply Drawn0.step)⟩
  case round =>
   clear H';(try clear c1);(try clear c2);(try clear p2);(try clear c3);(try clear c3b0);(try clear c3b1);(try clear c3b2);obtain ⟨x5_1,rfl,HA,HK1,⟨m1,rfl⟩⟩:=hrel
   cases gk with
   |zero=>exact absurd HA.out (by simp [gY])
   | succ k1 =>
    have H:=HA.out;clear HA;simp only [gY] at H;by_cases c4:x5_1<(l0.length:Int)
    ·rw [if_pos c4] at H
     have c4b0:decide (x5_1<(l0.length:Int))=true:=bB c4
     clear c4;by_cases c5:0≤x5_1
     ·rw [if_pos c5] at H
      have c5b0:decide (0≤x5_1)=true:=bB c5
      clear c5;by_cases c6:x5_1<(l1.length:Int)
      ·rw [if_pos c6] at H
       have c6b0:decide (x5_1<(l1.length:Int))=true:=bB c6
       clear c6;by_cases c7:(rd l0 x5_1)=(rd l1 x5_1)
       ·rw [if_pos c7] at H
        have c7b0:((rd l0 x5_1)==(rd l1 x5_1))=true:=beq_iff_eq.mpr c7
        have c7b1:((rd l0 x5_1) !=(rd l1 x5_1))=false:=bne_eq_false_iff_eq.mpr c7
        clear c7;have H':=aK H;clear H;have p447:0≤(x5_1:Int):=bA fU
        have q447:x5_1<(l0.length:Int):=bA fU
        obtain ⟨ad447,e447,hx447_0⟩:=dA HR0.out x5_1 p447 q447
        cases e447
        replace p447:=bL p447;replace q447:=bL q447;have p448:0≤(x5_1:Int):=bA fU
        have q448:x5_1<(l1.length:Int):=bA fU
        obtain ⟨ad448,e448,hx448_0⟩:=dA HR1.out x5_1 p448 q448
        cases e448
        replace p448:=bL p448;replace q448:=bL q448;go_wp2;repeat (go_quiet (fail);try go_wp2)
        go_roundg k1
        case measure=>have:=HK1.out;omega
        case rel=>exact ⟨(wrap64 (x5_1+1)),kG,H',⟨by have:=HK1.out;omega⟩,by repeat (first|exact Drawn0.refl _|apply Drawn0.step)⟩
       ·rw [if_neg c7] at H
        have c7b0:((rd l0 x5_1)==(rd l1 x5_1))=false:=tP.mpr c7
        have c7b1:((rd l0 x5_1) !=(rd l1 x5_1))=true:=bne_iff_ne.mpr c7
        obtain rfl:=bC H;have p447:0≤(x5_1:Int):=bA fU
        have q447:x5_1<(l0.length:Int):=bA fU
        obtain ⟨ad447,e447,hx447_0⟩:=dA HR0.out x5_1 p447 q447
        cases e447
        replace p447:=bL p447;replace q447:=bL q447;have p448:0≤(x5_1:Int):=bA fU
        have q448:x5_1<(l1.length:Int):=bA fU
        obtain ⟨ad448,e448,hx448_0⟩:=dA HR1.out x5_1 p448 q448
        cases e448
        replace p448:=bL p448;replace q448:=bL q448;go_wp2;repeat (go_quiet (fail);try go_wp2)
        go_ret;exact ⟨kG,nP⟩
      ·rw [if_neg c6] at H
       exact absurd H (by simp)
     ·rw [if_neg c5] at H
      exact absurd H (by simp)
    ·rw [if_neg c4] at H
     have c4b0:decide (x5_1<(l0.length:Int))=false:=bJ c4
     clear c4;obtain rfl:=bC H;go_wp2;repeat (go_quiet (fail);try go_wp2)
     go_ret;exact ⟨kG,nP⟩
 ·rw [if_neg c3] at H
  have c3b0:((l0.length:Int)==(l1.length:Int))=false:=tP.mpr c3
  have c3b1:((l0.length:Int) !=(l1.length:Int))=true:=bne_iff_ne.mpr c3
  have c3b2:(l0.length==l1.length)=false:=by first|simpa using c3|(simp at c3 ⊢;omega)
  obtain rfl:=bC H;go_enter Tryz.func23,Tryz.ntmps23;go_wp2;repeat (go_quiet (fail);try go_wp2)
  go_ret;exact ⟨kG,nP⟩
def vV (k:Nat) (a0_0:Int) (l0_1:List Int) (a1_0:Int) (l1_1:List Int):Option (Bool):=if a0_0=a1_0 then ((gP k l0_1 l1_1).bind fun t451=>(if t451=true then (some true) else (some false))) else (some false)
theorem vW (k:Nat) (a0_0:Int) (A0_1:Option Addr) (c0_1:Nat) (l0_1:List Int) (a1_0:Int) (A1_1:Option Addr) (c1_1:Nat) (l1_1:List Int) (r:Bool) (w:World) (hr0_1:Kd.C (Kd.int .i64) w A0_1 l0_1.length l0_1) (hc0_1:l0_1.length≤c0_1) (hr1_1:Kd.C (Kd.int .i64) w A1_1 l1_1.length l1_1) (hc1_1:l1_1.length≤c1_1) (h:vV k a0_0 l0_1 a1_0 l1_1=some r):
  Calls Tryz.prog 54 #[.agg #[.int .i64 a0_0,.slice A0_1 l0_1.length c0_1],.agg #[.int .i64 a1_0,.slice A1_1 l1_1.length c1_1]] w fun e w'=>e= .returned (.bool r)∧Below w.heap.size w w':=by
 have hu78:=Tryz.underlying78;have HR0_1:=aK hr0_1;have HC0_1:=aK hc0_1;clear hr0_1 hc0_1;have HR1_1:=aK hr1_1;have HC1_1:=aK hc1_1;clear hr1_1 hc1_1;have HB:=aK (bQ w.heap.size w);have H:(if a0_0=a1_0 then ((gP k l0_1 l1_1).bind fun t451=>(if t451=true then (some true) else (some false))) else (some false))=some r:=h
 clear h;by_cases c3:a0_0=a1_0
 ·rw [if_pos c3] at H
  have c3b0:(a0_0==a1_0)=true:=beq_iff_eq.mpr c3
  have c3b1:(a0_0 !=a1_0)=false:=bne_eq_false_iff_eq.mpr c3
  clear c3;replace H:=Option.bind_eq_some_iff.mp H;obtain ⟨t451,A40,H⟩:=H;(try dsimp only at H);have A4:=aK A40;clear A40;by_cases c5:t451=true
  ·subst c5
   rw [if_pos rfl] at H;obtain rfl:=bC H;go_enter Tryz.func54,Tryz.ntmps54
   go_wp2_with (first|((with_reducible refine dG (N:=2) rfl ?_);refine dN ?hg (N:=2) ?hd (cs:= #[.int .i64 a0_0,.slice A0_1 l0_1.length c0_1]) (t:=78) ?hr ?_;(case hd=>rfl);(case hg=>rfl);(case hr=>first|(go_simp;done)|(go_simp;rfl));intro gb449 hg w6 hbox hb;have BK449:=aK (hbox);have GW449:=aK ((by rw [hg];exact (bN jR):w.heap.size≤gb449));have GE449:=aK ((by rw [hg];exact (bN jR):w.heap.size≤gb449));replace HB:=aK (bG jR hb);clear hb hbox hg)|((with_reducible refine dG (N:=3) rfl ?_);refine dN ?hg (N:=3) ?hd (cs:= #[.int .i64 a1_0,.slice A1_1 l1_1.length c1_1]) (t:=78) ?hr ?_;(case hd=>rfl);(case hg=>rfl);(case hr=>first|(go_simp;done)|(go_simp;rfl));intro gb450 hg w7 hbox hb;have BK450:=aK (hbox);have GW450:=aK ((by rw [hg];exact (bN bFt):w.heap.size≤gb450));have GE450:=aK ((by rw [hg];exact (bN bFt):w.heap.size≤gb450));have NB449_450:=aK ((by rw [hg];exact mW (cK (g:=gb449) (o:= .cells #[.int .i64 a0_0,.slice A0_1 l0_1.length c0_1] 78 (0,0)) bFr):gb449≠gb450));have NB450_449:=aK ((by rw [hg];exact nJ (cK (g:=gb449) (o:= .cells #[.int .i64 a0_0,.slice A0_1 l0_1.length c0_1] 78 (0,0)) bFr):gb450≠gb449));replace BK449:=aK (cJ (g:=gb449) (o:= .cells #[.int .i64 a0_0,.slice A0_1 l0_1.length c0_1] 78 (0,0)) bFr hb);replace HB:=aK (bG bFt hb);clear hb hbox hg;have hnb8:=NB449_450.out;have hnc8:=NB450_449.out;obtain ⟨hcz9_0,hcz9_1,hfz9_0,hfz9_1⟩:=rL BK449;obtain ⟨hcz10_0,hcz10_1,hfz10_0,hfz10_1⟩:=rL BK450)|((with_reducible refine cD (f:=23) rfl ?_);refine dT (some 14) rfl rfl Tryz.func23 (by kernel_rfl) rfl #[.slice A0_1 l0_1.length c0_1,.slice A1_1 l1_1.length c1_1] rfl mO ?_;(with_reducible refine (gB k _ _ l0_1 _ _ l1_1 true _ ?side1 ?side2 ?side3 ?side4 A4.out).mono ?_);(case side1=>exact zz45);(case side2=>exact HC0_1.out);(case side3=>exact (by repeat (first|exact (bS HR1_1.out HB.out)|(with_reducible refine Kd.C_alloc ?_ _)|(with_reducible refine Kd.C_drewN ?_ _)|(with_reducible refine Kd.C_drew ?_))));(case side4=>exact HC1_1.out);rintro e w' ⟨rfl,⟨nd,rfl⟩⟩;refine ⟨_,rfl,?_⟩))
   go_ret;exact ⟨sL,zz48⟩
  ·replace c5 := Bool.eq_false_iff.mpr c5
   subst c5;rw [if_neg (show¬(false=true) by decide)] at H;obtain rfl:=bC H;go_enter Tryz.func54,Tryz.ntmps54
   go_wp2_with (first|((with_reducible refine dG (N:=2) rfl ?_);refine dN ?hg (N:=2) ?hd (cs:= #[.int .i64 a0_0,.slice A0_1 l0_1.length c0_1]) (t:=78) ?hr ?_;(case hd=>rfl);(case hg=>rfl);(case hr=>first|(go_simp;done)|(go_simp;rfl));intro gb449 hg w11 hbox hb;have BK449:=aK (hbox);have GW449:=aK ((by rw [hg];exact (bN jR):w.heap.size≤gb449));have GE449:=aK ((by rw [hg];exact (bN jR):w.heap.size≤gb449));replace HB:=aK (bG jR hb);clear hb hbox hg)|((with_reducible refine dG (N:=3) rfl ?_);refine dN ?hg (N:=3) ?hd (cs:= #[.int .i64 a1_0,.slice A1_1 l1_1.length c1_1]) (t:=78) ?hr ?_;(case hd=>rfl);(case hg=>rfl);(case hr=>first|(go_simp;done)|(go_simp;rfl));intro gb450 hg w12 hbox hb;have BK450:=aK (hbox);have GW450:=aK ((by rw [hg];exact (bN bFt):w.heap.size≤gb450));have GE450:=aK ((by rw [hg];exact (bN bFt):w.heap.size≤gb450));have NB449_450:=aK ((by rw [hg];exact mW (cK (g:=gb449) (o:= .cells #[.int .i64 a0_0,.slice A0_1 l0_1.length c0_1] 78 (0,0)) bFr):gb449≠gb450));have NB450_449:=aK ((by rw [hg];exact nJ (cK (g:=gb449) (o:= .cells #[.int .i64 a0_0,.slice A0_1 l0_1.length c0_1] 78 (0,0)) bFr):gb450≠gb449));replace BK449:=aK (cJ (g:=gb449) (o:= .cells #[.int .i64 a0_0,.slice A0_1 l0_1.length c0_1] 78 (0,0)) bFr hb);replace HB:=aK (bG bFt hb);clear hb hbox hg;have hnb13:=NB449_450.out;have hnc13:=NB450_449.out;obtain ⟨hcz14_0,hcz14_1,hfz14_0,hfz14_1⟩:=rL BK449;obtain ⟨hcz15_0,hcz15_1,hfz15_0,hfz15_1⟩:=rL BK450)|((with_reducible refine cD (f:=23) rfl ?_);refine dT (some 14) rfl rfl Tryz.func23 (by kernel_rfl) rfl #[.slice A0_1 l0_1.length c0_1,.slice A1_1 l1_1.length c1_1] rfl mO ?_;(with_reducible refine (gB k _ _ l0_1 _ _ l1_1 false _ ?side1 ?side2 ?side3 ?side4 A4.out).mono ?_);(case side1=>exact zz45);(case side2=>exact HC0_1.out);(case side3=>exact (by repeat (first|exact (bS HR1_1.out HB.out)|(with_reducible refine Kd.C_alloc ?_ _)|(with_reducible refine Kd.C_drewN ?_ _)|(with_reducible refine Kd.C_drew ?_))));(case side4=>exact HC1_1.out);rintro e w' ⟨rfl,⟨nd,rfl⟩⟩;refine ⟨_,rfl,?_⟩))
   go_ret;exact ⟨sL,zz48⟩
 ·rw [if_neg c3] at H
  have c3b0:(a0_0==a1_0)=false:=tP.mpr c3
  have c3b1:(a0_0 !=a1_0)=true:=bne_iff_ne.mpr c3
  obtain rfl:=bC H;go_enter Tryz.func54,Tryz.ntmps54
  go_wp2_with (first|((with_reducible refine dG (N:=2) rfl ?_);refine dN ?hg (N:=2) ?hd (cs:= #[.int .i64 a0_0,.slice A0_1 l0_1.length c0_1]) (t:=78) ?hr ?_;(case hd=>rfl);(case hg=>rfl);(case hr=>first|(go_simp;done)|(go_simp;rfl));intro gb449 hg w16 hbox hb;have BK449:=aK (hbox);have GW449:=aK ((by rw [hg];exact (bN jR):w.heap.size≤gb449));have GE449:=aK ((by rw [hg];exact (bN jR):w.heap.size≤gb449));replace HB:=aK (bG jR hb);clear hb hbox hg)|((with_reducible refine dG (N:=3) rfl ?_);refine dN ?hg (N:=3) ?hd (cs:= #[.int .i64 a1_0,.slice A1_1 l1_1.length c1_1]) (t:=78) ?hr ?_;(case hd=>rfl);(case hg=>rfl);(case hr=>first|(go_simp;done)|(go_simp;rfl));intro gb450 hg w17 hbox hb;have BK450:=aK (hbox);have GW450:=aK ((by rw [hg];exact (bN bFt):w.heap.size≤gb450));have GE450:=aK ((by rw [hg];exact (bN bFt):w.heap.size≤gb450));have NB449_450:=aK ((by rw [hg];exact mW (cK (g:=gb449) (o:= .cells #[.int .i64 a0_0,.slice A0_1 l0_1.length c0_1] 78 (0,0)) bFr):gb449≠gb450));have NB450_449:=aK ((by rw [hg];exact nJ (cK (g:=gb449) (o:= .cells #[.int .i64 a0_0,.slice A0_1 l0_1.length c0_1] 78 (0,0)) bFr):gb450≠gb449));replace BK449:=aK (cJ (g:=gb449) (o:= .cells #[.int .i64 a0_0,.slice A0_1 l0_1.length c0_1] 78 (0,0)) bFr hb);replace HB:=aK (bG bFt hb);clear hb hbox hg;have hnb18:=NB449_450.out;have hnc18:=NB450_449.out;obtain ⟨hcz19_0,hcz19_1,hfz19_0,hfz19_1⟩:=rL BK449;obtain ⟨hcz20_0,hcz20_1,hfz20_0,hfz20_1⟩:=rL BK450))
  go_ret;exact ⟨sL,zz48⟩
end Go.Proofs.YtbaklikaoleplaaGreat.K
