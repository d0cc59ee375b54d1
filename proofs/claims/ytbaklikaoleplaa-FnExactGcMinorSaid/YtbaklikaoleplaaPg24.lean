import Derived.Test.YtbaklikaoleplaaProg
import Derived.Below
import Derived.Deep.Draws
import Derived.Deep.AppendLies
import Derived.Maps.AppendAt
import Derived.OwnWalk
import Derived.Laws.BytesArg
import Derived.Laws.MakeOwn
import Derived.Laws.OwnMore
import Derived.Deep.OwnRows
import Derived.Tactics
import Derived.Lib.ConvBytes
import Derived.Laws.Slices
import Derived.WalkKit
import Derived.KernelRfl
import Derived.RowKit3
import Derived.Deep.LoopGhost
import Derived.Deep.QuietTactic
import Derived.BigQuiet
import Derived.WideLaws
import Derived.Deep.DeepCutAuto
import Derived.Deep.CutBlock
import Derived.Deep.RegionHeld3
import Derived.Laws.Rows
import Derived.Lib.AppendStr
import Derived.ArgAppend
import Derived.Laws.IdiomCopy
import Derived.OrdersHeld
import Derived.Laws.BitsLemmas
import Derived.RowKit
import Derived.Test.YtbaklikaoleplaaPg3
import Derived.Test.YtbaklikaoleplaaPg4
import Derived.Test.YtbaklikaoleplaaPg5
import Derived.Test.YtbaklikaoleplaaPg6
import Derived.Test.YtbaklikaoleplaaPg7
import Derived.Test.YtbaklikaoleplaaPg8
import Derived.Test.YtbaklikaoleplaaPg9
import Derived.Test.YtbaklikaoleplaaPg10
import Derived.Test.YtbaklikaoleplaaPg11
import Derived.Test.YtbaklikaoleplaaPg12
import Derived.Test.YtbaklikaoleplaaPg13
import Derived.Test.YtbaklikaoleplaaPg14
import Derived.Test.YtbaklikaoleplaaPg15
import Derived.Test.YtbaklikaoleplaaPg16
import Derived.Test.YtbaklikaoleplaaPg17
import Derived.Test.YtbaklikaoleplaaPg18
import Derived.Test.YtbaklikaoleplaaPg19
import Derived.Test.YtbaklikaoleplaaPg20
import Derived.Test.YtbaklikaoleplaaPg21
import Derived.Test.YtbaklikaoleplaaPg22
import Derived.Test.YtbaklikaoleplaaPg23
namespace Go.Proofs.Ytbaklikaoleplaa.K
open Go.RowKit Go.Proofs.YtbaklikaoleplaaW.PrintWords Go.Proofs.YtbaklikaoleplaaW.PrintLast Go.Proofs.YtbaklikaoleplaaW.PrintMore
attribute [local go_sem] max2_int min2_int max_two min_two max_three min_three max_four min_four
set_option linter.unusedVariables false
set_option linter.unusedSimpArgs false
def errW:Option Int→Value
  |none=> .nilIface
  |some c=> .iface 0 (.int .i64 c)
theorem errW_none:errW none= .nilIface:=rfl
theorem errW_some (c:Int):errW (some c)= .iface 0 (.int .i64 c):=rfl
def lA (n m:Nat):Array Bool:=((List.range n).map (Nat.testBit m)).toArray
theorem lA1 {α:Type} (l:List α) (i:Nat) (a:α):l.toArray.setIfInBounds i a=(l.set i a).toArray:=List.setIfInBounds_toArray l i a
theorem lA2 {α:Type} {x a:α} {l:List α}:(x::l).set 0 a=a::l:=List.set_cons_zero
theorem lA3 {α:Type} {x a:α} {l:List α} {n:Nat}:(x::l).set (n+1) a=x::l.set n a:=List.set_cons_succ
section
open Go.Proofs.YtbaklikaoleplaaW.PrintLast
variable {P:Program} {ops:Array Oper} {Q:Exit→Act→World→Prop} {md:Region.Mode} {S:World→Prop} {ds:List Nat} {oi:Oper} {v:Value} {fuel:Nat} {l:Array Bool} {a a':Act} {w:World}
theorem pS (i:Nat) (n:Tmp) (l':Array Bool) (h:wpAnyLast P md ops Q S ds fuel l' a' w) (hi:ops[i]? =some oi:=by exact rfl) (hN:oi.dst=some n:=by exact rfl) (hc:anyB md ops l l' i=true:=by as_aux_lemma=>kernel_rfl) (hQ: ∀c a w,Q (.panic c) (a.put oi.dst v) w→Q (.panic c) a w:=by exact fun _ _ _ h=>h) (hw:Region.wanted oi (yielded ops a.tmps)=true:=by rfl) (hv: ∀w',(execOp a.eval oi).run P w'= .ok (.value v) w':=by intro w';go_simp;with_reducible rfl) (ha:a.put (some n) v=a':=by simp only [Act.put,lA1,lA2,lA3,i64_w,i32_w];rfl):wpAnyLast P md ops Q S ds (fuel+1) l a w:=
  pure_ l' hi hN hc hQ (Or.inl ⟨hw,hv⟩) ha h
theorem pU (i:Nat) (n:Tmp) (l':Array Bool) (h:wpAnyLast P md ops Q S ds fuel l' a' w) (hi:ops[i]? =some oi:=by exact rfl) (hN:oi.dst=some n:=by exact rfl) (hc:anyB md ops l l' i=true:=by as_aux_lemma=>kernel_rfl) (hQ: ∀c a w,Q (.panic c) (a.put oi.dst undef) w→Q (.panic c) a w:=by exact fun _ _ _ h=>h) (hw:Region.wanted oi (yielded ops a.tmps)=false:=by rfl) (ha:a.put (some n) undef=a':=by simp only [Act.put,lA1,lA2,lA3,i64_w,i32_w];rfl):wpAnyLast P md ops Q S ds (fuel+1) l a w:=
  pure_ l' hi hN hc hQ (Or.inr ⟨hw,rfl⟩) ha h
theorem tS (i:Nat) (n:Tmp) (l':Array Bool) (hi:ops[i]? =some oi) (hN:oi.dst=some n) (hc:takeB md ops ds l l' i=true) (hS:S w) (hv: ∀w',S w'→(execOp a.eval oi).run P w'= .ok (.value v) w') (h:wpAnyLast P md ops Q S ds fuel l' a' w) (hQ: ∀c a w,Q (.panic c) (a.put oi.dst v) w→Q (.panic c) a w:=by exact fun _ _ _ h=>h) (hw:Region.wanted oi (yielded ops a.tmps)=true:=by rfl) (ha:a.put (some n) v=a':=by simp only [Act.put,lA1,lA2,lA3,i64_w,i32_w];rfl):wpAnyLast P md ops Q S ds (fuel+1) l a w:=
  take_ l' hi hN hc hQ (Or.inl ⟨hw,hv⟩) hS ha h
end
theorem info3:(Try.prog.info? 3).map (fun i=>(i.zero,i.size,i.bytes))=some (some (.int .i64 0),1,8):=by kernel_rfl
theorem info4:(Try.prog.info? 4).map (fun i=>(i.zero,i.size,i.bytes))=some (some (.bool false),1,1):=by kernel_rfl
theorem info23:(Try.prog.info? 23).map (fun i=>(i.zero,i.size,i.bytes))=some (some (.slice none 0 0),1,24):=by kernel_rfl
theorem info53:(Try.prog.info? 53).map (fun i=>(i.zero,i.size,i.bytes))=some (some (.agg #[(.int .i64 0),(.slice none 0 0)]),2,32):=by kernel_rfl
def rd_L1 (xs:List (List Int)) (i:Int):(List Int):=xs.getD i.toNat ([]:List Int)
theorem at_L1 {w:World} {A:Option Addr} {n:Nat} {xs:List (List Int)} (h:Kd.C (Kd.slice 3 (Kd.int .i64)) w A n xs) (i:Int) (h0:0≤i) (h1:i<n): ∃ad A0 c0,A=some ad∧w.cell? (ad.add i.toNat)=some (.slice A0 (rd_L1 xs i).length c0)∧(rd_L1 xs i).length≤c0∧(Kd.int .i64).C w A0 (rd_L1 xs i).length (rd_L1 xs i):=by
 obtain ⟨ad,c,e,_,hK,hc0⟩:=Kd.C_get h ([]:List Int) i h0 h1;have hc: ∀j u,c[j]? =some u→w.cell? (ad.add (i.toNat*1+j))=some u:=hc0
 obtain ⟨A0,c0,rfl,l0,g0⟩:=hK;exact ⟨ad,A0,c0,e,by have hq:=hc 0 _ rfl;rwa [Nat.mul_one,Nat.add_zero] at hq,l0,g0⟩
structure S50 where
  f0:Int
  f1:(List Int)
def z50:S50:=⟨(0:Int),([]:List Int)⟩
def k50:Kd S50:=Kd.iso (Kd.pair (Kd.int .i64) (Kd.slice 3 (Kd.int .i64))) (fun x:S50=>(x.f0,x.f1))
theorem k50_open {w:World} {x:S50} {cs:List Value} (h:k50.K w x cs): ∃A1 c1,cs=[.int .i64 x.f0,.slice A1 x.f1.length c1]∧x.f1.length≤c1∧(Kd.int .i64).C w A1 x.f1.length x.f1:=by
  obtain ⟨_,_,rfl,rfl,⟨A1,c1,rfl,l1,g1⟩⟩:=h;exact ⟨A1,c1,rfl,l1,g1⟩
def rd_T50 (xs:List S50) (i:Int):S50:=xs.getD i.toNat z50
theorem at_T50 {w:World} {A:Option Addr} {n:Nat} {xs:List S50} (h:Kd.C k50 w A n xs) (i:Int) (h0:0≤i) (h1:i<n): ∃ad A1 c1,A=some ad∧w.cell? (ad.add (i.toNat*2))=some (.int .i64 (rd_T50 xs i).f0)∧w.cell? ⟨(ad.add (i.toNat*2)).block,(ad.add (i.toNat*2)).off+1,none⟩=some (.slice A1 (rd_T50 xs i).f1.length c1)∧(rd_T50 xs i).f1.length≤c1∧(Kd.int .i64).C w A1 (rd_T50 xs i).f1.length (rd_T50 xs i).f1:=by
 obtain ⟨ad,c,e,_,hK,hc0⟩:=Kd.C_get h z50 i h0 h1;have hc: ∀j u,c[j]? =some u→w.cell? (ad.add (i.toNat*2+j))=some u:=hc0
 obtain ⟨A1,c1,rfl,l1,g1⟩:=k50_open hK;exact ⟨ad,A1,c1,e,hc 0 _ rfl,by rw [←add_field _ _ 1 (by omega)];exact hc 1 _ rfl,l1,g1⟩
structure S53 where
  f0:Int
  f1:(List Int)
def z53:S53:=⟨(0:Int),([]:List Int)⟩
def k53:Kd S53:=Kd.iso (Kd.pair (Kd.int .i64) (Kd.slice 3 (Kd.int .i64))) (fun x:S53=>(x.f0,x.f1))
theorem k53_open {w:World} {x:S53} {cs:List Value} (h:k53.K w x cs): ∃A1 c1,cs=[.int .i64 x.f0,.slice A1 x.f1.length c1]∧x.f1.length≤c1∧(Kd.int .i64).C w A1 x.f1.length x.f1:=by
  obtain ⟨_,_,rfl,rfl,⟨A1,c1,rfl,l1,g1⟩⟩:=h;exact ⟨A1,c1,rfl,l1,g1⟩
theorem k53_openM {w:World} {base:Nat} {ok:Nat→Prop} {x:S53} {cs:List Value} (h:k53.M w base ok x cs): ∃v1,cs=[.int .i64 x.f0,v1]∧(Kd.int .i64).R 3 w base ok v1 x.f1:=by
  obtain ⟨_,_,rfl,rfl,⟨v1,rfl,g1⟩⟩:=h;exact ⟨v1,rfl,g1⟩
theorem k53_mkM (w:World) (base:Nat) (ok:Nat→Prop) (x:S53) {v1:Value} (g1:(Kd.int .i64).R 3 w base ok v1 x.f1):k53.M w base ok x [.int .i64 x.f0,v1]:=⟨[.int .i64 x.f0],[v1],rfl,rfl,⟨v1,rfl,g1⟩⟩
def rd_T53 (xs:List S53) (i:Int):S53:=xs.getD i.toNat z53
theorem at_T53 {w:World} {A:Option Addr} {n:Nat} {xs:List S53} (h:Kd.C k53 w A n xs) (i:Int) (h0:0≤i) (h1:i<n): ∃ad A1 c1,A=some ad∧w.cell? (ad.add (i.toNat*2))=some (.int .i64 (rd_T53 xs i).f0)∧w.cell? ⟨(ad.add (i.toNat*2)).block,(ad.add (i.toNat*2)).off+1,none⟩=some (.slice A1 (rd_T53 xs i).f1.length c1)∧(rd_T53 xs i).f1.length≤c1∧(Kd.int .i64).C w A1 (rd_T53 xs i).f1.length (rd_T53 xs i).f1:=by
 obtain ⟨ad,c,e,_,hK,hc0⟩:=Kd.C_get h z53 i h0 h1;have hc: ∀j u,c[j]? =some u→w.cell? (ad.add (i.toNat*2+j))=some u:=hc0
 obtain ⟨A1,c1,rfl,l1,g1⟩:=k53_open hK;exact ⟨ad,A1,c1,e,hc 0 _ rfl,by rw [←add_field _ _ 1 (by omega)];exact hc 1 _ rfl,l1,g1⟩
structure S26 where
 f0:(List Int)
 f1:Int
 f2:Int
 f3:Int
 f4:(List Bool)
def k26:Kd S26:=Kd.iso (Kd.pair (Kd.slice 3 (Kd.int .i64)) (Kd.pair (Kd.int .i64) (Kd.pair (Kd.int .i64) (Kd.pair (Kd.int .i64) (Kd.slice 4 Kd.bool))))) (fun x:S26=>(x.f0,x.f1,x.f2,x.f3,x.f4))
theorem k26_open {w:World} {x:S26} {cs:List Value} (h:k26.K w x cs): ∃A0 c0 A4 c4,cs=[.slice A0 x.f0.length c0,.int .i64 x.f1,.int .i64 x.f2,.int .i64 x.f3,.slice A4 x.f4.length c4]∧x.f0.length≤c0∧(Kd.int .i64).C w A0 x.f0.length x.f0∧x.f4.length≤c4∧Kd.bool.C w A4 x.f4.length x.f4:=by
  obtain ⟨_,_,rfl,⟨A0,c0,rfl,l0,g0⟩,⟨_,_,rfl,rfl,⟨_,_,rfl,rfl,⟨_,_,rfl,rfl,⟨A4,c4,rfl,l4,g4⟩⟩⟩⟩⟩:=h;exact ⟨A0,c0,A4,c4,rfl,l0,g0,l4,g4⟩
theorem cbf2 {w:World} {g:Nat} {t:TypeId} {a0 a1:Value} (h:Aside0 (w.heap[g]? =some (.cells #[a0,a1] t (0,0)))):w.cell? ⟨g,0,none⟩=some a0∧w.cell? ⟨g,1,none⟩=some a1∧w.frozen? ⟨g,0,none⟩=false∧w.frozen? ⟨g,1,none⟩=false:=⟨(blk_cell h.out 0).trans rfl,(blk_cell h.out 1).trans rfl,blk_frozen h.out 0,blk_frozen h.out 1⟩
theorem cbf5 {w:World} {g:Nat} {t:TypeId} {a0 a1 a2 a3 a4:Value} (h:Aside0 (w.heap[g]? =some (.cells #[a0,a1,a2,a3,a4] t (0,0)))):w.cell? ⟨g,0,none⟩=some a0∧w.cell? ⟨g,1,none⟩=some a1∧w.cell? ⟨g,2,none⟩=some a2∧w.cell? ⟨g,3,none⟩=some a3∧w.cell? ⟨g,4,none⟩=some a4∧w.frozen? ⟨g,0,none⟩=false∧w.frozen? ⟨g,1,none⟩=false∧w.frozen? ⟨g,2,none⟩=false∧w.frozen? ⟨g,3,none⟩=false∧w.frozen? ⟨g,4,none⟩=false:=⟨(blk_cell h.out 0).trans rfl,(blk_cell h.out 1).trans rfl,(blk_cell h.out 2).trans rfl,(blk_cell h.out 3).trans rfl,(blk_cell h.out 4).trans rfl,blk_frozen h.out 0,blk_frozen h.out 1,blk_frozen h.out 2,blk_frozen h.out 3,blk_frozen h.out 4⟩
theorem aK {p:Prop} (h:p):Aside0 p:=Aside0.mk h
section
variable {P:Program} {ops:Array Oper} {Q:Exit→Act→World→Prop} {md:Region.Mode} {S:World→Prop} {ds:List Nat} {oi:Oper} {v:Value} {fuel:Nat} {l:Array Bool} {a a':Act} {w:World}
theorem pT {T:Bool×List (List Nat×List Nat)} (i:Nat) (n:Tmp) (l':Array Bool) (HT:Aside0 (rtab md ops=T)) (h:wpAnyLast P md ops Q S ds fuel l' a' w) (hi:ops[i]? =some oi:=by exact rfl) (hN:oi.dst=some n:=by exact rfl) (hc:anyT T l.toList l'.toList i=true:=by kernel_rfl) (hQ: ∀c a w,Q (.panic c) (a.put oi.dst v) w→Q (.panic c) a w:=by exact fun _ _ _ h=>h) (hw:Region.wanted oi (yielded ops a.tmps)=true:=by rfl) (hv: ∀w',(execOp a.eval oi).run P w'= .ok (.value v) w':=by intro w';go_simp;with_reducible rfl) (ha:a.put (some n) v=a':=by simp only [Act.put,List.setIfInBounds_toArray,List.set_cons_zero,List.set_cons_succ,i64_w,i32_w];rfl):wpAnyLast P md ops Q S ds (fuel+1) l a w:=pS i n l' h hi hN (any_of HT.out hc) hQ hw hv ha
theorem nS (n:Tmp) (h:wpAnyLast P md ops Q S ds fuel l a' w) (ha:a.put (some n) v=a':=by simp only [Act.put,List.setIfInBounds_toArray,List.set_cons_zero,List.set_cons_succ,i64_w,i32_w];rfl):wpAnyLast P md ops Q S ds fuel l (a.put (some n) v) w:=norm_ ha h
theorem oS (i:Nat) (n:Tmp) (l':Array Bool) (hi:ops[i]? =some oi) (hN:oi.dst=some n) (h: ∀K:Act→World→Prop,Shut (∀a' w',S w'→(S w'→wpAnyLast P md ops Q S ds fuel l' a' w')→K a' w')→if Region.wanted oi (yielded ops a.tmps)=true then Oper.wp P oi a w K Q else K (a.put (some n) undef) w) (hc:readyB md ops l l' i=true:=by kernel_rfl) (hd:i∉ds:=by decide):wpAnyLast P md ops Q S ds (fuel+1) l a w:=one_ l' hi hN hc hd h
end
theorem lA0 (n:Nat):Array.replicate n false=lA n 0:=by simp [lA,Array.ext_iff]
section
variable {P:Program} {ops:Array Oper} {Q:Exit→Act→World→Prop} {rest:List Oper} {oi:Oper} {a:Act} {w:World}
theorem sT {id:Nat} (n:Nat) {S:World→Prop} {ds:List Nat} (hS:S w.drew) (h:S w.drew→wpAnyLast P .any ops Q S ds n (lA n 0) a w.drew) (hm:P.follows .mixedOrders=true:=by kernel_rfl) (hn:ops.size=n:=by rfl):(Code.region id ops true).wp P Q a w:=start_ (lA n 0) hm hn (lA0 n) hS h
theorem gL (n : Tmp) {f : FuncId} {fn : Func} {xs : Array Operand} {ts : Array TypeId} (hf : P.funcs[f]? = some fn) (args : Array Value) (h : Calls P f args w fun e w' => ∃ v, e = .returned v ∧ wpList P ops Q rest (a.put (some n) v) w') (hd : oi.dst = some n := by exact rfl) (hg : oi.guard = none := by exact rfl) (hname : (fn.name == "runtime.NumGoroutine") = false := by kernel_rfl) (hb : fn.body.isSome = true := by exact rfl) (hop : oi.op = .call { callee := .value (.func f), args := xs, argTypes := ts } := by exact rfl) (hargs : xs.map a.eval = args := by simp only [List.map_toArray, List.map_cons, List.map_nil]; rfl) : wpList P ops Q (oi :: rest) a w := goesL_ (some n) hd hg hf hname hb args hop hargs h
theorem gO {N : Option Tmp} {K : Act → World → Prop} {f : FuncId} {fn : Func} {xs : Array Operand} {ts : Array TypeId} (hf : P.funcs[f]? = some fn) (args : Array Value) (h : Calls P f args w fun e w' => ∃ v, e = .returned v ∧ K (a.put N v) w') (hname : (fn.name == "runtime.NumGoroutine") = false := by kernel_rfl) (hb : fn.body.isSome = true := by exact rfl) (hw : Region.wanted oi (yielded ops a.tmps) = true := by rfl) (hN : oi.dst = N := by exact rfl) (hop : oi.op = .call { callee := .value (.func f), args := xs, argTypes := ts } := by exact rfl) (hargs : xs.map a.eval = args := by simp only [List.map_toArray, List.map_cons, List.map_nil]; rfl) : if Region.wanted oi (yielded ops a.tmps) = true then Oper.wp P oi a w K Q else K (a.put N undef) w := goes_ hf hname hb args hw hN hop hargs h
end
theorem zz1 {p:Prop} (h:p:=by repeat (first|(with_reducible first|exact HB.out|apply below_alloc|apply pw_below_drewN|apply below_drew1)|exact HB.out)):p:=h
theorem zz2 {p:Prop} (h:p:=by (try simp only [List.map_toArray,List.map_cons,List.map_nil]);first|done|rfl|(simp only [List.length_drop,List.length_take];rfl)):p:=h
theorem zz3 {p:Prop} (h:p:=by first|(with_reducible assumption)|assumption):p:=h
theorem zz4 {p:Prop} (h:p:=by rintro w' ⟨s0,s1,s2,s3,s4,s5⟩;go_simp;with_reducible rfl):p:=h
theorem zz5 {p:Prop} (h:p:=by first|rfl|(simp;done)|(simp [*];done)):p:=h
theorem zz6 {p:Prop} (h:p:=by first|rfl|(simp [errW_none,errW_some]<;>rfl)|(simp [*,errW_none,errW_some]<;>rfl)):p:=h
theorem zz7 {p:Prop} (h:p:=by repeat (first|exact (Kd.C_below HR0.out HB.out)|(with_reducible refine Kd.C_alloc ?_ _)|(with_reducible refine Kd.C_drewN ?_ _)|(with_reducible refine Kd.C_drew ?_))):p:=h
theorem zz8 {p:Prop} (h:p:=by repeat (first|exact (Kd.C_below HR1_0.out HB.out)|(with_reducible refine Kd.C_alloc ?_ _)|(with_reducible refine Kd.C_drewN ?_ _)|(with_reducible refine Kd.C_drew ?_))):p:=h
theorem zz9 {p:Prop} (h:p:=by repeat (first|(with_reducible first|exact HB.out|apply below_alloc|apply pw_below_drewN|apply below_drew1|refine below_set ?_ GE316.out)|exact HB.out)):p:=h
theorem zz10 {p:Prop} (h:p:=by repeat (first|exact Drawn0.refl _|apply Drawn0.step)):p:=h
theorem zz11 {p:Prop} (h:p:=by repeat (first|(with_reducible first|exact HB.out|apply below_alloc|apply pw_below_drewN|apply below_drew1|refine below_set ?_ GE204.out)|exact HB.out)):p:=h
theorem zz12 {p:Prop} (h:p:=by rintro w' ⟨s0,s1,s2,s3⟩;go_simp;with_reducible rfl):p:=h
theorem zz13 {p:Prop} (h:p:=by repeat (first|exact (Kd.C_below HR0_0.out HB.out)|(with_reducible refine Kd.C_alloc ?_ _)|(with_reducible refine Kd.C_drewN ?_ _)|(with_reducible refine Kd.C_drew ?_))):p:=h
theorem zz14 {p:Prop} (h:p:=by (with_reducible repeat (first|refine blk_drewN ?_ _|refine blk_drew ?_|refine blk_alloc ?_ _));exact BK316.out):p:=h
theorem zz15 {p:Prop} (h:p:=by rintro w' ⟨s0,s1,s2,s3,s4,s5,s6,s7,s8,s9,s10⟩;go_simp;with_reducible rfl):p:=h
theorem zz16 {p:Prop} (h:p:=by repeat (first|(with_reducible first|exact HB.out|apply below_alloc|apply pw_below_drewN|apply below_drew1|refine below_set ?_ GE137.out)|exact HB.out)):p:=h
theorem zz17 {p:Prop} (h:p:=by repeat (first|(with_reducible first|exact HB.out|apply below_alloc|apply pw_below_drewN|apply below_drew1|refine below_set ?_ GE316.out|refine below_set ?_ GE317.out)|exact HB.out)):p:=h
theorem zz18 {p:Prop} (h:p:=by repeat (first|(with_reducible first|exact HB.out|apply below_alloc|apply pw_below_drewN|apply below_drew1|refine below_set ?_ GE226.out|refine below_set ?_ GE227.out|refine below_set ?_ GE228.out)|exact HB.out)):p:=h
theorem zz19 {p:Prop} (h:p:=by repeat (first|exact (Kd.C_below HR1_4.out HB.out)|(with_reducible refine Kd.C_alloc ?_ _)|(with_reducible refine Kd.C_drewN ?_ _)|(with_reducible refine Kd.C_drew ?_))):p:=h
theorem zz20 {p:Prop} (h:p:=by repeat (first|(with_reducible first|exact HB.out|apply below_alloc|apply pw_below_drewN|apply below_drew1|refine below_set ?_ GE163.out)|exact HB.out)):p:=h
theorem zz21 {p:Prop} (h:p:=by simp only [putAll,Act.put,List.setIfInBounds_toArray,List.set_cons_zero,List.set_cons_succ]):p:=h
theorem zz22 {p:Prop} (h:p:=by repeat (first|(with_reducible first|exact HB.out|apply below_alloc|apply pw_below_drewN|apply below_drew1|refine below_set ?_ GE320.out)|exact HB.out)):p:=h
theorem zz23 {p:Prop} (h:p:=by repeat (first|(with_reducible first|exact HB.out|apply below_alloc|apply pw_below_drewN|apply below_drew1|refine below_set ?_ GE215.out)|exact HB.out)):p:=h
theorem zz24 {p:Prop} (h:p:=by rintro w' ⟨s0,s1,s2,s3,s4⟩;go_simp;with_reducible rfl):p:=h
theorem zz25 {p:Prop} (h:p:=by repeat (first|(with_reducible first|exact HB.out|apply below_alloc|apply pw_below_drewN|apply below_drew1|refine below_set ?_ GE156.out)|exact HB.out)):p:=h
theorem zz26 {p:Prop} (h:p:=by rintro w' ⟨s0,s1,s2,s3,s4,s5,s6⟩;go_simp;with_reducible rfl):p:=h
theorem zz27 {p:Prop} (h:p:=by exact (by rw [hg];exact Nat.ne_of_lt (blk_lt (g:=gb316) (o:= .cells #[.slice A0_0 l0_0.length c0_0,.int .i64 a0_1,.int .i64 a0_2,.int .i64 a0_3,.slice A0_4 l0_4.length c0_4] 29 (0,0)) zz14):gb316≠gb317)):p:=h
theorem zz28 {p:Prop} (h:p:=by exact (by rw [hg];exact Nat.ne_of_gt (blk_lt (g:=gb316) (o:= .cells #[.slice A0_0 l0_0.length c0_0,.int .i64 a0_1,.int .i64 a0_2,.int .i64 a0_3,.slice A0_4 l0_4.length c0_4] 29 (0,0)) zz14):gb317≠gb316)):p:=h
theorem zz29 {p:Prop} (h:p:=by (with_reducible repeat (first|refine blk_drewN ?_ _|refine blk_drew ?_|refine blk_alloc ?_ _));exact BK320.out):p:=h
theorem zz30 {p:Prop} (h:p:=by repeat (first|(with_reducible first|exact HB.out|apply below_alloc|apply pw_below_drewN|apply below_drew1|refine below_set ?_ GE270.out|refine below_set ?_ GE271.out|refine below_set ?_ GE272.out)|exact HB.out)):p:=h
theorem zz31 {p:Prop} (h:p:=by (with_reducible repeat (first|refine blk_drewN ?_ _|refine blk_drew ?_|refine blk_alloc ?_ _));exact BK226.out):p:=h
theorem zz32 {p:Prop} (h:p:=by (with_reducible repeat (first|refine blk_drewN ?_ _|refine blk_drew ?_|refine blk_alloc ?_ _));exact BK204.out):p:=h
theorem zz33 {p:Prop} (h:p:=by rintro w' ⟨s0,s1⟩;go_simp;with_reducible rfl):p:=h
theorem zz34 {p:Prop} (h:p:=by (with_reducible repeat (first|refine blk_drewN ?_ _|refine blk_drew ?_|refine blk_alloc ?_ _));exact BK270.out):p:=h
theorem zz35 {p:Prop} (h:p:=by rintro w' ⟨s0,s1,s2⟩;go_simp;with_reducible rfl):p:=h
theorem zz36 {p:Prop} (h:p:=by repeat (first|(with_reducible first|exact HB.out|apply below_alloc|apply pw_below_drewN|apply below_drew1|refine below_set ?_ GE335.out)|exact HB.out)):p:=h
theorem zz37 {p:Prop} (h:p:=by repeat (first|(with_reducible first|exact HB.out|apply below_alloc|apply pw_below_drewN|apply below_drew1|refine below_set ?_ GE282.out)|exact HB.out)):p:=h
theorem zz38 {p:Prop} (h:p:=by repeat (first|(with_reducible first|exact HB.out|apply below_alloc|apply pw_below_drewN|apply below_drew1|refine below_set ?_ GE189.out)|exact HB.out)):p:=h
theorem zz39 {p:Prop} (h:p:=by repeat (first|(with_reducible first|exact HB.out|apply below_alloc|apply pw_below_drewN|apply below_drew1|refine below_set ?_ GE105.out)|exact HB.out)):p:=h
theorem zz40 {p:Prop} (h:p:=by exact (by rw [hg];exact (below_size zz9):w.heap.size≤gb317)):p:=h
theorem zz41 {p:Prop} (h:p:=by exact (by rw [hg];exact (below_size zz1):w.heap.size≤gb316)):p:=h
theorem zz42 {p:Prop} (h:p:=by (with_reducible repeat (first|refine blk_drewN ?_ _|refine blk_drew ?_|refine blk_alloc ?_ _));exact BK250.out):p:=h
theorem zz43 {p:Prop} (h:p:=by (with_reducible repeat (first|refine blk_drewN ?_ _|refine blk_drew ?_|refine blk_alloc ?_ _));exact BK163.out):p:=h
theorem zz44 {p:Prop} (h:p:=by (with_reducible repeat (first|refine blk_drewN ?_ _|refine blk_drew ?_|refine blk_alloc ?_ _));exact BK137.out):p:=h
theorem zz45 {p:Prop} (h:p:=by rintro w' ⟨s0,s1,s2,s3,s4,s5,s6,s7,s8,s9⟩;go_simp;with_reducible rfl):p:=h
theorem zz46 {p:Prop} (h:p:=by repeat (first|exact (Kd.C_below HR0_1.out HB.out)|(with_reducible refine Kd.C_alloc ?_ _)|(with_reducible refine Kd.C_drewN ?_ _)|(with_reducible refine Kd.C_drew ?_))):p:=h
theorem zz47 {p:Prop} (h:p:=by (with_reducible repeat (first|refine blk_drewN ?_ _|refine blk_drew ?_|refine blk_alloc ?_ _));exact BK241.out):p:=h
theorem zz48 {p:Prop} (h:p:=by (with_reducible repeat (first|refine blk_drewN ?_ _|refine blk_drew ?_|refine blk_alloc ?_ _));exact BK227.out):p:=h
theorem zz49 {p:Prop} (h:p:=by repeat (first|(with_reducible first|exact HB.out|apply below_alloc|apply pw_below_drewN|apply below_drew1|refine below_set ?_ GE250.out|refine below_set ?_ GE251.out|refine below_set ?_ GE252.out)|exact HB.out)):p:=h
theorem zz50 {p:Prop} (h:p:=by repeat (first|(with_reducible first|exact HB.out|apply below_alloc|apply pw_below_drewN|apply below_drew1|refine below_set ?_ GE320.out|refine below_set ?_ GE321.out)|exact HB.out)):p:=h
theorem zz51 {p:Prop} (h:p:=by repeat (first|(with_reducible first|exact HB.out|apply below_alloc|apply pw_below_drewN|apply below_drew1|refine below_set ?_ GE282.out|refine below_set ?_ GE285.out)|exact HB.out)):p:=h
theorem zz52 {p:Prop} (h:p:=by repeat (first|(with_reducible first|exact HB.out|apply below_alloc|apply pw_below_drewN|apply below_drew1|refine below_set ?_ GE270.out|refine below_set ?_ GE271.out)|exact HB.out)):p:=h
theorem zz53 {p:Prop} (h:p:=by repeat (first|(with_reducible first|exact HB.out|apply below_alloc|apply pw_below_drewN|apply below_drew1|refine below_set ?_ GE250.out|refine below_set ?_ GE251.out)|exact HB.out)):p:=h
theorem zz54 {p:Prop} (h:p:=by repeat (first|(with_reducible first|exact HB.out|apply below_alloc|apply pw_below_drewN|apply below_drew1|refine below_set ?_ GE226.out|refine below_set ?_ GE227.out)|exact HB.out)):p:=h
theorem zz55 {p:Prop} (h:p:=by repeat (first|(with_reducible first|exact HK.out|apply Kept.alloc|apply Kept.drewN|apply Kept.drew)|exact HK.out)):p:=h
theorem zz56 {p:Prop} (h:p:=by have:=B1.out;unfold pOk at this;rw [HO.out];exact this):p:=h
theorem zz57 {p:Prop} (h:p:=by (with_reducible repeat (first|refine blk_drewN ?_ _|refine blk_drew ?_|refine blk_alloc ?_ _));exact BK271.out):p:=h
theorem zz58 {p:Prop} (h:p:=by (with_reducible repeat (first|refine blk_drewN ?_ _|refine blk_drew ?_|refine blk_alloc ?_ _));exact BK215.out):p:=h
def laws_toIntS.l0:Nat→List Int→List Int→Int→Option (List Int)
  |0,_,_,_=>none
  |k+1,x0,x3,x4=>if x4<(x0.length:Int) then (if 0≤x4 then (if x4<(x3.length:Int) then (laws_toIntS.l0 k x0 (x3.set (x4:Int).toNat (rd x0 x4)) (wrap64 (x4+1))) else (none)) else (none)) else (some x3)
def laws_toIntS.f (k:Nat) (l0:List Int):Option (List Int):=if 0≤(l0.length:Int) then (if ((l0.length:Int):Int).toNat≤35184372088832 then (laws_toIntS.l0 k l0 (List.replicate ((l0.length:Int):Int).toNat 0) 0) else (none)) else (none)
set_option maxHeartbeats 8000000 in
set_option maxRecDepth 100000 in
theorem laws_toIntS.calls (k : Nat) (A0 : Option Addr) (c0 : Nat) (l0 : List Int) (r : List Int) (w : World) (hr0 : Kd.C (Kd.int .i64) w A0 l0.length l0) (hc0 : l0.length ≤ c0) (h : laws_toIntS.f k l0 = some r) :
  Calls Try.prog 10 #[.slice A0 l0.length c0] w fun e w'=> ∃v0_:Value,e= .returned (v0_)∧Kd.R (Kd.int .i64) 3 w' w.heap.size (fun _=>True) v0_ r∧Below w.heap.size w w':=by
 have HR0:=aK hr0;have HC0:=aK hc0;clear hr0 hc0;have HB:=aK (Below.refl w.heap.size w);have H:(if 0≤(l0.length:Int) then (if ((l0.length:Int):Int).toNat≤35184372088832 then (laws_toIntS.l0 k l0 (List.replicate ((l0.length:Int):Int).toNat 0) 0) else (none)) else (none))=some r:=h
 clear h;by_cases c2:0≤(l0.length:Int)
 ·rw [if_pos c2] at H
  have c2b0:=eq_true c2;have c2b1:decide (0≤(l0.length:Int))=true:=decide_eq_true c2
  clear c2;by_cases c3:((l0.length:Int):Int).toNat≤35184372088832
  ·rw [if_pos c3] at H
   have c3b0:=eq_true c3;have c3b1:decide (((l0.length:Int):Int).toNat≤35184372088832)=true:=decide_eq_true c3
   clear c3;obtain ⟨y245,hy245⟩: ∃y_:List Int,y_=(List.replicate ((l0.length:Int):Int).toNat 0):=⟨_,rfl⟩;replace H:(laws_toIntS.l0 k l0 y245 0)=some r:=by first|(rw [hy245];with_reducible exact H)|(have H2_:=(Option.bind_some _ _).symm.trans H;rw [hy245];with_reducible exact H2_)|(have H2_:=(Option.bind_some _ _).symm.trans H;with_reducible exact H2_)|with_reducible exact H|(rw [hy245];exact H)|exact H
   have Ny245:=aK hy245;clear hy245;have H':=aK H;clear H;go_enter Try.func10,Try.ntmps10
   go_wp2_with (first|((with_reducible refine gate_dst (N:=7) rfl ?_);refine Kd.R_make (Kd.int .i64) _ 3 rfl (N:=7) rfl 23 _ _ rfl (l0.length:Int) rfl rfl Try.underlying23 (.int .i64 0) 8 info3 rfl (by decide) (by omega) 0 (ok:=fun _=>True) (okp:=fun _=>True) rfl (fun _ hk=>hk) trivial (of_decide_eq_true zz3) (Nat.le_trans (Nat.mul_le_mul_right _ (of_decide_eq_true zz3:(l0.length:Int).toNat≤35184372088832)) (by omega)) (Below.refl _ _) (Nat.le_refl _) ?_;intro v246 w4 ho5 hb hg_ hnew_;clear hg_ hnew_;(first|rw [←Ny245.out] at ho5|(simp only [Int.reduceToNat] at ho5;rw [←Ny245.out] at ho5));have HO247:=aK (Kd.R_lower ho5 (below_size zz1));replace HB:=aK (below_step zz1 hb);clear hb ho5))
   go_loopg [4] k (fun kq v4 w'=> ∃(x3_1:List Int) (x4_1:Int),v4= .int .i64 x4_1∧Aside0 (laws_toIntS.l0 kq l0 x3_1 x4_1=some r)∧Aside0 (kq≤k)∧Aside0 (Kd.R (Kd.int .i64) 3 w' w.heap.size (fun _=>True) v246 x3_1)∧Aside0 (Below w.heap.size w w'))
   case atStart=>exact ⟨(y245),(0),zz5,H',⟨Nat.le_refl _⟩,⟨by (with_reducible repeat (first|apply Kd.R_alloc|apply Kd.R_drewN|apply Kd.R_drew));exact HO247.out⟩,⟨by repeat (first|(with_reducible first|exact HB.out|apply below_alloc|apply pw_below_drewN|apply below_drew1)|exact HB.out)⟩⟩
   case round =>
    clear H';(try clear c1);(try clear c2);(try clear c2b0);(try clear c2b1);(try clear p2);(try clear c3);(try clear c3b0);(try clear c3b1);obtain ⟨x3_1,x4_1,rfl,HA,HK1,HO_3,HB⟩:=hrel
    cases gk with
    |zero=>exact absurd HA.out (by simp [laws_toIntS.l0])
    | succ k1 =>
     have H:=HA.out;clear HA;simp only [laws_toIntS.l0] at H;by_cases c6:x4_1<(l0.length:Int)
     ·rw [if_pos c6] at H
      have c6b0:decide (x4_1<(l0.length:Int))=true:=decide_eq_true c6
      clear c6;by_cases c7:0≤x4_1
      ·rw [if_pos c7] at H
       have c7b0:decide (0≤x4_1)=true:=decide_eq_true c7
       clear c7;by_cases c8:x4_1<(x3_1.length:Int)
       ·rw [if_pos c8] at H
        have c8b0:decide (x4_1<(x3_1.length:Int))=true:=decide_eq_true c8
        clear c8;obtain ⟨y249,hy249⟩: ∃y_:List Int,y_=(x3_1.set (x4_1:Int).toNat (rd l0 x4_1)):=⟨_,rfl⟩;replace H:(laws_toIntS.l0 k1 l0 y249 (wrap64 (x4_1+1)))=some r:=by first|(rw [hy249];with_reducible exact H)|(have H2_:=(Option.bind_some _ _).symm.trans H;rw [hy249];with_reducible exact H2_)|(have H2_:=(Option.bind_some _ _).symm.trans H;with_reducible exact H2_)|with_reducible exact H|(rw [hy249];exact H)|exact H
        have Ny249:=aK hy249;clear hy249;have H':=aK H;clear H;have p248:0≤(x4_1:Int):=of_decide_eq_true zz3
        have q248:x4_1<(l0.length:Int):=of_decide_eq_true zz3
        obtain ⟨ad248,e248,hx248_0⟩:=Kd.at_int HR0.out x4_1 p248 q248
        cases e248
        replace hx248_0:=(HB.out.cell (World.block_lt_of_cell? w _ hx248_0)).trans hx248_0;replace p248:=eq_true p248;replace q248:=eq_true q248;have p9:0≤(x4_1:Int):=of_decide_eq_true zz3
        have q9:(x4_1:Int)<((x3_1.length:Int):Int):=of_decide_eq_true zz3
        obtain ⟨go9,co9,eo9,gb9,gl9,cl9,HG9⟩:=Kd.R_form HO_3.out (by omega)
        (first|cases eo9|(injection eo9 with ea_ en_ ec_;(first|subst ea_|(injection ea_ with ea_;subst ea_));subst ec_;clear en_))
        have GB9:=aK gb9;have GG9:=aK HG9;clear gb9 gl9 HG9;obtain ⟨hx9_0,hf9_0⟩:=Kd.R_celln 0 HO_3.out (x4_1:Int) p9 q9;replace p9:=eq_true p9;replace q9:=eq_true q9;have HP10:=Kd.R_putg HO_3.out (x4_1:Int) (rd l0 x4_1)
        go_wp2_with (first|((with_reducible refine gate_store (t:=3) (p:=20) rfl ?_);refine store_event (t:=3) (p:=20) (v:=?vo_w11) (w1:=(wr.setCell ⟨go9,(x4_1:Int).toNat,none⟩ (.int .i64 (rd l0 x4_1)))) ?hg ?ho ?hn ?hr ?_;(case ho=>rfl);(case hg=>rfl);(case hn=>rfl);(case hr=>first|(go_simp;done)|(go_simp;rfl)|((try (first|(obtain ⟨_,_,rfl⟩:=Kd.R_slice HO_3.out)|(obtain ⟨_,_,rfl⟩:=Kd.S_slice HO_3.out)));first|(go_simp;done)|(go_simp;rfl)));intro w11 hw;have hg:wr.grownBy w11 (some go9):=(by rw [hw];exact HP10.2);have hp_:Kd.R (Kd.int .i64) 3 w11 w.heap.size (fun _=>True) (.slice (some ⟨go9,0,none⟩) x3_1.length co9) y249:=(by rw [hw,Ny249.out];exact HP10.1);clear HP10;replace HO_3:=aK (hp_);replace HB:=aK ((by rw [hw];exact below_set (HB.out) GB9.out:Below w.heap.size w w11));clear hg hw hp_))
        go_roundg k1
        case measure=>have:=HK1.out;omega
        case rel=>exact ⟨(y249),(wrap64 (x4_1+1)),zz5,H',⟨by have:=HK1.out;omega⟩,⟨by (with_reducible repeat (first|apply Kd.R_alloc|apply Kd.R_drewN|apply Kd.R_drew));exact HO_3.out⟩,⟨by repeat (first|(with_reducible first|exact HB.out|apply below_alloc|apply pw_below_drewN|apply below_drew1)|exact HB.out)⟩⟩
       ·rw [if_neg c8] at H
        exact absurd H (by simp)
      ·rw [if_neg c7] at H
       exact absurd H (by simp)
     ·rw [if_neg c6] at H
      have c6b0:decide (x4_1<(l0.length:Int))=false:=decide_eq_false c6
      clear c6;obtain rfl:=Option.some.inj H;go_wp2;go_ret;exact ⟨_,by first|rfl|(simp [errW_none,errW_some]<;>rfl)|(simp [*,errW_none,errW_some]<;>rfl),by (with_reducible repeat (first|apply Kd.R_alloc|apply Kd.R_drewN|apply Kd.R_drew));exact HO_3.out,by repeat (first|(with_reducible first|exact HB.out|apply below_alloc|apply pw_below_drewN|apply below_drew1)|exact HB.out)⟩
  ·rw [if_neg c3] at H
   exact absurd H (by simp)
 ·rw [if_neg c2] at H
  exact absurd H (by simp)
structure Mm where
 words:List Int
 young:Int
 top:Int
 old:Int
 cards:List Bool
 fields:List (List Int)
 begins:List Int
def MV (w:World) (g:Nat) (m:Mm):Prop:= ∃AW cW AC cC AF cF AB cB,
 w.heap[g]? =some (.cells #[.slice AW m.words.length cW,.int .i64 m.young,.int .i64 m.top,.int .i64 m.old,.slice AC m.cards.length cC,.slice AF m.fields.length cF,.slice AB m.begins.length cB] 68 (0,0))∧
 Kd.C (Kd.int .i64) w AW m.words.length m.words∧Kd.C Kd.bool w AC m.cards.length m.cards∧Kd.C (Kd.slice 3 (Kd.int .i64)) w AF m.fields.length m.fields∧Kd.C (Kd.int .i64) w AB m.begins.length m.begins∧
 m.words.length≤cW∧m.cards.length≤cC∧m.fields.length≤cF∧m.begins.length≤cB
theorem MV_below {w w':World} {g:Nat} {m:Mm} (h:MV w g m) (hb:Below w.heap.size w w'):MV w' g m:=by
  obtain ⟨AW,cW,AC,cC,AF,cF,AB,cB,h0,h1,h2,h3,h4,h5⟩:=h;exact ⟨AW,cW,AC,cC,AF,cF,AB,cB,(hb.block g (blk_lt h0)).trans h0,Kd.C_below h1 hb,Kd.C_below h2 hb,Kd.C_below h3 hb,Kd.C_below h4 hb,h5⟩
def thV (g:Nat) (at_:Int):Value:= .agg #[.pointer (some ⟨g,0,none⟩),.int .i64 at_]
def thing_class.f (m:Mm) (at_:Int):Option Int:=if 1≤at_∧at_≤m.words.length∧m.words.length≤281474976710656 then some (rd m.words (at_ - 1)) else none
set_option maxHeartbeats 4000000 in
set_option maxRecDepth 100000 in
theorem thing_class.calls (g:Nat) (m:Mm) (at_ r:Int) (w:World) (hm:MV w g m) (h:thing_class.f m at_=some r):
  Calls Try.prog 109 #[thV g at_] w fun e w'=>e= .returned (.int .i64 r)∧Below w.heap.size w w':=by
 unfold thing_class.f at h
 split at h
 case isFalse=>simp at h
 case isTrue hb=>
 have HR:=aK (Option.some.inj h);clear h;obtain ⟨AW,cW,AC,cC,AF,cF,AB,cB,h0,h1,h2,h3,h4,h5⟩:=hm;have HG:=blk_lt h0;obtain ⟨j,hj⟩: ∃j,j=at_ - 1:=⟨_,rfl⟩;have q:IntKind.i64.wrap (at_ - 1)=j:=by rw [hj];exact IntWalk.i64_in _ ⟨by omega,by omega⟩
 have p1:=eq_true (show 0≤j by omega);have p2:=eq_true (show j<(m.words.length:Int) by omega);obtain ⟨ad,e0,hx⟩:=Kd.at_int h1 j (by omega) (by omega)
 cases e0
 have x0: ∀o,(w.alloc o).cell? (ad.add j.toNat)=some (.int .i64 (rd m.words j)):=fun o=>((below_alloc (Below.refl _ _) o).cell (World.block_lt_of_cell? w _ hx)).trans hx
 rw [←hj] at HR;have c0: ∀o,(w.alloc o).cell? ⟨g,0,none⟩=_:=fun o=>(blk_cell (blk_alloc h0 o) 0).trans rfl
 clear h1 h2 h3 h4 h5 hb hj;unfold thV;go_enter Try.func109,Try.ntmps109;go_wp2
 go_quiet (fail)
 go_wp2;go_ret;exact ⟨by rw [←HR.out];rfl,by repeat (first|exact Below.refl _ _|apply below_alloc|apply pw_below_drewN|(refine below_set ?_ (by simp)))⟩
theorem box_new {w w':World} {cs:Array Value} {t:TypeId} (hb:Below (w.alloc (.cells cs t (0,0))).heap.size (w.alloc (.cells cs t (0,0))) w'):w'.heap[w.heap.size]? =some (.cells cs t (0,0)):=(hb.block w.heap.size (blk_lt (blk_new w _))).trans (blk_new w _)
def rdL (xs:List (List Int)) (i:Int):List Int:=xs.getD i.toNat []
theorem at_rows {w:World} {A:Option Addr} {n:Nat} {xs:List (List Int)} (h:Kd.C (Kd.slice 3 (Kd.int .i64)) w A n xs) (i:Int) (h0:0≤i) (h1:i<n): ∃ad A1 c1,A=some ad∧w.cell? (ad.add i.toNat)=some (.slice A1 (rdL xs i).length c1)∧(rdL xs i).length≤c1∧Kd.C (Kd.int .i64) w A1 (rdL xs i).length (rdL xs i):=by
  obtain ⟨ad,c,e,_,⟨A1,c1,rfl,l1,g1⟩,hc⟩:=Kd.C_get h [] i h0 h1;exact ⟨ad,A1,c1,e,by have:=hc 0 _ rfl;rw [show i.toNat*(Kd.slice 3 (Kd.int .i64)).sz+0=i.toNat from by show i.toNat*1+0=_;omega] at this;exact this,l1,g1⟩
def slices_CloneI.f (l0:List Int):Option (List Int):=if l0.length≤17592186044416 then some l0 else none
theorem cloneI_nil (n c:Nat) (W:World):(binOp .eql 23 (.slice none n c) (.slice none 0 0)).run Try.prog W= .ok (.bool true) W:=by kernel_rfl
theorem cloneI_some (ad:Addr) (n c:Nat) (W:World):(binOp .eql 23 (.slice (some ad) n c) (.slice none 0 0)).run Try.prog W= .ok (.bool false) W:=by kernel_rfl
set_option maxHeartbeats 4000000 in
set_option maxRecDepth 100000 in
theorem slices_CloneI.calls (A0:Option Addr) (c0:Nat) (l0 r:List Int) (w:World) (hr0:Kd.C (Kd.int .i64) w A0 l0.length l0) (hc0:l0.length≤c0) (h:slices_CloneI.f l0=some r):
  Calls Try.prog 79 #[.slice A0 l0.length c0] w fun e w'=> ∃v,e= .returned v∧Kd.R (Kd.int .i64) 3 w' w.heap.size (fun _=>True) v r∧Below w.heap.size w w':=by
 unfold slices_CloneI.f at h
 split at h
 case isFalse=>simp at h
 case isTrue hl=>
 obtain rfl:=Option.some.inj h;have HR0:=aK hr0;have HC0:=aK hc0;have HL:=aK hl;clear h hl hc0
 cases A0 with
 | none =>
  have hz:l0=[]:=by
   cases l0 with
   |nil=>rfl
   |cons x xs=>obtain ⟨ad,_,e,_⟩:=Kd.C_get hr0 x 0 (by omega) (by simp);cases e
  subst hz;clear hr0;have N1:=cloneI_nil;have N2:=cloneI_some;go_enter Try.func79,Try.ntmps79;go_wp2;go_ret;exact ⟨_,rfl,Kd.R_nil _ _ _ _ _,by repeat (first|exact Below.refl _ _|apply below_alloc|apply pw_below_drewN|apply below_drew1)⟩
 | some ad =>
  clear hr0;have N1:=cloneI_nil;have N2:=cloneI_some;go_enter Try.func79,Try.ntmps79
  go_wp2_with (first
   |((with_reducible refine gate_dst (N:=5) rfl ?_);refine Kd.R_lit (Kd.int .i64) _ 3 ?hg (N:=5) ?hd (xs:=([]:List Int)) (inner:=[]) (ok:=fun _=>True) (okp:=fun _=>True) ?hr ?hp (fun _ hk=>hk) trivial (Below.refl _ _) (Nat.le_refl _) (by simp) ?_;(case hd=>rfl);(case hg=>rfl);(case hr=>first|(go_simp;done)|(go_simp;rfl));(case hp=>exact (Reps.none _ _));intro v5 w5 ho5 hb5 hg5 hn5;have HO5:=aK ho5;have HB5:=aK hb5;clear ho5 hb5 hg5 hn5)
   |((with_reducible refine gate_builtin (b:= .append) (xs:= #[.tmp 5,.tmp 6]) rfl ?_);at_builtin;refine Kd.R_append_rows (Kd.int .i64) (w0:=w) w.heap.size rfl (.tmp 5) (.tmp 6) 23 3 (.int .i64 0) 8 rfl Try.underlying23 info3 rfl (by decide) (by omega) v5 [] l0 _ _ _ (fun _=>True) (fun _=>False) rfl rfl ?aO ?aR (fun _ _ h=>h) (fun _ h=>h.elim) (fun _ _=>trivial) ?aB ?aS ?aL ?_;(case aR=>exact Kd.C_below HR0.out HB5.out);(case aB=>exact HB5.out);(case aO=>exact HO5.out);(case aS=>exact below_size HB5.out);(case aL=>have:=HL.out;simp;omega);intro v7 w7 ho7 hb7 hg7 hn7;have HO7:=aK ho7;have HB7:=aK hb7;clear ho7 hb7 hg7 hn7))
  go_ret;exact ⟨_,rfl,HO7.out,HB7.out⟩
theorem heap_pair (W:World) (o o':Obj):((W.alloc o).alloc o').heap[W.heap.size]? =some o∧((W.alloc o).alloc o').heap[W.heap.size+1]? =some o':=
  ⟨blk_alloc (blk_new W o) o',by simpa using blk_new (W.alloc o) o'⟩
def slices_CloneB.f (l0:List Bool):Option (List Bool):=if l0.length≤17592186044416 then some l0 else none
theorem cloneB_nil (n c:Nat) (W:World):(binOp .eql 24 (.slice none n c) (.slice none 0 0)).run Try.prog W= .ok (.bool true) W:=by kernel_rfl
theorem cloneB_some (ad:Addr) (n c:Nat) (W:World):(binOp .eql 24 (.slice (some ad) n c) (.slice none 0 0)).run Try.prog W= .ok (.bool false) W:=by kernel_rfl
set_option maxHeartbeats 4000000 in
set_option maxRecDepth 100000 in
theorem slices_CloneB.calls (A0:Option Addr) (c0:Nat) (l0 r:List Bool) (w:World) (hr0:Kd.C (Kd.bool) w A0 l0.length l0) (hc0:l0.length≤c0) (h:slices_CloneB.f l0=some r):
  Calls Try.prog 80 #[.slice A0 l0.length c0] w fun e w'=> ∃v,e= .returned v∧Kd.R (Kd.bool) 4 w' w.heap.size (fun _=>True) v r∧Below w.heap.size w w':=by
 unfold slices_CloneB.f at h
 split at h
 case isFalse=>simp at h
 case isTrue hl=>
 obtain rfl:=Option.some.inj h;have HR0:=aK hr0;have HC0:=aK hc0;have HL:=aK hl;clear h hl hc0
 cases A0 with
 | none =>
  have hz:l0=[]:=by
   cases l0 with
   |nil=>rfl
   |cons x xs=>obtain ⟨ad,_,e,_⟩:=Kd.C_get hr0 x 0 (by omega) (by simp);cases e
  subst hz;clear hr0;have N1:=cloneB_nil;have N2:=cloneB_some;go_enter Try.func80,Try.ntmps80;go_wp2;go_ret;exact ⟨_,rfl,Kd.R_nil _ _ _ _ _,by repeat (first|exact Below.refl _ _|apply below_alloc|apply pw_below_drewN|apply below_drew1)⟩
 | some ad =>
  clear hr0;have N1:=cloneB_nil;have N2:=cloneB_some;go_enter Try.func80,Try.ntmps80
  go_wp2_with (first
   |((with_reducible refine gate_dst (N:=5) rfl ?_);refine Kd.R_lit (Kd.bool) _ 4 ?hg (N:=5) ?hd (xs:=([]:List Bool)) (inner:=[]) (ok:=fun _=>True) (okp:=fun _=>True) ?hr ?hp (fun _ hk=>hk) trivial (Below.refl _ _) (Nat.le_refl _) (by simp) ?_;(case hd=>rfl);(case hg=>rfl);(case hr=>first|(go_simp;done)|(go_simp;rfl));(case hp=>exact (Reps.none _ _));intro v5 w5 ho5 hb5 hg5 hn5;have HO5:=aK ho5;have HB5:=aK hb5;clear ho5 hb5 hg5 hn5)
   |((with_reducible refine gate_builtin (b:= .append) (xs:= #[.tmp 5,.tmp 6]) rfl ?_);at_builtin;refine Kd.R_append_rows (Kd.bool) (w0:=w) w.heap.size rfl (.tmp 5) (.tmp 6) 24 4 (.bool false) 1 rfl Try.underlying24 info4 rfl (by decide) (by omega) v5 [] l0 _ _ _ (fun _=>True) (fun _=>False) rfl rfl ?aO ?aR (fun _ _ h=>h) (fun _ h=>h.elim) (fun _ _=>trivial) ?aB ?aS ?aL ?_;(case aR=>exact Kd.C_below HR0.out HB5.out);(case aB=>exact HB5.out);(case aO=>exact HO5.out);(case aS=>exact below_size HB5.out);(case aL=>have:=HL.out;simp;omega);intro v7 w7 ho7 hb7 hg7 hn7;have HO7:=aK ho7;have HB7:=aK hb7;clear ho7 hb7 hg7 hn7))
  go_ret;exact ⟨_,rfl,HO7.out,HB7.out⟩
set_option maxHeartbeats 4000000 in
set_option maxRecDepth 100000 in
theorem impl_memClone.calls (A0:Option Addr) (c0:Nat) (l0:List Int) (a1 a2 a3:Int) (A4:Option Addr) (c4:Nat) (l4:List Bool) (w:World) (hr0:Kd.C (Kd.int .i64) w A0 l0.length l0) (hc0:l0.length≤c0) (hr4:Kd.C Kd.bool w A4 l4.length l4) (hc4:l4.length≤c4) (h0:l0.length≤17592186044416) (h4:l4.length≤17592186044416):
  Calls Try.prog 52 #[.agg #[.slice A0 l0.length c0,.int .i64 a1,.int .i64 a2,.int .i64 a3,.slice A4 l4.length c4]] w fun e w'=> ∃u v,e= .returned (.agg #[u,.int .i64 a1,.int .i64 a2,.int .i64 a3,v])∧Kd.R (Kd.int .i64) 3 w' w.heap.size (fun k=>some k≠v.ownBlock) u l0∧Kd.R Kd.bool 4 w' w.heap.size (fun k=>some k≠u.ownBlock) v l4∧Below w.heap.size w w':=by
 have HR0:=aK hr0;have HC0:=aK hc0;have HR4:=aK hr4;have HC4:=aK hc4;have HL0:=aK h0;have HL4:=aK h4;clear hr0 hc0 hr4 hc4 h0 h4;go_enter Try.func52,Try.ntmps52
 go_wp2_with fail
 go_at_call 79;have HB1:=aK (show Below w.heap.size w ((w.alloc (.cells #[.slice A0 l0.length c0,.int .i64 a1,.int .i64 a2,.int .i64 a3,.slice A4 l4.length c4] 29 (0,0))).alloc (.cells #[.slice none 0 0,.int .i64 0,.int .i64 0,.int .i64 0,.slice none 0 0] 29 (0,0))) by repeat (first|exact Below.refl _ _|apply below_alloc));refine (slices_CloneI.calls A0 c0 l0 l0 _ (Kd.C_below HR0.out HB1.out) HC0.out (by unfold slices_CloneI.f;rw [if_pos HL0.out])).mono ?_;rintro e w2 ⟨u,rfl,hu,hb⟩;have HB2:=aK (below_step HB1.out hb);have X1:=aK ((hb.block w.heap.size (by simp;omega)).trans (heap_pair w _ _).1);have X2:=aK ((hb.block (w.heap.size+1) (by simp)).trans (heap_pair w _ _).2);have HU:=aK (show Kd.R (Kd.int .i64) 3 w2 (w.heap.size+2) (fun _=>True) u l0 by simpa using hu);have hS2:w.heap.size+2≤w2.heap.size:=by have:=below_size hb;simpa using this
 obtain ⟨AU,cU,rfl⟩:=Kd.R_slice hu;clear hu hb HB1;have c0':=(blk_cell X1.out 0).trans rfl;have f0':=blk_frozen X1.out 0;have c4':=(blk_cell X1.out 4).trans rfl
 go_wp2_with fail
 go_at_call 80;have HB3:=aK (show Below w.heap.size w (w2.setCell ⟨w.heap.size,0,none⟩ (.slice AU l0.length cU)) from below_set HB2.out (Nat.le_refl _));have Y1:=aK (blk_put X1.out 0 (.slice AU l0.length cU) rfl);have Y2:=aK (blk_far X2.out (show w.heap.size+1≠w.heap.size by omega) (p:=⟨w.heap.size,0,none⟩) (.slice AU l0.length cU));clear c0' f0' c4' X1 X2;generalize hW3:w2.setCell ⟨w.heap.size,0,none⟩ (.slice AU l0.length cU)=W3 at HB3 Y1 Y2 ⊢;refine (slices_CloneB.calls A4 c4 l4 l4 _ (Kd.C_below HR4.out HB3.out) HC4.out (by unfold slices_CloneB.f;rw [if_pos HL4.out])).mono ?_;rintro e w4 ⟨v,rfl,hv,hb⟩;have HB4:=aK (below_step HB3.out hb);have Z1:=aK ((hb.block _ (blk_lt Y1.out)).trans Y1.out);have Z2:=aK ((hb.block _ (blk_lt Y2.out)).trans Y2.out);have HV:=aK hv;obtain ⟨AV,cV,rfl⟩:=Kd.R_slice hv;have Z3:w4.heap[w.heap.size]? =some (.cells #[.slice AU l0.length cU,.int .i64 a1,.int .i64 a2,.int .i64 a3,.slice A4 l4.length c4] 29 (0,0)):=Z1.out
 have Z4:=Z2.out;have c0':=(blk_cell Z3 0).trans rfl;have f0':=blk_frozen Z3 0;have d0':=(blk_cell Z4 0).trans rfl;have e0':=blk_frozen Z4 0;have c1':=(blk_cell Z3 1).trans rfl;have f1':=blk_frozen Z3 1;have d1':=(blk_cell Z4 1).trans rfl;have e1':=blk_frozen Z4 1;have c2':=(blk_cell Z3 2).trans rfl;have f2':=blk_frozen Z3 2;have d2':=(blk_cell Z4 2).trans rfl;have e2':=blk_frozen Z4 2;have c3':=(blk_cell Z3 3).trans rfl;have f3':=blk_frozen Z3 3;have d3':=(blk_cell Z4 3).trans rfl;have e3':=blk_frozen Z4 3;have c4':=(blk_cell Z3 4).trans rfl;have f4':=blk_frozen Z3 4;have d4':=(blk_cell Z4 4).trans rfl;have e4':=blk_frozen Z4 4;have Z5:=aK Z4;have HS3:=aK (show W3.heap.size=w2.heap.size by rw [←hW3];simp);have HS2:=aK (show w.heap.size+2≤w2.heap.size from hS2);have K3:=aK (show∀k,k≠w.heap.size→W3.heap[k]? =w2.heap[k]? from fun k hk=>by rw [←hW3];exact Below.heap_setCell w2 ⟨w.heap.size,0,none⟩ _ k hk);have HBb:=aK hb;clear hv hb Z1 Z3 Z4 Y1 Y2 HB3 hW3 Z2;go_wp2;refine bodyPost_ret (results_cell_row rfl _ _ (w.heap.size+1) 29 #[.slice AU l0.length cU,.int .i64 a1,.int .i64 a2,.int .i64 a3,.slice AV l4.length cV] (0,0) _ rfl (blk_put (blk_put (blk_put (blk_put (blk_put (blk_far Z5.out (show w.heap.size+1≠w.heap.size by omega) (p:=⟨w.heap.size,4,none⟩) _) 0 _ rfl) 1 _ rfl) 2 _ rfl) 3 _ rfl) 4 _ rfl) Try.underlying29 rfl (by kernel_rfl)) rfl ?_
 have KF: ∀k,k≠w.heap.size→k≠w.heap.size+1→((((((w4.setCell ⟨w.heap.size,4,none⟩ (.slice AV l4.length cV)).setCell ⟨w.heap.size+1,0,none⟩ (.slice AU l0.length cU)).setCell ⟨w.heap.size+1,1,none⟩ (.int .i64 a1)).setCell ⟨w.heap.size+1,2,none⟩ (.int .i64 a2)).setCell ⟨w.heap.size+1,3,none⟩ (.int .i64 a3)).setCell ⟨w.heap.size+1,4,none⟩ (.slice AV l4.length cV)).heap[k]? =w4.heap[k]? :=by
  intro k h1 h2;rw [Below.heap_setCell _ _ _ k h2,Below.heap_setCell _ _ _ k h2,Below.heap_setCell _ _ _ k h2,Below.heap_setCell _ _ _ k h2,Below.heap_setCell _ _ _ k h2,Below.heap_setCell _ _ _ k h1]
 have s3:=HS3.out;have s2:=HS2.out;refine ⟨_,_,rfl,?_,?_,?_⟩
 ·refine Kd.R_lower (Kd.R_mono (Kd.R_step (Kd.R_bound HU.out) (fun k hk hlt => ?_)) (fun k hk he => ?_)) (by omega)
  ·obtain ⟨_, h1, h2, _⟩ := hk
   exact (KF k (by omega) (by omega)).trans ((HBb.out.block k (by omega)).trans (K3.out k (by omega)))
  ·have h1 := Kd.R_base HV.out k he.symm
   have h2:=hk.2.2.1;omega
 ·refine Kd.R_lower (Kd.R_mono (Kd.R_step (Kd.R_bound HV.out) (fun k hk hlt => ?_)) (fun k hk he => ?_)) (by omega)
  ·obtain ⟨_, h1, h2, _⟩ := hk
   exact KF k (by omega) (by omega)
  ·have h1 := Kd.R_lt HU.out k he.symm
   have h2:=hk.2.1;omega
 ·repeat (refine below_set ?_ (by simp))
  exact HB4.out
def kndV (t:Int):Value:=
 if t=0 then .iface 137 (.agg #[])
 else if t=1 then .iface 131 (.agg #[])
 else if t=2 then .iface 138 (.agg #[])
 else if t=3 then .iface 133 (.agg #[.bool false])
 else if t=4 then .iface 133 (.agg #[.bool true])
 else .iface 135 (.agg #[.int .i64 (t - 8)])
def kv (t:Int):Prop:=(0≤t∧t≤4)∨8≤t
def kOk (n t:Int):Bool:=decide ((0≤t∧t≤4)∨(8≤t∧t<8+n))
def kndO (n t:Int):Value:=if kOk n t=true then kndV t else .nilIface
theorem kv_cases {t:Int} (h:kv t):t=0∨t=1∨t=2∨t=3∨t=4∨8≤t:=by unfold kv at h;omega
theorem kndV_cls {t:Int} (h:8≤t):kndV t= .iface 135 (.agg #[.int .i64 (t - 8)]):=by
  unfold kndV;rw [if_neg (by omega),if_neg (by omega),if_neg (by omega),if_neg (by omega),if_neg (by omega)]
theorem kind_int {s:Int} (hs:kv s) (W:World):(Instr.typeAssert (kndV s) 128 131 true).run Try.prog W= .ok (.tuple #[.agg #[],.bool (decide (s=1))]) W:=by
 rcases kv_cases hs with rfl|rfl|rfl|rfl|rfl|hs
 all_goals first
  |(rw [kndV_cls hs,decide_eq_false (by omega)];kernel_rfl)
  |kernel_rfl
theorem kind_arr {s:Int} (hs:kv s) (W:World):(Instr.typeAssert (kndV s) 128 133 true).run Try.prog W= .ok (.tuple #[.agg #[.bool (decide (s=4))],.bool (decide (s=3∨s=4))]) W:=by
 rcases kv_cases hs with rfl|rfl|rfl|rfl|rfl|hs
 all_goals first
  |(rw [kndV_cls hs,decide_eq_false (p:=s=4) (by omega),decide_eq_false (by omega)];kernel_rfl)
  |kernel_rfl
def clsOf (t:Int):Int:=if 8≤t then t - 8 else 0
theorem kind_class {s:Int} (hs:kv s) (W:World):(Instr.typeAssert (kndV s) 128 135 true).run Try.prog W= .ok (.tuple #[.agg #[.int .i64 (clsOf s)],.bool (decide (8≤s))]) W:=by
 rcases kv_cases hs with rfl|rfl|rfl|rfl|rfl|hs
 all_goals first
  |(rw [kndV_cls hs,decide_eq_true hs,show clsOf s=s - 8 from if_pos hs];kernel_rfl)
  |kernel_rfl
theorem nil_int (W:World):(Instr.typeAssert .nilIface 128 131 true).run Try.prog W= .ok (.tuple #[.agg #[],.bool false]) W:=by kernel_rfl
theorem nil_arr (W:World):(Instr.typeAssert .nilIface 128 133 true).run Try.prog W= .ok (.tuple #[.agg #[.bool false],.bool false]) W:=by kernel_rfl
theorem nil_class (W:World):(Instr.typeAssert .nilIface 128 135 true).run Try.prog W= .ok (.tuple #[.agg #[.int .i64 0],.bool false]) W:=by kernel_rfl
set_option maxHeartbeats 2000000 in
theorem impl_kindOf.calls (a0 a1:Int) (w:World) (h0:0≤a0) (h1:a0≤281474976710656):
  Calls Try.prog 114 #[.int .i64 a0,.int .i64 a1] w fun e w'=>e= .returned (kndO a0 a1)∧Drawn0 w w':=by
 by_cases c0:a1=0
 ·subst c0
  have HF:=aK (show kndO a0 0=kndV 0 from if_pos (by simp [kOk]));go_enter Try.func114,Try.ntmps114;go_wp2;go_ret;exact ⟨by rw [HF.out];rfl,Drawn0.refl _⟩
 by_cases c1:a1=1
 ·subst c1
  have HF:=aK (show kndO a0 1=kndV 1 from if_pos (by simp [kOk]));go_enter Try.func114,Try.ntmps114;go_wp2;go_ret;exact ⟨by rw [HF.out];rfl,Drawn0.refl _⟩
 by_cases c2:a1=2
 ·subst c2
  have HF:=aK (show kndO a0 2=kndV 2 from if_pos (by simp [kOk]));go_enter Try.func114,Try.ntmps114;go_wp2;go_ret;exact ⟨by rw [HF.out];rfl,Drawn0.refl _⟩
 by_cases c3:a1=3
 ·subst c3
  have HF:=aK (show kndO a0 3=kndV 3 from if_pos (by simp [kOk]));go_enter Try.func114,Try.ntmps114;go_wp2;go_ret;exact ⟨by rw [HF.out];rfl,Drawn0.refl _⟩
 by_cases c4:a1=4
 ·subst c4
  have HF:=aK (show kndO a0 4=kndV 4 from if_pos (by simp [kOk]));go_enter Try.func114,Try.ntmps114;go_wp2;go_ret;exact ⟨by rw [HF.out];rfl,Drawn0.refl _⟩
 have d0:(a1==0)=false:=beq_eq_false_iff_ne.2 c0
 have d1:(a1==1)=false:=beq_eq_false_iff_ne.2 c1
 have d2:(a1==2)=false:=beq_eq_false_iff_ne.2 c2
 have d3:(a1==3)=false:=beq_eq_false_iff_ne.2 c3
 have d4:(a1==4)=false:=beq_eq_false_iff_ne.2 c4
 by_cases c5:8≤a1
 ·by_cases c6 : a1 < 8 + a0
  ·have HF := aK (show kndO a0 a1 = .iface 135 (.agg #[.int .i64 (a1 - 8)]) from (if_pos (by simp [kOk]; omega)).trans (kndV_cls c5))
   have d5:decide (8≤a1)=true:=decide_eq_true c5
   have d6:decide (a1<8+a0)=true:=decide_eq_true c6
   clear c0 c1 c2 c3 c4;go_enter Try.func114,Try.ntmps114;go_wp2;go_ret;exact ⟨by rw [HF.out];rfl,Drawn0.refl _⟩
  ·have HF := aK (show kndO a0 a1 = .nilIface from if_neg (by simp [kOk]; omega))
   have d5:decide (8≤a1)=true:=decide_eq_true c5
   have d6:decide (a1<8+a0)=false:=decide_eq_false c6
   clear c0 c1 c2 c3 c4;go_enter Try.func114,Try.ntmps114;go_wp2;go_ret;exact ⟨by rw [HF.out];rfl,Drawn0.refl _⟩
 ·have HF := aK (show kndO a0 a1 = .nilIface from if_neg (by simp [kOk]; omega))
  have d5:decide (8≤a1)=false:=decide_eq_false c5
  clear c0 c1 c2 c3 c4;go_enter Try.func114,Try.ntmps114;go_wp2;go_ret;exact ⟨by rw [HF.out];rfl,Drawn0.refl _⟩
def kOkF.f (n t:Int):Option Bool:=if 0≤n∧n≤281474976710656 then some (kOk n t) else none
def impl_fieldType.f (a0 a1:Int):Option Bool:=if 0≤a0∧a0≤281474976710656 then some (kOk a0 a1&&decide (a1=1∨a1=3∨a1=4∨8≤a1)) else none
set_option maxHeartbeats 2000000 in
theorem impl_fieldType.calls (a0:Int) (a1:Int) (r:Bool) (w:World) (h:impl_fieldType.f a0 a1=some r):
  Calls Try.prog 94 #[.int .i64 a0,.int .i64 a1] w fun e w'=>e= .returned (.bool r)∧Drawn0 w w':=by
 unfold impl_fieldType.f at h
 split at h
 case isFalse=>simp at h
 case isTrue hb=>
  obtain ⟨h0,h1⟩:=hb;have HR:=aK (Option.some.inj h);clear h;by_cases hk:kOk a0 a1=true
  ·have hv : kv a1 := by simp [kOk] at hk; unfold kv; omega
   have HO:=aK (show kndO a0 a1=kndV a1 from if_pos hk);have t1:=kind_int hv;have t2:=kind_arr hv;have t3:=kind_class hv;have HK:=aK hk;clear hk hv;go_enter Try.func94,Try.ntmps94
   go_wp2_with (go_at_call 114;refine (impl_kindOf.calls a0 a1 _ h0 h1).mono ?_;rintro e w' ⟨rfl,⟨n,rfl⟩⟩;rw [HO.out])
   ·go_ret
    exact ⟨by show Ending.returned (.bool true)=_;rw [←HR.out,HK.out,decide_eq_true (by omega)];rfl,Drawn0.step (Drawn0.refl _) _⟩
   ·go_ret
    exact ⟨by show Ending.returned (.bool false)=_;rw [←HR.out,HK.out,decide_eq_false (by omega)];rfl,Drawn0.step (Drawn0.refl _) _⟩
  ·have HO := aK (show kndO a0 a1 = .nilIface from if_neg hk)
   have HK:=aK (Bool.not_eq_true _ |>.mp hk);have t1:=nil_int;have t2:=nil_arr;have t3:=nil_class;clear hk;go_enter Try.func94,Try.ntmps94
   go_wp2_with (go_at_call 114;refine (impl_kindOf.calls a0 a1 _ h0 h1).mono ?_;rintro e w' ⟨rfl,⟨n,rfl⟩⟩;rw [HO.out])
   go_ret;exact ⟨by show Ending.returned (.bool false)=_;rw [←HR.out,HK.out];rfl,Drawn0.step (Drawn0.refl _) _⟩
end Go.Proofs.Ytbaklikaoleplaa.K
