import Derived.Test.YtehefmgplkolaaaProg
import Derived.Below
import Derived.Deep.Draws
import Derived.Deep.AppendLies
import Derived.Maps.AppendAt
import Derived.OwnWalk
import Derived.Laws.BytesArg
import Derived.Laws.MakeOwn
import Derived.Laws.OwnMore
import Derived.Deep.OwnRows
import Derived.Tactics
import Derived.Lib.ConvBytes
import Derived.Laws.Slices
import Derived.WalkKit
import Derived.KernelRfl
import Derived.RowKit3
import Derived.Deep.LoopGhost
import Derived.Deep.QuietTactic
import Derived.BigQuiet
import Derived.WideLaws
import Derived.Deep.DeepCutAuto
import Derived.Deep.CutBlock
import Derived.Deep.RegionHeld3
import Derived.Laws.Rows
import Derived.Lib.AppendStr
import Derived.ArgAppend
import Derived.Laws.IdiomCopy
import Derived.OrdersHeld
import Derived.Laws.BitsLemmas
import Derived.RowKit
import Derived.Test.YtehefmgplkolaaaPf3
import Derived.Test.YtehefmgplkolaaaPf4
import Derived.Test.YtehefmgplkolaaaPf5
import Derived.Test.YtehefmgplkolaaaPf6
import Derived.Test.YtehefmgplkolaaaPf7
import Derived.Test.YtehefmgplkolaaaPf8
import Derived.Test.YtehefmgplkolaaaPf9
import Derived.Test.YtehefmgplkolaaaPf10
import Derived.Test.YtehefmgplkolaaaPf11
import Derived.Test.YtehefmgplkolaaaPf12
import Derived.Test.YtehefmgplkolaaaPf13
import Derived.Test.YtehefmgplkolaaaPf14
import Derived.Test.YtehefmgplkolaaaPf15
import Derived.Test.YtehefmgplkolaaaPf16
import Derived.Test.YtehefmgplkolaaaPf17
import Derived.Test.YtehefmgplkolaaaPf18
import Derived.Test.YtehefmgplkolaaaPf19
import Derived.Test.YtehefmgplkolaaaPf20
import Derived.Test.YtehefmgplkolaaaPf21
import Derived.Test.YtehefmgplkolaaaPf22
import Derived.Test.YtehefmgplkolaaaPf23
namespace Go.Proofs.Ytehefmgplkolaaa.K
open Go.RowKit Go.Proofs.YtehefmgplkolaaaW.PrintWords Go.Proofs.YtehefmgplkolaaaW.PrintLast Go.Proofs.YtehefmgplkolaaaW.PrintMore
attribute [local go_sem] max2_int min2_int max_two min_two max_three min_three max_four min_four
set_option linter.unusedVariables false
set_option linter.unusedSimpArgs false
def errW:Option Int→Value
  |none=> .nilIface
  |some c=> .iface 0 (.int .i64 c)
theorem errW_none:errW none= .nilIface:=rfl
theorem errW_some (c:Int):errW (some c)= .iface 0 (.int .i64 c):=rfl
def lA (n m:Nat):Array Bool:=((List.range n).map (Nat.testBit m)).toArray
theorem lA1 {α:Type} (l:List α) (i:Nat) (a:α):l.toArray.setIfInBounds i a=(l.set i a).toArray:=List.setIfInBounds_toArray l i a
theorem lA2 {α:Type} {x a:α} {l:List α}:(x::l).set 0 a=a::l:=List.set_cons_zero
theorem lA3 {α:Type} {x a:α} {l:List α} {n:Nat}:(x::l).set (n+1) a=x::l.set n a:=List.set_cons_succ
section
open Go.Proofs.YtehefmgplkolaaaW.PrintLast
variable {P:Program} {ops:Array Oper} {Q:Exit→Act→World→Prop} {md:Region.Mode} {S:World→Prop} {ds:List Nat} {oi:Oper} {v:Value} {fuel:Nat} {l:Array Bool} {a a':Act} {w:World}
theorem pS (i:Nat) (n:Tmp) (l':Array Bool) (h:wpAnyLast P md ops Q S ds fuel l' a' w) (hi:ops[i]? =some oi:=by exact rfl) (hN:oi.dst=some n:=by exact rfl) (hc:anyB md ops l l' i=true:=by as_aux_lemma=>kernel_rfl) (hQ: ∀c a w,Q (.panic c) (a.put oi.dst v) w→Q (.panic c) a w:=by exact fun _ _ _ h=>h) (hw:Region.wanted oi (yielded ops a.tmps)=true:=by rfl) (hv: ∀w',(execOp a.eval oi).run P w'= .ok (.value v) w':=by intro w';go_simp;with_reducible rfl) (ha:a.put (some n) v=a':=by simp only [Act.put,lA1,lA2,lA3,i64_w,i32_w];rfl):wpAnyLast P md ops Q S ds (fuel+1) l a w:=
  pure_ l' hi hN hc hQ (Or.inl ⟨hw,hv⟩) ha h
theorem tS (i:Nat) (n:Tmp) (l':Array Bool) (hi:ops[i]? =some oi) (hN:oi.dst=some n) (hc:takeB md ops ds l l' i=true) (hS:S w) (hv: ∀w',S w'→(execOp a.eval oi).run P w'= .ok (.value v) w') (h:wpAnyLast P md ops Q S ds fuel l' a' w) (hQ: ∀c a w,Q (.panic c) (a.put oi.dst v) w→Q (.panic c) a w:=by exact fun _ _ _ h=>h) (hw:Region.wanted oi (yielded ops a.tmps)=true:=by rfl) (ha:a.put (some n) v=a':=by simp only [Act.put,lA1,lA2,lA3,i64_w,i32_w];rfl):wpAnyLast P md ops Q S ds (fuel+1) l a w:=
  take_ l' hi hN hc hQ (Or.inl ⟨hw,hv⟩) hS ha h
end
theorem info3:(Try.prog.info? 3).map (fun i=>(i.zero,i.size,i.bytes))=some (some (.int .i64 0),1,8):=by kernel_rfl
theorem info48:(Try.prog.info? 48).map (fun i=>(i.zero,i.size,i.bytes))=some (some (.agg #[(.int .i64 0),(.slice none 0 0)]),2,32):=by kernel_rfl
structure S45 where
  f0:Int
  f1:(List Int)
def z45:S45:=⟨(0:Int),([]:List Int)⟩
def k45:Kd S45:=Kd.iso (Kd.pair (Kd.int .i64) (Kd.slice 3 (Kd.int .i64))) (fun x:S45=>(x.f0,x.f1))
theorem k45_open {w:World} {x:S45} {cs:List Value} (h:k45.K w x cs): ∃A1 c1,cs=[.int .i64 x.f0,.slice A1 x.f1.length c1]∧x.f1.length≤c1∧(Kd.int .i64).C w A1 x.f1.length x.f1:=by
  obtain ⟨_,_,rfl,rfl,⟨A1,c1,rfl,l1,g1⟩⟩:=h;exact ⟨A1,c1,rfl,l1,g1⟩
def rd_T45 (xs:List S45) (i:Int):S45:=xs.getD i.toNat z45
theorem at_T45 {w:World} {A:Option Addr} {n:Nat} {xs:List S45} (h:Kd.C k45 w A n xs) (i:Int) (h0:0≤i) (h1:i<n): ∃ad A1 c1,A=some ad∧w.cell? (ad.add (i.toNat*2))=some (.int .i64 (rd_T45 xs i).f0)∧w.cell? ⟨(ad.add (i.toNat*2)).block,(ad.add (i.toNat*2)).off+1,none⟩=some (.slice A1 (rd_T45 xs i).f1.length c1)∧(rd_T45 xs i).f1.length≤c1∧(Kd.int .i64).C w A1 (rd_T45 xs i).f1.length (rd_T45 xs i).f1:=by
 obtain ⟨ad,c,e,_,hK,hc0⟩:=Kd.C_get h z45 i h0 h1;have hc: ∀j u,c[j]? =some u→w.cell? (ad.add (i.toNat*2+j))=some u:=hc0
 obtain ⟨A1,c1,rfl,l1,g1⟩:=k45_open hK;exact ⟨ad,A1,c1,e,hc 0 _ rfl,by rw [←add_field _ _ 1 (by omega)];exact hc 1 _ rfl,l1,g1⟩
structure S48 where
  f0:Int
  f1:(List Int)
def z48:S48:=⟨(0:Int),([]:List Int)⟩
def k48:Kd S48:=Kd.iso (Kd.pair (Kd.int .i64) (Kd.slice 3 (Kd.int .i64))) (fun x:S48=>(x.f0,x.f1))
theorem k48_open {w:World} {x:S48} {cs:List Value} (h:k48.K w x cs): ∃A1 c1,cs=[.int .i64 x.f0,.slice A1 x.f1.length c1]∧x.f1.length≤c1∧(Kd.int .i64).C w A1 x.f1.length x.f1:=by
  obtain ⟨_,_,rfl,rfl,⟨A1,c1,rfl,l1,g1⟩⟩:=h;exact ⟨A1,c1,rfl,l1,g1⟩
theorem k48_openM {w:World} {base:Nat} {ok:Nat→Prop} {x:S48} {cs:List Value} (h:k48.M w base ok x cs): ∃v1,cs=[.int .i64 x.f0,v1]∧(Kd.int .i64).R 3 w base ok v1 x.f1:=by
  obtain ⟨_,_,rfl,rfl,⟨v1,rfl,g1⟩⟩:=h;exact ⟨v1,rfl,g1⟩
theorem k48_mkM (w:World) (base:Nat) (ok:Nat→Prop) (x:S48) {v1:Value} (g1:(Kd.int .i64).R 3 w base ok v1 x.f1):k48.M w base ok x [.int .i64 x.f0,v1]:=⟨[.int .i64 x.f0],[v1],rfl,rfl,⟨v1,rfl,g1⟩⟩
def rd_T48 (xs:List S48) (i:Int):S48:=xs.getD i.toNat z48
theorem at_T48 {w:World} {A:Option Addr} {n:Nat} {xs:List S48} (h:Kd.C k48 w A n xs) (i:Int) (h0:0≤i) (h1:i<n): ∃ad A1 c1,A=some ad∧w.cell? (ad.add (i.toNat*2))=some (.int .i64 (rd_T48 xs i).f0)∧w.cell? ⟨(ad.add (i.toNat*2)).block,(ad.add (i.toNat*2)).off+1,none⟩=some (.slice A1 (rd_T48 xs i).f1.length c1)∧(rd_T48 xs i).f1.length≤c1∧(Kd.int .i64).C w A1 (rd_T48 xs i).f1.length (rd_T48 xs i).f1:=by
 obtain ⟨ad,c,e,_,hK,hc0⟩:=Kd.C_get h z48 i h0 h1;have hc: ∀j u,c[j]? =some u→w.cell? (ad.add (i.toNat*2+j))=some u:=hc0
 obtain ⟨A1,c1,rfl,l1,g1⟩:=k48_open hK;exact ⟨ad,A1,c1,e,hc 0 _ rfl,by rw [←add_field _ _ 1 (by omega)];exact hc 1 _ rfl,l1,g1⟩
structure S25 where
 f0:Bool
 f1:(List Int)
 f2:(List Int)
def k25:Kd S25:=Kd.iso (Kd.pair Kd.bool (Kd.pair (Kd.slice 3 (Kd.int .i64)) (Kd.slice 3 (Kd.int .i64)))) (fun x:S25=>(x.f0,x.f1,x.f2))
theorem k25_open {w:World} {x:S25} {cs:List Value} (h:k25.K w x cs): ∃A1 c1 A2 c2,cs=[.bool x.f0,.slice A1 x.f1.length c1,.slice A2 x.f2.length c2]∧x.f1.length≤c1∧(Kd.int .i64).C w A1 x.f1.length x.f1∧x.f2.length≤c2∧(Kd.int .i64).C w A2 x.f2.length x.f2:=by
  obtain ⟨_,_,rfl,rfl,⟨_,_,rfl,⟨A1,c1,rfl,l1,g1⟩,⟨A2,c2,rfl,l2,g2⟩⟩⟩:=h;exact ⟨A1,c1,A2,c2,rfl,l1,g1,l2,g2⟩
theorem cbf2 {w:World} {g:Nat} {t:TypeId} {a0 a1:Value} (h:Aside0 (w.heap[g]? =some (.cells #[a0,a1] t (0,0)))):w.cell? ⟨g,0,none⟩=some a0∧w.cell? ⟨g,1,none⟩=some a1∧w.frozen? ⟨g,0,none⟩=false∧w.frozen? ⟨g,1,none⟩=false:=⟨(blk_cell h.out 0).trans rfl,(blk_cell h.out 1).trans rfl,blk_frozen h.out 0,blk_frozen h.out 1⟩
theorem cbf3 {w:World} {g:Nat} {t:TypeId} {a0 a1 a2:Value} (h:Aside0 (w.heap[g]? =some (.cells #[a0,a1,a2] t (0,0)))):w.cell? ⟨g,0,none⟩=some a0∧w.cell? ⟨g,1,none⟩=some a1∧w.cell? ⟨g,2,none⟩=some a2∧w.frozen? ⟨g,0,none⟩=false∧w.frozen? ⟨g,1,none⟩=false∧w.frozen? ⟨g,2,none⟩=false:=⟨(blk_cell h.out 0).trans rfl,(blk_cell h.out 1).trans rfl,(blk_cell h.out 2).trans rfl,blk_frozen h.out 0,blk_frozen h.out 1,blk_frozen h.out 2⟩
theorem aK {p:Prop} (h:p):Aside0 p:=Aside0.mk h
section
variable {P:Program} {ops:Array Oper} {Q:Exit→Act→World→Prop} {md:Region.Mode} {S:World→Prop} {ds:List Nat} {oi:Oper} {v:Value} {fuel:Nat} {l:Array Bool} {a a':Act} {w:World}
theorem pT {T:Bool×List (List Nat×List Nat)} (i:Nat) (n:Tmp) (l':Array Bool) (HT:Aside0 (rtab md ops=T)) (h:wpAnyLast P md ops Q S ds fuel l' a' w) (hi:ops[i]? =some oi:=by exact rfl) (hN:oi.dst=some n:=by exact rfl) (hc:anyT T l.toList l'.toList i=true:=by kernel_rfl) (hQ: ∀c a w,Q (.panic c) (a.put oi.dst v) w→Q (.panic c) a w:=by exact fun _ _ _ h=>h) (hw:Region.wanted oi (yielded ops a.tmps)=true:=by rfl) (hv: ∀w',(execOp a.eval oi).run P w'= .ok (.value v) w':=by intro w';go_simp;with_reducible rfl) (ha:a.put (some n) v=a':=by simp only [Act.put,List.setIfInBounds_toArray,List.set_cons_zero,List.set_cons_succ,i64_w,i32_w];rfl):wpAnyLast P md ops Q S ds (fuel+1) l a w:=pS i n l' h hi hN (any_of HT.out hc) hQ hw hv ha
theorem nS (n:Tmp) (h:wpAnyLast P md ops Q S ds fuel l a' w) (ha:a.put (some n) v=a':=by simp only [Act.put,List.setIfInBounds_toArray,List.set_cons_zero,List.set_cons_succ,i64_w,i32_w];rfl):wpAnyLast P md ops Q S ds fuel l (a.put (some n) v) w:=norm_ ha h
theorem oS (i:Nat) (n:Tmp) (l':Array Bool) (hi:ops[i]? =some oi) (hN:oi.dst=some n) (h: ∀K:Act→World→Prop,Shut (∀a' w',S w'→(S w'→wpAnyLast P md ops Q S ds fuel l' a' w')→K a' w')→if Region.wanted oi (yielded ops a.tmps)=true then Oper.wp P oi a w K Q else K (a.put (some n) undef) w) (hc:readyB md ops l l' i=true:=by kernel_rfl) (hd:i∉ds:=by decide):wpAnyLast P md ops Q S ds (fuel+1) l a w:=one_ l' hi hN hc hd h
end
theorem lA0 (n:Nat):Array.replicate n false=lA n 0:=by simp [lA,Array.ext_iff]
section
variable {P:Program} {ops:Array Oper} {Q:Exit→Act→World→Prop} {rest:List Oper} {oi:Oper} {a:Act} {w:World}
theorem sT {id:Nat} (n:Nat) {S:World→Prop} {ds:List Nat} (hS:S w.drew) (h:S w.drew→wpAnyLast P .any ops Q S ds n (lA n 0) a w.drew) (hm:P.follows .mixedOrders=true:=by kernel_rfl) (hn:ops.size=n:=by rfl):(Code.region id ops true).wp P Q a w:=start_ (lA n 0) hm hn (lA0 n) hS h
theorem gL (n : Tmp) {f : FuncId} {fn : Func} {xs : Array Operand} {ts : Array TypeId} (hf : P.funcs[f]? = some fn) (args : Array Value) (h : Calls P f args w fun e w' => ∃ v, e = .returned v ∧ wpList P ops Q rest (a.put (some n) v) w') (hd : oi.dst = some n := by exact rfl) (hg : oi.guard = none := by exact rfl) (hname : (fn.name == "runtime.NumGoroutine") = false := by kernel_rfl) (hb : fn.body.isSome = true := by exact rfl) (hop : oi.op = .call { callee := .value (.func f), args := xs, argTypes := ts } := by exact rfl) (hargs : xs.map a.eval = args := by simp only [List.map_toArray, List.map_cons, List.map_nil]; rfl) : wpList P ops Q (oi :: rest) a w := goesL_ (some n) hd hg hf hname hb args hop hargs h
theorem gO {N : Option Tmp} {K : Act → World → Prop} {f : FuncId} {fn : Func} {xs : Array Operand} {ts : Array TypeId} (hf : P.funcs[f]? = some fn) (args : Array Value) (h : Calls P f args w fun e w' => ∃ v, e = .returned v ∧ K (a.put N v) w') (hname : (fn.name == "runtime.NumGoroutine") = false := by kernel_rfl) (hb : fn.body.isSome = true := by exact rfl) (hw : Region.wanted oi (yielded ops a.tmps) = true := by rfl) (hN : oi.dst = N := by exact rfl) (hop : oi.op = .call { callee := .value (.func f), args := xs, argTypes := ts } := by exact rfl) (hargs : xs.map a.eval = args := by simp only [List.map_toArray, List.map_cons, List.map_nil]; rfl) : if Region.wanted oi (yielded ops a.tmps) = true then Oper.wp P oi a w K Q else K (a.put N undef) w := goes_ hf hname hb args hw hN hop hargs h
end
theorem zz1 {p:Prop} (h:p:=by repeat (first|(with_reducible first|exact HB.out|apply below_alloc|apply pw_below_drewN|apply below_drew1)|exact HB.out)):p:=h
theorem zz2 {p:Prop} (h:p:=by (try simp only [List.map_toArray,List.map_cons,List.map_nil]);first|done|rfl|(simp only [List.length_drop,List.length_take];rfl)):p:=h
theorem zz3 {p:Prop} (h:p:=by have h_:=hHeld.2.1.out;(try simp only [World.drewN_drewN] at h_);exact below_alloc h_ _):p:=h
theorem zz4 {p:Prop} (h:p:=by first|rfl|(simp [errW_none,errW_some]<;>rfl)|(simp [*,errW_none,errW_some]<;>rfl)):p:=h
theorem zz5 {p:Prop} (h:p:=by repeat (first|exact (Kd.C_below HR0.out HB.out)|(with_reducible refine Kd.C_alloc ?_ _)|(with_reducible refine Kd.C_drewN ?_ _)|(with_reducible refine Kd.C_drew ?_))):p:=h
theorem zz6 {p:Prop} (h:p:=by first|(with_reducible assumption)|assumption):p:=h
theorem zz7 {p:Prop} (h:p:=by simp only [putAll,Act.put,List.setIfInBounds_toArray,List.set_cons_zero,List.set_cons_succ]):p:=h
theorem zz8 {p:Prop} (h:p:=by show w.heap.size<_;have:=blk_lt HW1.out;omega):p:=h
theorem zz9 {p:Prop} (h:p:=by first|rfl|(simp;done)|(simp [*];done)):p:=h
theorem zz10 {p:Prop} (h:p:=by repeat (first|(with_reducible first|exact HB.out|apply below_alloc|apply pw_below_drewN|apply below_drew1|refine below_set ?_ GE137.out|refine below_set ?_ GE138.out)|exact HB.out)):p:=h
theorem zz11 {p:Prop} (h:p:=by repeat (first|exact (Kd.C_below HR1_1.out HB.out)|(with_reducible refine Kd.C_alloc ?_ _)|(with_reducible refine Kd.C_drewN ?_ _)|(with_reducible refine Kd.C_drew ?_))):p:=h
theorem zz12 {p:Prop} (h:p:=by repeat (first|(with_reducible first|exact HB.out|apply below_alloc|apply pw_below_drewN|apply below_drew1|refine below_set ?_ GE257.out)|exact HB.out)):p:=h
theorem zz13 {p:Prop} (h:p:=by repeat (first|(with_reducible first|exact HB.out|apply below_alloc|apply pw_below_drewN|apply below_drew1|refine below_set ?_ GE119.out)|exact HB.out)):p:=h
theorem zz14 {p:Prop} (h:p:=by repeat (first|(with_reducible first|exact HB.out|apply below_alloc|apply pw_below_drewN|apply below_drew1|refine below_set ?_ GE162.out|refine below_set ?_ GE163.out|refine below_set ?_ GE164.out)|exact HB.out)):p:=h
theorem zz15 {p:Prop} (h:p:=by (with_reducible repeat (first|refine blk_drewN ?_ _|refine blk_drew ?_|refine blk_alloc ?_ _));exact BK264.out):p:=h
theorem zz16 {p:Prop} (h:p:=by (with_reducible repeat (first|refine blk_drewN ?_ _|refine blk_drew ?_|refine blk_alloc ?_ _));exact BK257.out):p:=h
theorem zz17 {p:Prop} (h:p:=by (with_reducible repeat (first|refine blk_drewN ?_ _|refine blk_drew ?_|refine blk_alloc ?_ _));exact BK162.out):p:=h
theorem zz18 {p:Prop} (h:p:=by repeat (first|(with_reducible first|exact HB.out|apply below_alloc|apply pw_below_drewN|apply below_drew1|refine below_set ?_ GE126.out)|exact HB.out)):p:=h
theorem zz19 {p:Prop} (h:p:=by (with_reducible repeat (first|refine blk_drewN ?_ _|refine blk_drew ?_|refine blk_alloc ?_ _));exact BK126.out):p:=h
theorem zz20 {p:Prop} (h:p:=by repeat (first|exact (Kd.C_below HR1_2.out HB.out)|(with_reducible refine Kd.C_alloc ?_ _)|(with_reducible refine Kd.C_drewN ?_ _)|(with_reducible refine Kd.C_drew ?_))):p:=h
theorem zz21 {p:Prop} (h:p:=by repeat (first|exact (Kd.C_below HR0_1.out HB.out)|(with_reducible refine Kd.C_alloc ?_ _)|(with_reducible refine Kd.C_drewN ?_ _)|(with_reducible refine Kd.C_drew ?_))):p:=h
theorem zz22 {p:Prop} (h:p:=by repeat (first|exact HR0.out|(with_reducible refine Kd.C_alloc ?_ _)|(with_reducible refine Kd.C_drewN ?_ _)|(with_reducible refine Kd.C_drew ?_))):p:=h
theorem zz23 {p:Prop} (h:p:=by repeat (first|(with_reducible first|exact HB.out|apply below_alloc|apply pw_below_drewN|apply below_drew1|refine below_set ?_ GE294.out)|exact HB.out)):p:=h
theorem zz24 {p:Prop} (h:p:=by repeat (first|(with_reducible first|exact HB.out|apply below_alloc|apply pw_below_drewN|apply below_drew1|refine below_set ?_ GE126.out|refine below_set ?_ GE127.out)|exact HB.out)):p:=h
theorem zz25 {p:Prop} (h:p:=by (with_reducible repeat (first|refine blk_drewN ?_ _|refine blk_drew ?_|refine blk_alloc ?_ _));exact BK265.out):p:=h
theorem zz26 {p:Prop} (h:p:=by (with_reducible repeat (first|refine blk_drewN ?_ _|refine blk_drew ?_|refine blk_alloc ?_ _));exact BK196.out):p:=h
theorem zz27 {p:Prop} (h:p:=by (with_reducible repeat (first|refine blk_drewN ?_ _|refine blk_drew ?_|refine blk_alloc ?_ _));exact BK281.out):p:=h
theorem zz28 {p:Prop} (h:p:=by (with_reducible repeat (first|refine blk_drewN ?_ _|refine blk_drew ?_|refine blk_alloc ?_ _));exact BK163.out):p:=h
theorem zz29 {p:Prop} (h:p:=by (with_reducible repeat (first|refine blk_drewN ?_ _|refine blk_drew ?_|refine blk_alloc ?_ _));exact BK137.out):p:=h
theorem zz30 {p:Prop} (h:p:=by repeat (first|(with_reducible first|exact HB.out|apply below_alloc|apply pw_below_drewN|apply below_drew1|refine below_set ?_ GE196.out|refine below_set ?_ GE197.out|refine below_set ?_ GE198.out)|exact HB.out)):p:=h
theorem zz31 {p:Prop} (h:p:=by repeat (first|exact Drawn0.refl _|apply Drawn0.step)):p:=h
theorem zz32 {p:Prop} (h:p:=by repeat (first|(with_reducible first|exact HB.out|apply below_alloc|apply pw_below_drewN|apply below_drew1|refine below_set ?_ GE257.out|refine below_set ?_ GE258.out)|exact HB.out)):p:=h
theorem zz33 {p:Prop} (h:p:=by repeat (first|(with_reducible first|exact HB.out|apply below_alloc|apply pw_below_drewN|apply below_drew1|refine below_set ?_ GE264.out|refine below_set ?_ GE265.out|refine below_set ?_ GE266.out|refine below_set ?_ GE268.out)|exact HB.out)):p:=h
theorem zz34 {p:Prop} (h:p:=by repeat (first|exact (Kd.C_below HR2_2.out HB.out)|(with_reducible refine Kd.C_alloc ?_ _)|(with_reducible refine Kd.C_drewN ?_ _)|(with_reducible refine Kd.C_drew ?_))):p:=h
theorem zz35 {p:Prop} (h:p:=by repeat (first|exact (Kd.C_below HR2_1.out HB.out)|(with_reducible refine Kd.C_alloc ?_ _)|(with_reducible refine Kd.C_drewN ?_ _)|(with_reducible refine Kd.C_drew ?_))):p:=h
theorem zz36 {p:Prop} (h:p:=by repeat (first|(with_reducible first|exact HB.out|apply below_alloc|apply pw_below_drewN|apply below_drew1|refine below_set ?_ GE294.out|refine below_set ?_ GE295.out)|exact HB.out)):p:=h
theorem zz37 {p:Prop} (h:p:=by repeat (first|(with_reducible first|exact HB.out|apply below_alloc|apply pw_below_drewN|apply below_drew1|refine below_set ?_ GE298.out)|exact HB.out)):p:=h
theorem zz38 {p:Prop} (h:p:=by repeat (first|(with_reducible first|exact HB.out|apply below_alloc|apply pw_below_drewN|apply below_drew1|refine below_set ?_ GE162.out|refine below_set ?_ GE163.out|refine below_set ?_ GE164.out|refine below_set ?_ GE172.out)|exact HB.out)):p:=h
theorem zz39 {p:Prop} (h:p:=by (with_reducible repeat (first|refine blk_drewN ?_ _|refine blk_drew ?_|refine blk_alloc ?_ _));exact BK294.out):p:=h
theorem zz40 {p:Prop} (h:p:=by (with_reducible repeat (first|refine blk_drewN ?_ _|refine blk_drew ?_|refine blk_alloc ?_ _));exact BK138.out):p:=h
theorem zz41 {p:Prop} (h:p:=by rintro w' ⟨s0,s1,s2,s3,s4,s5,s6,s7,s8,s9,s10⟩;go_simp;with_reducible rfl):p:=h
theorem zz42 {p:Prop} (h:p:=by repeat (first|(with_reducible first|exact HB.out|apply below_alloc|apply pw_below_drewN|apply below_drew1|refine below_set ?_ GE110.out)|exact HB.out)):p:=h
theorem zz43 {p:Prop} (h:p:=by repeat (first|(with_reducible first|exact HB.out|apply below_alloc|apply pw_below_drewN|apply below_drew1|refine below_set ?_ GE234.out|refine below_set ?_ GE235.out|refine below_set ?_ GE236.out)|exact HB.out)):p:=h
theorem zz44 {p:Prop} (h:p:=by (with_reducible repeat (first|refine blk_drewN ?_ _|refine blk_drew ?_|refine blk_alloc ?_ _));exact BK266.out):p:=h
theorem zz45 {p:Prop} (h:p:=by (with_reducible repeat (first|refine blk_drewN ?_ _|refine blk_drew ?_|refine blk_alloc ?_ _));exact BK197.out):p:=h
theorem zz46 {p:Prop} (h:p:=by repeat (first|(with_reducible first|exact HB.out|apply below_alloc|apply pw_below_drewN|apply below_drew1|refine below_set ?_ GE252.out)|exact HB.out)):p:=h
theorem zz47 {p:Prop} (h:p:=by repeat (first|(with_reducible first|exact HB.out|apply below_alloc|apply pw_below_drewN|apply below_drew1|refine below_set ?_ GE281.out|refine below_set ?_ GE282.out)|exact HB.out)):p:=h
theorem zz48 {p:Prop} (h:p:=by repeat (first|(with_reducible first|exact HB.out|apply below_alloc|apply pw_below_drewN|apply below_drew1|refine below_set ?_ GE264.out|refine below_set ?_ GE265.out)|exact HB.out)):p:=h
theorem zz49 {p:Prop} (h:p:=by repeat (first|(with_reducible first|exact HB.out|apply below_alloc|apply pw_below_drewN|apply below_drew1|refine below_set ?_ GE196.out|refine below_set ?_ GE197.out)|exact HB.out)):p:=h
theorem zz50 {p:Prop} (h:p:=by repeat (first|(with_reducible first|exact HB.out|apply below_alloc|apply pw_below_drewN|apply below_drew1|refine below_set ?_ GE162.out|refine below_set ?_ GE163.out)|exact HB.out)):p:=h
theorem zz51 {p:Prop} (h:p:=by (with_reducible repeat (first|refine blk_drewN ?_ _|refine blk_drew ?_|refine blk_alloc ?_ _));exact BK298.out):p:=h
theorem zz52 {p:Prop} (h:p:=by (with_reducible repeat (first|refine blk_drewN ?_ _|refine blk_drew ?_|refine blk_alloc ?_ _));exact BK282.out):p:=h
theorem zz53 {p:Prop} (h:p:=by (with_reducible repeat (first|refine blk_drewN ?_ _|refine blk_drew ?_|refine blk_alloc ?_ _));exact BK164.out):p:=h
theorem zz54 {p:Prop} (h:p:=by (with_reducible repeat (first|refine blk_drewN ?_ _|refine blk_drew ?_|refine blk_alloc ?_ _));exact BK119.out):p:=h
theorem zz55 {p:Prop} (h:p:=by repeat (first|(with_reducible first|exact HB.out|apply below_alloc|apply pw_below_drewN|apply below_drew1|refine below_set ?_ GE281.out|refine below_set ?_ GE282.out|refine below_set ?_ GE283.out)|exact HB.out)):p:=h
theorem zz56 {p:Prop} (h:p:=by repeat (first|(with_reducible first|exact HB.out|apply below_alloc|apply pw_below_drewN|apply below_drew1|refine below_set ?_ GE264.out|refine below_set ?_ GE265.out|refine below_set ?_ GE266.out)|exact HB.out)):p:=h
theorem zz57 {p:Prop} (h:p:=by (with_reducible repeat (first|apply Kd.R_alloc|apply Kd.R_drewN|apply Kd.R_drew));exact (Kd.R_mono (Kd.R_far (p:=⟨gb172,2,none⟩) (Kd.R_far (p:=⟨gb172,1,none⟩) (Kd.R_far (p:=⟨gb172,0,none⟩) (Kd.R_types HO171.out BK172.out (by decide)) (fun _ hk=>hk.2) (.bool t165)) (fun _ hk=>hk.2) (.slice Ao96 t166.length co96)) (fun _ hk=>hk.2) (.slice Ao97 t169.length co97)) (fun _ h_=>h_.1))):p:=h
theorem zz58 {p:Prop} (h:p:=by (with_reducible repeat (first|apply Kd.R_alloc|apply Kd.R_drewN|apply Kd.R_drew));exact (Kd.R_mono (Kd.R_far (p:=⟨gb172,2,none⟩) (Kd.R_far (p:=⟨gb172,1,none⟩) (Kd.R_far (p:=⟨gb172,0,none⟩) (Kd.R_types HO168.out BK172.out (by decide)) (fun _ hk=>hk.2) (.bool t165)) (fun _ hk=>hk.2) (.slice Ao96 t166.length co96)) (fun _ hk=>hk.2) (.slice Ao97 t169.length co97)) (fun _ h_=>h_.1))):p:=h
theorem zz59 {p:Prop} (h:p:=by repeat (first|(with_reducible first|exact HB.out|apply below_alloc|apply pw_below_drewN|apply below_drew1|refine below_set ?_ GE281.out)|exact HB.out)):p:=h
theorem zz60 {p:Prop} (h:p:=by repeat (first|(with_reducible first|exact HB.out|apply below_alloc|apply pw_below_drewN|apply below_drew1|refine below_set ?_ GE264.out)|exact HB.out)):p:=h
def kndV (t:Int):Value:=
 if t=0 then .iface 78 (.agg #[])
 else if t=1 then .iface 73 (.agg #[])
 else if t=2 then .iface 79 (.agg #[])
 else if t=3 then .iface 75 (.agg #[.bool false])
 else if t=4 then .iface 75 (.agg #[.bool true])
 else .iface 77 (.agg #[.int .i64 (t - 8)])
def kv (t:Int):Prop:=(0≤t∧t≤4)∨8≤t
def kOk (n t:Int):Bool:=decide ((0≤t∧t≤4)∨(8≤t∧t<8+n))
def kndO (n t:Int):Value:=if kOk n t=true then kndV t else .nilIface
theorem kv_cases {t:Int} (h:kv t):t=0∨t=1∨t=2∨t=3∨t=4∨8≤t:=by unfold kv at h;omega
theorem kndV_cls {t:Int} (h:8≤t):kndV t= .iface 77 (.agg #[.int .i64 (t - 8)]):=by
  unfold kndV;rw [if_neg (by omega),if_neg (by omega),if_neg (by omega),if_neg (by omega),if_neg (by omega)]
theorem eqCls (d:Nat) (w:World) (x0 y0:Int):
  (Op.equalIn (d+2) 77 (.agg #[.int .i64 x0]) (.agg #[.int .i64 y0])).run Try.prog w= .ok (x0==y0) w:=by
 refine eqA_of Try.underlying77 (by kernel_rfl) ?_;exact eqf_last (by rfl) (by go_simp;rfl) (by go_simp;rfl) (by go_simp)
theorem cls_step (x y:Value) (W:World):(Op.equal 70 (.iface 77 x) (.iface 77 y)).run Try.prog W=(Op.equalIn 9999 77 x y).run Try.prog W:=by
  kernel_rfl
theorem cls_eql (x y:Int) (W:World):(binOp .eql 70 (.iface 77 (.agg #[.int .i64 x])) (.iface 77 (.agg #[.int .i64 y]))).run Try.prog W= .ok (.bool (x==y)) W:=by
  simp only [binOp,Sem.run_bind,cls_step,eqCls 9997]
  rfl
theorem cls_neq (x y:Int) (W:World):(binOp .neq 70 (.iface 77 (.agg #[.int .i64 x])) (.iface 77 (.agg #[.int .i64 y]))).run Try.prog W= .ok (.bool (!(x==y))) W:=by
  simp only [binOp,Sem.run_bind,cls_step,eqCls 9997]
  rfl
theorem kind_eql {s t:Int} (hs:kv s) (ht:kv t) (W:World):(binOp .eql 70 (kndV s) (kndV t)).run Try.prog W= .ok (.bool (decide (s=t))) W:=by
 rcases kv_cases hs with rfl|rfl|rfl|rfl|rfl|hs<;>rcases kv_cases ht with rfl|rfl|rfl|rfl|rfl|ht
 all_goals first
  |(rw [kndV_cls hs,kndV_cls ht,show decide (s=t)=(s - 8==t - 8) from by rw [Bool.eq_iff_iff,decide_eq_true_iff,beq_iff_eq];omega];exact cls_eql _ _ _)
  |(rw [kndV_cls hs,decide_eq_false (by omega)];kernel_rfl)
  |(rw [kndV_cls ht,decide_eq_false (by omega)];kernel_rfl)
  |kernel_rfl
theorem kind_neq {s t:Int} (hs:kv s) (ht:kv t) (W:World):(binOp .neq 70 (kndV s) (kndV t)).run Try.prog W= .ok (.bool (!decide (s=t))) W:=by
 rcases kv_cases hs with rfl|rfl|rfl|rfl|rfl|hs<;>rcases kv_cases ht with rfl|rfl|rfl|rfl|rfl|ht
 all_goals first
  |(rw [kndV_cls hs,kndV_cls ht,show decide (s=t)=(s - 8==t - 8) from by rw [Bool.eq_iff_iff,decide_eq_true_iff,beq_iff_eq];omega];exact cls_neq _ _ _)
  |(rw [kndV_cls hs,decide_eq_false (by omega)];kernel_rfl)
  |(rw [kndV_cls ht,decide_eq_false (by omega)];kernel_rfl)
  |kernel_rfl
theorem kind_nil {s:Int} (hs:kv s) (W:World):(binOp .eql 70 (kndV s) .nilIface).run Try.prog W= .ok (.bool false) W:=by
 rcases kv_cases hs with rfl|rfl|rfl|rfl|rfl|hs
 all_goals first
  |(rw [kndV_cls hs];kernel_rfl)
  |kernel_rfl
theorem nil_eql (W:World):(binOp .eql 70 .nilIface .nilIface).run Try.prog W= .ok (.bool true) W:=by kernel_rfl
theorem kndV_iface (t:Int): ∃u v,kndV t= .iface u v:=by
 unfold kndV;repeat (split;exact ⟨_,_,rfl⟩)
 exact ⟨_,_,rfl⟩
theorem guard_knd (t:Int) (op:BinOp) (T:TypeId) (x y:Operand) (v:Value):eqGuard op T x y (kndV t) v=pure ():=by
 obtain ⟨u,z,h⟩:=kndV_iface t;rw [h]
 cases op<;>cases v<;>rfl
theorem guard_nil (op:BinOp) (T:TypeId) (x:Operand) (c:Value) (v:Value):eqGuard op T x (.const c) .nilIface v=pure ():=by
  cases op<;>cases v<;>first|rfl|(simp [eqGuard])
theorem kind_null {s:Int} (hs:kv s) (W:World):(Instr.typeAssert (kndV s) 70 79 true).run Try.prog W= .ok (.tuple #[.agg #[],.bool (decide (s=2))]) W:=by
 rcases kv_cases hs with rfl|rfl|rfl|rfl|rfl|hs
 all_goals first
  |(rw [kndV_cls hs,decide_eq_false (by omega)];kernel_rfl)
  |kernel_rfl
theorem kind_int {s:Int} (hs:kv s) (W:World):(Instr.typeAssert (kndV s) 70 73 true).run Try.prog W= .ok (.tuple #[.agg #[],.bool (decide (s=1))]) W:=by
 rcases kv_cases hs with rfl|rfl|rfl|rfl|rfl|hs
 all_goals first
  |(rw [kndV_cls hs,decide_eq_false (by omega)];kernel_rfl)
  |kernel_rfl
theorem kind_arr {s:Int} (hs:kv s) (W:World):(Instr.typeAssert (kndV s) 70 75 true).run Try.prog W= .ok (.tuple #[.agg #[.bool (decide (s=4))],.bool (decide (s=3∨s=4))]) W:=by
 rcases kv_cases hs with rfl|rfl|rfl|rfl|rfl|hs
 all_goals first
  |(rw [kndV_cls hs,decide_eq_false (p:=s=4) (by omega),decide_eq_false (by omega)];kernel_rfl)
  |kernel_rfl
def clsOf (t:Int):Int:=if 8≤t then t - 8 else 0
theorem kind_class {s:Int} (hs:kv s) (W:World):(Instr.typeAssert (kndV s) 70 77 true).run Try.prog W= .ok (.tuple #[.agg #[.int .i64 (clsOf s)],.bool (decide (8≤s))]) W:=by
 rcases kv_cases hs with rfl|rfl|rfl|rfl|rfl|hs
 all_goals first
  |(rw [kndV_cls hs,decide_eq_true hs,show clsOf s=s - 8 from if_pos hs];kernel_rfl)
  |kernel_rfl
theorem nil_int (W:World):(Instr.typeAssert .nilIface 70 73 true).run Try.prog W= .ok (.tuple #[.agg #[],.bool false]) W:=by kernel_rfl
theorem nil_arr (W:World):(Instr.typeAssert .nilIface 70 75 true).run Try.prog W= .ok (.tuple #[.agg #[.bool false],.bool false]) W:=by kernel_rfl
theorem nil_class (W:World):(Instr.typeAssert .nilIface 70 77 true).run Try.prog W= .ok (.tuple #[.agg #[.int .i64 0],.bool false]) W:=by kernel_rfl
set_option maxHeartbeats 2000000 in
theorem impl_kindOf.calls (a0 a1:Int) (w:World) (h0:0≤a0) (h1:a0≤281474976710656):
  Calls Try.prog 51 #[.int .i64 a0,.int .i64 a1] w fun e w'=>e= .returned (kndO a0 a1)∧Drawn0 w w':=by
 by_cases c0:a1=0
 ·subst c0
  have HF:=aK (show kndO a0 0=kndV 0 from if_pos (by simp [kOk]));go_enter Try.func51,Try.ntmps51;go_wp2;go_ret;exact ⟨by rw [HF.out];rfl,Drawn0.refl _⟩
 by_cases c1:a1=1
 ·subst c1
  have HF:=aK (show kndO a0 1=kndV 1 from if_pos (by simp [kOk]));go_enter Try.func51,Try.ntmps51;go_wp2;go_ret;exact ⟨by rw [HF.out];rfl,Drawn0.refl _⟩
 by_cases c2:a1=2
 ·subst c2
  have HF:=aK (show kndO a0 2=kndV 2 from if_pos (by simp [kOk]));go_enter Try.func51,Try.ntmps51;go_wp2;go_ret;exact ⟨by rw [HF.out];rfl,Drawn0.refl _⟩
 by_cases c3:a1=3
 ·subst c3
  have HF:=aK (show kndO a0 3=kndV 3 from if_pos (by simp [kOk]));go_enter Try.func51,Try.ntmps51;go_wp2;go_ret;exact ⟨by rw [HF.out];rfl,Drawn0.refl _⟩
 by_cases c4:a1=4
 ·subst c4
  have HF:=aK (show kndO a0 4=kndV 4 from if_pos (by simp [kOk]));go_enter Try.func51,Try.ntmps51;go_wp2;go_ret;exact ⟨by rw [HF.out];rfl,Drawn0.refl _⟩
 have d0:(a1==0)=false:=beq_eq_false_iff_ne.2 c0
 have d1:(a1==1)=false:=beq_eq_false_iff_ne.2 c1
 have d2:(a1==2)=false:=beq_eq_false_iff_ne.2 c2
 have d3:(a1==3)=false:=beq_eq_false_iff_ne.2 c3
 have d4:(a1==4)=false:=beq_eq_false_iff_ne.2 c4
 by_cases c5:8≤a1
 ·by_cases c6 : a1 < 8 + a0
  ·have HF := aK (show kndO a0 a1 = .iface 77 (.agg #[.int .i64 (a1 - 8)]) from (if_pos (by simp [kOk]; omega)).trans (kndV_cls c5))
   have d5:decide (8≤a1)=true:=decide_eq_true c5
   have d6:decide (a1<8+a0)=true:=decide_eq_true c6
   clear c0 c1 c2 c3 c4;go_enter Try.func51,Try.ntmps51;go_wp2;go_ret;exact ⟨by rw [HF.out];rfl,Drawn0.refl _⟩
  ·have HF := aK (show kndO a0 a1 = .nilIface from if_neg (by simp [kOk]; omega))
   have d5:decide (8≤a1)=true:=decide_eq_true c5
   have d6:decide (a1<8+a0)=false:=decide_eq_false c6
   clear c0 c1 c2 c3 c4;go_enter Try.func51,Try.ntmps51;go_wp2;go_ret;exact ⟨by rw [HF.out];rfl,Drawn0.refl _⟩
 ·have HF := aK (show kndO a0 a1 = .nilIface from if_neg (by simp [kOk]; omega))
  have d5:decide (8≤a1)=false:=decide_eq_false c5
  clear c0 c1 c2 c3 c4;go_enter Try.func51,Try.ntmps51;go_wp2;go_ret;exact ⟨by rw [HF.out];rfl,Drawn0.refl _⟩
def kOkF.f (n t:Int):Option Bool:=if 0≤n∧n≤281474976710656 then some (kOk n t) else none
theorem guard_some (u:TypeId) (z:Value) (op:BinOp) (T:TypeId) (x:Operand) (c:Value) (v:Value):eqGuard op T x (.const c) (.iface u z) v=pure ():=by
  cases op<;>rfl
theorem some_eql (u:TypeId) (z:Value) (W:World):(binOp .eql 70 (.iface u z) .nilIface).run Try.prog W= .ok (.bool false) W:=by kernel_rfl
theorem kOkF.true_calls (a0 a1:Int) (w:World) (h:kOkF.f a0 a1=some true):
  Calls Try.prog 51 #[.int .i64 a0,.int .i64 a1] w fun e w'=>(∃u z,e= .returned (.iface u z))∧Drawn0 w w':=by
 unfold kOkF.f at h
 split at h
 case isFalse=>simp at h
 case isTrue hb=>
  have hk:=Option.some.inj h;refine (impl_kindOf.calls a0 a1 w hb.1 hb.2).mono ?_;rintro e w' ⟨rfl,d⟩;obtain ⟨u,z,q⟩:=kndV_iface a1;exact ⟨⟨u,z,by rw [show kndO a0 a1=kndV a1 from if_pos hk,q]⟩,d⟩
theorem kOkF.false_calls (a0 a1:Int) (w:World) (h:kOkF.f a0 a1=some false):
  Calls Try.prog 51 #[.int .i64 a0,.int .i64 a1] w fun e w'=>e= .returned .nilIface∧Drawn0 w w':=by
 unfold kOkF.f at h
 split at h
 case isFalse=>simp at h
 case isTrue hb=>
  have hk:=Option.some.inj h;refine (impl_kindOf.calls a0 a1 w hb.1 hb.2).mono ?_;rintro e w' ⟨rfl,d⟩;exact ⟨by rw [show kndO a0 a1= .nilIface from if_neg (by rw [hk];decide)],d⟩
def impl_fieldType.f (a0 a1:Int):Option Bool:=if 0≤a0∧a0≤281474976710656 then some (kOk a0 a1&&decide (a1=1∨a1=3∨a1=4∨8≤a1)) else none
set_option maxHeartbeats 2000000 in
theorem impl_fieldType.calls (a0:Int) (a1:Int) (r:Bool) (w:World) (h:impl_fieldType.f a0 a1=some r):
  Calls Try.prog 39 #[.int .i64 a0,.int .i64 a1] w fun e w'=>e= .returned (.bool r)∧Drawn0 w w':=by
 unfold impl_fieldType.f at h
 split at h
 case isFalse=>simp at h
 case isTrue hb=>
  obtain ⟨h0,h1⟩:=hb;have HR:=aK (Option.some.inj h);clear h;by_cases hk:kOk a0 a1=true
  ·have hv : kv a1 := by simp [kOk] at hk; unfold kv; omega
   have HO:=aK (show kndO a0 a1=kndV a1 from if_pos hk);have t1:=kind_int hv;have t2:=kind_arr hv;have t3:=kind_class hv;have HK:=aK hk;clear hk hv;go_enter Try.func39,Try.ntmps39
   go_wp2_with (go_at_call 51;refine (impl_kindOf.calls a0 a1 _ h0 h1).mono ?_;rintro e w' ⟨rfl,⟨n,rfl⟩⟩;rw [HO.out])
   ·go_ret
    exact ⟨by show Ending.returned (.bool true)=_;rw [←HR.out,HK.out,decide_eq_true (by omega)];rfl,Drawn0.step (Drawn0.refl _) _⟩
   ·go_ret
    exact ⟨by show Ending.returned (.bool false)=_;rw [←HR.out,HK.out,decide_eq_false (by omega)];rfl,Drawn0.step (Drawn0.refl _) _⟩
  ·have HO := aK (show kndO a0 a1 = .nilIface from if_neg hk)
   have HK:=aK (Bool.not_eq_true _ |>.mp hk);have t1:=nil_int;have t2:=nil_arr;have t3:=nil_class;clear hk;go_enter Try.func39,Try.ntmps39
   go_wp2_with (go_at_call 51;refine (impl_kindOf.calls a0 a1 _ h0 h1).mono ?_;rintro e w' ⟨rfl,⟨n,rfl⟩⟩;rw [HO.out])
   go_ret;exact ⟨by show Ending.returned (.bool false)=_;rw [←HR.out,HK.out];rfl,Drawn0.step (Drawn0.refl _) _⟩
mutual
def impl_ClassesOk.j0:Nat→List (S48)→Bool→Option (Bool)
 |0,_,_=>none
 |k+1,x0,x15=>if x15=true then (some false) else (if 0<(x0.length:Int) then (if ((rd_T48 x0 0).f0)=(-1) then (impl_ClassesOk.j1 k x0 ((((rd_T48 x0 0).f1).length:Int) !=0)) else (impl_ClassesOk.j1 k x0 true)) else (none))
def impl_ClassesOk.j1:Nat→List (S48)→Bool→Option (Bool)
 |0,_,_=>none
 |k+1,x0,x28=>if x28=true then (some false) else (if 1<(x0.length:Int) then (if ((rd_T48 x0 1).f0)=0 then (if (((rd_T48 x0 1).f1).length:Int)=1 then (if 0<(((rd_T48 x0 1).f1).length:Int) then (impl_ClassesOk.j2 k x0 ((rd ((rd_T48 x0 1).f1) 0) !=1)) else (none)) else (impl_ClassesOk.j2 k x0 true)) else (impl_ClassesOk.j2 k x0 true)) else (none))
def impl_ClassesOk.j2:Nat→List (S48)→Bool→Option (Bool)
 |0,_,_=>none
 |k+1,x0,x47=>if x47=true then (some false) else (impl_ClassesOk.l0 k x0 x0 (x0.length:Int) 0)
def impl_ClassesOk.l0:Nat→List (S48)→List (S48)→Int→Int→Option (Bool)
 |0,_,_,_,_=>none
 |k+1,x0,x48,x49,x50=>if x50<x49 then (if 0≤x50 then (if x50<(x48.length:Int) then (if x50>1 then (if ((rd_T48 x48 x50).f0)<0 then (impl_ClassesOk.j4 k x0 x48 x49 x50 true ((rd_T48 x48 x50).f0) ((rd_T48 x48 x50).f1)) else (impl_ClassesOk.j4 k x0 x48 x49 x50 (decide (((rd_T48 x48 x50).f0)≥x50)) ((rd_T48 x48 x50).f0) ((rd_T48 x48 x50).f1))) else (impl_ClassesOk.j4 k x0 x48 x49 x50 false ((rd_T48 x48 x50).f0) ((rd_T48 x48 x50).f1))) else (none)) else (none)) else (some true)
def impl_ClassesOk.j4:Nat→List (S48)→List (S48)→Int→Int→Bool→Int→List Int→Option (Bool)
 |0,_,_,_,_,_,_,_=>none
 |k+1,x0,x48,x49,x50,x67,x250000,x250001=>if x67=true then (some false) else (if (x250001.length:Int)>2 then (some false) else (impl_ClassesOk.l1 k x0 x48 x49 x50 x250001 (x250001.length:Int) 0))
def impl_ClassesOk.l1:Nat→List (S48)→List (S48)→Int→Int→List Int→Int→Int→Option (Bool)
 |0,_,_,_,_,_,_,_=>none
 |k+1,x0,x48,x49,x50,x73,x74,x75=>if x75<x74 then (if 0≤x75 then (if x75<(x73.length:Int) then ((impl_fieldType.f (x0.length:Int) (rd x73 x75)).bind fun t251=>(if t251=true then (impl_ClassesOk.l1 k x0 x48 x49 x50 x73 x74 (wrap64 (x75+1))) else (some false))) else (none)) else (none)) else (impl_ClassesOk.l0 k x0 x48 x49 (wrap64 (x50+1)))
end
def impl_ClassesOk.f (k:Nat) (l0:List (S48)):Option (Bool):=if (l0.length:Int)<2 then (impl_ClassesOk.j0 k l0 true) else (impl_ClassesOk.j0 k l0 (decide ((l0.length:Int)>5)))
set_option maxHeartbeats 8000000 in
set_option maxRecDepth 100000 in
theorem impl_ClassesOk.calls (k : Nat) (A0 : Option Addr) (c0 : Nat) (l0 : List (S48)) (r : Bool) (w : World) (hr0 : Kd.C k48 w A0 l0.length l0) (hc0 : l0.length ≤ c0) (h : impl_ClassesOk.f k l0 = some r) :
  Calls Try.prog 26 #[.slice A0 l0.length c0] w fun e w'=>e= .returned (.bool r)∧Below w.heap.size w w':=by
 have hu48:=Try.underlying48;have HR0:=aK hr0;have HC0:=aK hc0;clear hr0 hc0;have HB:=aK (Below.refl w.heap.size w);have H:(if (l0.length:Int)<2 then (impl_ClassesOk.j0 k l0 true) else (impl_ClassesOk.j0 k l0 (decide ((l0.length:Int)>5))))=some r:=h
 clear h;have HC2:=aK H;clear H;go_enter Try.func26,Try.ntmps26
 go_upto_region 1 with (fail)
 go_cut [15] (fun v15 wc=> ∃(kq:Nat) (x15_1:Bool),v15= .bool x15_1∧Aside0 (impl_ClassesOk.j0 kq l0 x15_1=some r)∧Aside0 (kq≤k)∧Aside0 (Below w.heap.size w wc))
 case first=>
  have H:=HC2.out;clear HC2;by_cases c3:(l0.length:Int)<2
  ·rw [if_pos c3] at H
   have c3b0:decide ((l0.length:Int)<2)=true:=decide_eq_true c3
   have c3b1:decide (l0.length<2)=true:=decide_eq_true (by omega)
   clear c3
   (first|rw [c3b0]|(simp only [i64_w,i32_w];rw [c3b0])|skip)
   have H':=aK H;clear H;go_wp2;go_meet
   case rel=>exact ⟨_,(true),zz9,H',⟨by first|omega|exact Nat.le_refl _⟩,⟨by repeat (first|(with_reducible first|exact HB.out|apply below_alloc|apply pw_below_drewN|apply below_drew1)|exact HB.out)⟩⟩
  ·rw [if_neg c3] at H
   have c3b0:decide ((l0.length:Int)<2)=false:=decide_eq_false c3
   have c3b1:decide (l0.length<2)=false:=decide_eq_false (by omega)
   clear c3
   (first|rw [c3b0]|(simp only [i64_w,i32_w];rw [c3b0])|skip)
   have H':=aK H;clear H;go_wp2;go_meet
   case rel=>exact ⟨_,(decide ((l0.length:Int)>5)),zz9,H',⟨by first|omega|exact Nat.le_refl _⟩,⟨by repeat (first|(with_reducible first|exact HB.out|apply below_alloc|apply pw_below_drewN|apply below_drew1)|exact HB.out)⟩⟩
 case rest =>
  clear HC2;(try clear c2);(try clear p2);(try clear c3);(try clear c3b0);(try clear c3b1);obtain ⟨kq,x15_1,rfl,HA,HJ1,HB⟩:=hcut
  cases kq with
  |zero=>exact absurd HA.out (by simp [impl_ClassesOk.j0])
  | succ kj1 =>
   have H:=HA.out;clear HA;simp only [impl_ClassesOk.j0] at H;by_cases c4:x15_1=true
   ·subst c4
    rw [if_pos rfl] at H;obtain rfl:=Option.some.inj H;go_wp2;go_ret;exact ⟨zz4,zz1⟩
   ·replace c4 := Bool.eq_false_iff.mpr c4
    subst c4;rw [if_neg (show¬(false=true) by decide)] at H;have HC5:=aK H;clear H
    go_upto_region 3 with (fail)
    go_cut [28] (fun v28 wc=> ∃(kq:Nat) (x28_4:Bool),v28= .bool x28_4∧Aside0 (impl_ClassesOk.j1 kq l0 x28_4=some r)∧Aside0 (kq≤kj1)∧Aside0 (Below w.heap.size w wc))
    case first=>
     have H:=HC5.out;clear HC5;by_cases c6:0<(l0.length:Int)
     ·rw [if_pos c6] at H
      have c6b0:decide (0<(l0.length:Int))=true:=decide_eq_true c6
      have c6b1:decide (0<l0.length)=true:=decide_eq_true (by omega)
      clear c6
      (first|rw [c6b0]|(simp only [i64_w,i32_w];rw [c6b0])|skip)
      by_cases c7:((rd_T48 l0 0).f0)=(-1)
      ·rw [if_pos c7] at H
       have c7b0:(((rd_T48 l0 0).f0)==(-1))=true:=beq_iff_eq.mpr c7
       have c7b1:(((rd_T48 l0 0).f0) !=(-1))=false:=bne_eq_false_iff_eq.mpr c7
       clear c7;have H':=aK H;clear H;have p243:0≤(0:Int):=(by omega)
       have q243:0<(l0.length:Int):=of_decide_eq_true zz6
       obtain ⟨ad243,A243_1,c243_1,e243,hx243_0,hx243_1,hl243_1,hi243_1⟩:=at_T48 HR0.out 0 p243 q243
       cases e243
       have qi243:(0<l0.length)=True:=eq_true (by omega)
       (try rw [show ((0:Int)).toNat=0 from rfl] at hx243_0)
       (try rw [show 0*2=0 from rfl] at hx243_0)
       (try rw [Addr.add_zero'] at hx243_0)
       (try rw [show ((0:Int)).toNat=0 from rfl] at hx243_1)
       (try rw [show 0*2=0 from rfl] at hx243_1)
       (try rw [Addr.add_zero'] at hx243_1)
       replace hx243_0:=(HB.out.cell (World.block_lt_of_cell? w _ hx243_0)).trans hx243_0;replace hx243_1:=(HB.out.cell (World.block_lt_of_cell? w _ hx243_1)).trans hx243_1;have HR243_1:=aK hi243_1;have HC243_1:=aK hl243_1;clear hi243_1 hl243_1;replace p243:=eq_true p243;replace q243:=eq_true q243;have p244:0≤(0:Int):=(by omega)
       have q244:0<(l0.length:Int):=of_decide_eq_true zz6
       obtain ⟨ad244,A244_1,c244_1,e244,hx244_0,hx244_1,hl244_1,hi244_1⟩:=at_T48 HR0.out 0 p244 q244;obtain rfl:ad243=ad244:=(by injection e244);have qi244:(0<l0.length)=True:=eq_true (by omega)
       (try rw [show ((0:Int)).toNat=0 from rfl] at hx244_0)
       (try rw [show 0*2=0 from rfl] at hx244_0)
       (try rw [Addr.add_zero'] at hx244_0)
       (try rw [show ((0:Int)).toNat=0 from rfl] at hx244_1)
       (try rw [show 0*2=0 from rfl] at hx244_1)
       (try rw [Addr.add_zero'] at hx244_1)
       replace hx244_0:=(HB.out.cell (World.block_lt_of_cell? w _ hx244_0)).trans hx244_0;replace hx244_1:=(HB.out.cell (World.block_lt_of_cell? w _ hx244_1)).trans hx244_1;have HR244_1:=aK hi244_1;have HC244_1:=aK hl244_1;clear hi244_1 hl244_1;replace p244:=eq_true p244;replace q244:=eq_true q244;have ea_:=Option.some.inj (hx243_1.symm.trans hx244_1);injection ea_ with ea_ en_ ec_;subst ea_;subst ec_;clear en_;go_wp2;go_meet
       case rel=>exact ⟨_,(((((rd_T48 l0 0).f1).length:Int) !=0)),zz9,H',⟨by have:=HJ1.out;first|omega|exact Nat.le_refl _⟩,⟨by repeat (first|(with_reducible first|exact HB.out|apply below_alloc|apply pw_below_drewN|apply below_drew1)|exact HB.out)⟩⟩
      ·rw [if_neg c7] at H
       have c7b0:(((rd_T48 l0 0).f0)==(-1))=false:=beq_eq_false_iff_ne.mpr c7
       have c7b1:(((rd_T48 l0 0).f0) !=(-1))=true:=bne_iff_ne.mpr c7
       have H':=aK H;clear H;have p243:0≤(0:Int):=(by omega)
       have q243:0<(l0.length:Int):=of_decide_eq_true zz6
       obtain ⟨ad243,A243_1,c243_1,e243,hx243_0,hx243_1,hl243_1,hi243_1⟩:=at_T48 HR0.out 0 p243 q243
       cases e243
       have qi243:(0<l0.length)=True:=eq_true (by omega)
       (try rw [show ((0:Int)).toNat=0 from rfl] at hx243_0)
       (try rw [show 0*2=0 from rfl] at hx243_0)
       (try rw [Addr.add_zero'] at hx243_0)
       (try rw [show ((0:Int)).toNat=0 from rfl] at hx243_1)
       (try rw [show 0*2=0 from rfl] at hx243_1)
       (try rw [Addr.add_zero'] at hx243_1)
       replace hx243_0:=(HB.out.cell (World.block_lt_of_cell? w _ hx243_0)).trans hx243_0;replace hx243_1:=(HB.out.cell (World.block_lt_of_cell? w _ hx243_1)).trans hx243_1;have HR243_1:=aK hi243_1;have HC243_1:=aK hl243_1;clear hi243_1 hl243_1;replace p243:=eq_true p243;replace q243:=eq_true q243;go_wp2;go_meet
       case rel=>exact ⟨_,(true),zz9,H',⟨by have:=HJ1.out;first|omega|exact Nat.le_refl _⟩,⟨by repeat (first|(with_reducible first|exact HB.out|apply below_alloc|apply pw_below_drewN|apply below_drew1)|exact HB.out)⟩⟩
     ·rw [if_neg c6] at H
      exact absurd H (by simp)
    case rest =>
     clear HC5;(try clear c2);(try clear p2);(try clear q2);(try clear hx2);(try clear qi2);(try clear c3);(try clear c3b0);(try clear c3b1);(try clear c4);(try clear c6);(try clear c6b0);(try clear c6b1);(try clear c7);(try clear c7b0);(try clear c7b1);(try clear hx243_0);(try clear hx243_1);(try clear hx244_0);(try clear hx244_1);(try clear p2);(try clear p243);(try clear p244);(try clear q243);(try clear q244);obtain ⟨kq,x28_4,rfl,HA,HJ4,HB⟩:=hcut
     cases kq with
     |zero=>exact absurd HA.out (by simp [impl_ClassesOk.j1])
     | succ kj4 =>
      have H:=HA.out;clear HA;simp only [impl_ClassesOk.j1] at H;by_cases c8:x28_4=true
      ·subst c8
       rw [if_pos rfl] at H;obtain rfl:=Option.some.inj H;go_wp2;go_ret;exact ⟨zz4,zz1⟩
      ·replace c8 := Bool.eq_false_iff.mpr c8
       subst c8;rw [if_neg (show¬(false=true) by decide)] at H;by_cases c9:1<(l0.length:Int)
       ·rw [if_pos c9] at H
        have c9b0:decide (1<(l0.length:Int))=true:=decide_eq_true c9
        have c9b1:decide (1<l0.length)=true:=decide_eq_true (by omega)
        clear c9;have HC10:=aK H;clear H;have p245:0≤(1:Int):=(by omega)
        have q245:1<(l0.length:Int):=of_decide_eq_true zz6
        obtain ⟨ad245,A245_1,c245_1,e245,hx245_0,hx245_1,hl245_1,hi245_1⟩:=at_T48 HR0.out 1 p245 q245
        cases e245
        (try simp only [show (1:Int).toNat=1 from rfl,Nat.reduceMul,Nat.reduceEqDiff,Go.Addr.add,↓reduceIte] at hx245_0)
        (try simp only [show (1:Int).toNat=1 from rfl,Nat.reduceMul,Nat.reduceEqDiff,Go.Addr.add,↓reduceIte] at hx245_1)
        have qi245:(1<l0.length)=True:=eq_true (by omega)
        (try rw [show ((1:Int)).toNat=1 from rfl] at hx245_0)
        (try rw [show 1*2=2 from rfl] at hx245_0)
        (try rw [show ((1:Int)).toNat=1 from rfl] at hx245_1)
        (try rw [show 1*2=2 from rfl] at hx245_1)
        replace hx245_0:=(HB.out.cell (World.block_lt_of_cell? w _ hx245_0)).trans hx245_0;replace hx245_1:=(HB.out.cell (World.block_lt_of_cell? w _ hx245_1)).trans hx245_1;have HR245_1:=aK hi245_1;have HC245_1:=aK hl245_1;clear hi245_1 hl245_1;replace p245:=eq_true p245;replace q245:=eq_true q245
        go_upto_region 6 with (first|((with_reducible refine gate_dst (N:=3) rfl ?_);(try (refine gate_guard (by rfl) ?_;dsimp only));refine box_event ?hg (N:=3) ?hd (cs:= #[.int .i64 0,.slice none 0 0]) (t:=48) ?hr ?_;(case hd=>rfl);(case hg=>rfl);(case hr=>first|(go_simp;done)|(go_simp;rfl));intro gb246 hg w11 hbox hb;have BK246:=aK (hbox);have GW246:=aK ((by rw [hg];exact (below_size zz1):w.heap.size≤gb246));have GE246:=aK ((by rw [hg];exact (below_size zz1):w.heap.size≤gb246));replace HB:=aK (below_step zz1 hb);clear hb hbox hg;obtain ⟨hcz12_0,hcz12_1,hfz12_0,hfz12_1⟩:=cbf2 BK246))
        (try simp only [Act.put,List.setIfInBounds_toArray,List.set_cons_zero,List.set_cons_succ])
        go_cut [47] (fun v47 wc=> ∃(kq:Nat) (x47_9:Bool),v47= .bool x47_9∧Aside0 (impl_ClassesOk.j2 kq l0 x47_9=some r)∧Aside0 (kq≤kj4)∧Aside0 (wc.heap[gb246]? =some (.cells #[.int .i64 ((rd_T48 l0 1).f0),(.slice A245_1 ((rd_T48 l0 1).f1).length c245_1)] 48 (0,0)))∧Aside0 (Below w.heap.size w wc))
        case first=>
         have H:=HC10.out;clear HC10;by_cases c13:((rd_T48 l0 1).f0)=0
         ·rw [if_pos c13] at H
          have c13b0:(((rd_T48 l0 1).f0)==0)=true:=beq_iff_eq.mpr c13
          have c13b1:(((rd_T48 l0 1).f0) !=0)=false:=bne_eq_false_iff_eq.mpr c13
          clear c13
          (first|rw [c13b0]|(simp only [i64_w,i32_w];rw [c13b0])|skip)
          by_cases c14:(((rd_T48 l0 1).f1).length:Int)=1
          ·rw [if_pos c14] at H
           have c14b0:((((rd_T48 l0 1).f1).length:Int)==1)=true:=beq_iff_eq.mpr c14
           have c14b1:((((rd_T48 l0 1).f1).length:Int) !=1)=false:=bne_eq_false_iff_eq.mpr c14
           clear c14;by_cases c15:0<(((rd_T48 l0 1).f1).length:Int)
           ·rw [if_pos c15] at H
            have c15b0:decide (0<(((rd_T48 l0 1).f1).length:Int))=true:=decide_eq_true c15
            have c15b1:decide (0<((rd_T48 l0 1).f1).length)=true:=decide_eq_true (by omega)
            clear c15;have H':=aK H;clear H;obtain ⟨hcz16_0,hcz16_1,hfz16_0,hfz16_1⟩:=cbf2 BK246;have p247:0≤(0:Int):=(by omega)
            have q247:0<(((rd_T48 l0 1).f1).length:Int):=of_decide_eq_true zz6
            obtain ⟨ad247,e247,hx247_0⟩:=Kd.at_int HR245_1.out 0 p247 q247
            cases e247
            have qi247:(0<((rd_T48 l0 1).f1).length)=True:=eq_true (by omega)
            (try rw [show ((0:Int)).toNat=0 from rfl] at hx247_0)
            (try rw [Addr.add_zero'] at hx247_0)
            have hn247_0:ad247.block≠gb246:=Nat.ne_of_lt (Nat.lt_of_lt_of_le (by have:=World.block_lt_of_cell? _ _ hx247_0;first|rwa [add_block] at this|exact this) GW246.out)
            have hn247_1:ad247.block≠gb246:=Nat.ne_of_lt (Nat.lt_of_lt_of_le (by have:=World.block_lt_of_cell? _ _ hx247_0;first|rwa [add_block] at this|exact this) GW246.out)
            replace hx247_0:=(HB.out.cell (World.block_lt_of_cell? w _ hx247_0)).trans hx247_0;replace hx247_0:=(cell_far (p:=⟨gb246,0,none⟩) (by first|(rw [add_block];exact hn247_0)|(show (Addr.add _ _).block≠_;rw [add_block];exact hn247_0)|exact hn247_0) (.int .i64 ((rd_T48 l0 1).f0))).trans hx247_0;replace hx247_0:=(cell_far (p:=⟨gb246,1,none⟩) (by first|(rw [add_block];exact hn247_1)|(show (Addr.add _ _).block≠_;rw [add_block];exact hn247_1)|exact hn247_1) (.slice (some ad247) ((rd_T48 l0 1).f1).length c245_1)).trans hx247_0;clear hn247_0;clear hn247_1;replace p247:=eq_true p247;replace q247:=eq_true q247;go_wp2;go_meet
            case rel=>exact ⟨_,(((rd ((rd_T48 l0 1).f1) 0) !=1)),zz9,H',⟨by have:=HJ1.out;have:=HJ4.out;first|omega|exact Nat.le_refl _⟩,⟨by (with_reducible repeat (first|refine blk_drewN ?_ _|refine blk_drew ?_|refine blk_alloc ?_ _));refine blk_put (cs:= #[.int .i64 ((rd_T48 l0 1).f0),.slice none 0 0]) ?_ 1 _ rfl;(with_reducible repeat (first|refine blk_drewN ?_ _|refine blk_drew ?_|refine blk_alloc ?_ _));refine blk_put (cs:= #[.int .i64 0,.slice none 0 0]) ?_ 0 _ rfl;(with_reducible repeat (first|refine blk_drewN ?_ _|refine blk_drew ?_|refine blk_alloc ?_ _));exact BK246.out⟩,⟨by repeat (first|(with_reducible first|exact HB.out|apply below_alloc|apply pw_below_drewN|apply below_drew1|refine below_set ?_ GE246.out)|exact HB.out)⟩⟩
           ·rw [if_neg c15] at H
            exact absurd H (by simp)
          ·rw [if_neg c14] at H
           have c14b0:((((rd_T48 l0 1).f1).length:Int)==1)=false:=beq_eq_false_iff_ne.mpr c14
           have c14b1:((((rd_T48 l0 1).f1).length:Int) !=1)=true:=bne_iff_ne.mpr c14
           have H':=aK H;clear H;obtain ⟨hcz17_0,hcz17_1,hfz17_0,hfz17_1⟩:=cbf2 BK246;go_wp2;go_meet
           case rel=>exact ⟨_,(true),zz9,H',⟨by have:=HJ1.out;have:=HJ4.out;first|omega|exact Nat.le_refl _⟩,⟨by (with_reducible repeat (first|refine blk_drewN ?_ _|refine blk_drew ?_|refine blk_alloc ?_ _));refine blk_put (cs:= #[.int .i64 ((rd_T48 l0 1).f0),.slice none 0 0]) ?_ 1 _ rfl;(with_reducible repeat (first|refine blk_drewN ?_ _|refine blk_drew ?_|refine blk_alloc ?_ _));refine blk_put (cs:= #[.int .i64 0,.slice none 0 0]) ?_ 0 _ rfl;(with_reducible repeat (first|refine blk_drewN ?_ _|refine blk_drew ?_|refine blk_alloc ?_ _));exact BK246.out⟩,⟨by repeat (first|(with_reducible first|exact HB.out|apply below_alloc|apply pw_below_drewN|apply below_drew1|refine below_set ?_ GE246.out)|exact HB.out)⟩⟩
         ·rw [if_neg c13] at H
          have c13b0:(((rd_T48 l0 1).f0)==0)=false:=beq_eq_false_iff_ne.mpr c13
          have c13b1:(((rd_T48 l0 1).f0) !=0)=true:=bne_iff_ne.mpr c13
          (first|rw [c13b0]|(simp only [i64_w,i32_w];rw [c13b0])|skip)
          have H':=aK H;clear H;obtain ⟨hcz18_0,hcz18_1,hfz18_0,hfz18_1⟩:=cbf2 BK246;go_wp2;go_meet
          case rel=>exact ⟨_,(true),zz9,H',⟨by have:=HJ1.out;have:=HJ4.out;first|omega|exact Nat.le_refl _⟩,⟨by (with_reducible repeat (first|refine blk_drewN ?_ _|refine blk_drew ?_|refine blk_alloc ?_ _));refine blk_put (cs:= #[.int .i64 ((rd_T48 l0 1).f0),.slice none 0 0]) ?_ 1 _ rfl;(with_reducible repeat (first|refine blk_drewN ?_ _|refine blk_drew ?_|refine blk_alloc ?_ _));refine blk_put (cs:= #[.int .i64 0,.slice none 0 0]) ?_ 0 _ rfl;(with_reducible repeat (first|refine blk_drewN ?_ _|refine blk_drew ?_|refine blk_alloc ?_ _));exact BK246.out⟩,⟨by repeat (first|(with_reducible first|exact HB.out|apply below_alloc|apply pw_below_drewN|apply below_drew1|refine below_set ?_ GE246.out)|exact HB.out)⟩⟩
        case rest =>
         clear HC10;(try clear c1);(try clear c2);(try clear p2);(try clear q2);(try clear hx2);(try clear qi2);(try clear c3);(try clear c3b0);(try clear c3b1);(try clear c4);(try clear c6);(try clear c6b0);(try clear c6b1);(try clear c7);(try clear c7b0);(try clear c7b1);(try clear c8);(try clear c9);(try clear c9b0);(try clear c9b1);(try clear c13);(try clear c13b0);(try clear c13b1);(try clear c14);(try clear c14b0);(try clear c14b1);(try clear c15);(try clear c15b0);(try clear c15b1);(try clear hcz12_0);(try clear hcz12_1);(try clear hcz16_0);(try clear hcz16_1);(try clear hcz17_0);(try clear hcz17_1);(try clear hcz18_0);(try clear hcz18_1);(try clear hfz12_0);(try clear hfz12_1);(try clear hfz16_0);(try clear hfz16_1);(try clear hfz17_0);(try clear hfz17_1);(try clear hfz18_0);(try clear hfz18_1);(try clear hx243_0);(try clear hx243_1);(try clear hx244_0);(try clear hx244_1);(try clear hx245_0);(try clear hx245_1);(try clear hx247_0);(try clear p2);(try clear p243);(try clear p244);(try clear p245);(try clear p247);(try clear q2);(try clear q243);(try clear q244);(try clear q245);(try clear q247);obtain ⟨kq,x47_9,rfl,HA,HJ9,BK246,HB⟩:=hcut
         cases kq with
         |zero=>exact absurd HA.out (by simp [impl_ClassesOk.j2])
         | succ kj9 =>
          have H:=HA.out;clear HA;simp only [impl_ClassesOk.j2] at H;by_cases c19:x47_9=true
          ·subst c19
           rw [if_pos rfl] at H;obtain rfl:=Option.some.inj H;go_wp2;go_ret;exact ⟨zz4,(by repeat (first|(with_reducible first|exact HB.out|apply below_alloc|apply pw_below_drewN|apply below_drew1|refine below_set ?_ GE246.out)|exact HB.out))⟩
          ·replace c19 := Bool.eq_false_iff.mpr c19
           subst c19;rw [if_neg (show¬(false=true) by decide)] at H;have H':=aK H;clear H;go_wp2
           go_loopg [50] kj9 (fun kq v50 w'=> ∃(x50_4:Int),v50= .int .i64 x50_4∧Aside0 (impl_ClassesOk.l0 kq l0 l0 (l0.length:Int) x50_4=some r)∧Aside0 (kq≤kj9)∧Aside0 (w'.heap[gb246]? =some (.cells #[.int .i64 ((rd_T48 l0 1).f0),(.slice A245_1 ((rd_T48 l0 1).f1).length c245_1)] 48 (0,0)))∧Aside0 (Below w.heap.size w w'))
           case atStart=>exact ⟨(0),zz9,H',⟨Nat.le_refl _⟩,⟨by (with_reducible repeat (first|refine blk_drewN ?_ _|refine blk_drew ?_|refine blk_alloc ?_ _));exact BK246.out⟩,⟨by repeat (first|(with_reducible first|exact HB.out|apply below_alloc|apply pw_below_drewN|apply below_drew1|refine below_set ?_ GE246.out)|exact HB.out)⟩⟩
           case round =>
            clear H';(try clear c1);(try clear c2);(try clear p2);(try clear q2);(try clear hx2);(try clear qi2);(try clear c3);(try clear c3b0);(try clear c3b1);(try clear c4);(try clear c6);(try clear c6b0);(try clear c6b1);(try clear c7);(try clear c7b0);(try clear c7b1);(try clear c8);(try clear c9);(try clear c9b0);(try clear c9b1);(try clear c13);(try clear c13b0);(try clear c13b1);(try clear c14);(try clear c14b0);(try clear c14b1);(try clear c15);(try clear c15b0);(try clear c15b1);(try clear c19);(try clear hcz12_0);(try clear hcz12_1);(try clear hcz16_0);(try clear hcz16_1);(try clear hcz17_0);(try clear hcz17_1);(try clear hcz18_0);(try clear hcz18_1);(try clear hfz12_0);(try clear hfz12_1);(try clear hfz16_0);(try clear hfz16_1);(try clear hfz17_0);(try clear hfz17_1);(try clear hfz18_0);(try clear hfz18_1);(try clear hx243_0);(try clear hx243_1);(try clear hx244_0);(try clear hx244_1);(try clear hx245_0);(try clear hx245_1);(try clear hx247_0);(try clear p2);(try clear p243);(try clear p244);(try clear p245);(try clear p247);(try clear q2);(try clear q243);(try clear q244);(try clear q245);(try clear q247);obtain ⟨x50_4,rfl,HA,HK4,BK246,HB⟩:=hrel
            cases gk with
            |zero=>exact absurd HA.out (by simp [impl_ClassesOk.l0])
            | succ k4 =>
             have H:=HA.out;clear HA;simp only [impl_ClassesOk.l0] at H;by_cases c20:x50_4<(l0.length:Int)
             ·rw [if_pos c20] at H
              have c20b0:decide (x50_4<(l0.length:Int))=true:=decide_eq_true c20
              clear c20;by_cases c21:0≤x50_4
              ·rw [if_pos c21] at H
               have c21b0:decide (0≤x50_4)=true:=decide_eq_true c21
               clear c21;by_cases c22:x50_4<(l0.length:Int)
               ·rw [if_pos c22] at H
                have c22b0:decide (x50_4<(l0.length:Int))=true:=decide_eq_true c22
                clear c22;have HC23:=aK H;clear H;have p248:0≤(x50_4:Int):=of_decide_eq_true zz6
                have q248:x50_4<(l0.length:Int):=of_decide_eq_true zz6
                obtain ⟨ad248,A248_1,c248_1,e248,hx248_0,hx248_1,hl248_1,hi248_1⟩:=at_T48 HR0.out x50_4 p248 q248;obtain rfl:ad245=ad248:=(by injection e248);replace hx248_0:=(HB.out.cell (World.block_lt_of_cell? w _ hx248_0)).trans hx248_0;replace hx248_1:=(HB.out.cell (World.block_lt_of_cell? w _ hx248_1)).trans hx248_1;have HR248_1:=aK hi248_1;have HC248_1:=aK hl248_1;clear hi248_1 hl248_1;replace p248:=eq_true p248;replace q248:=eq_true q248
                go_upto_region 11 with (first|((with_reducible refine gate_dst (N:=5) rfl ?_);(try (refine gate_guard (by rfl) ?_;dsimp only));refine box_event ?hg (N:=5) ?hd (cs:= #[.int .i64 0,.slice none 0 0]) (t:=48) ?hr ?_;(case hd=>rfl);(case hg=>rfl);(case hr=>first|(go_simp;done)|(go_simp;rfl));intro gb249 hg w24 hbox hb;have BK249:=aK (hbox);have GW249:=aK ((by rw [hg];exact (below_size (by repeat (first|(with_reducible first|exact HB.out|apply below_alloc|apply pw_below_drewN|apply below_drew1|refine below_set ?_ GE246.out)|exact HB.out))):w.heap.size≤gb249));have GE249:=aK ((by rw [hg];exact (below_size (by repeat (first|(with_reducible first|exact HB.out|apply below_alloc|apply pw_below_drewN|apply below_drew1|refine below_set ?_ GE246.out)|exact HB.out))):w.heap.size≤gb249));have NB246_249:=aK ((by rw [hg];exact Nat.ne_of_lt (blk_lt (g:=gb246) (o:= .cells #[.int .i64 ((rd_T48 l0 1).f0),.slice A245_1 ((rd_T48 l0 1).f1).length c245_1] 48 (0,0)) (by (with_reducible repeat (first|refine blk_drewN ?_ _|refine blk_drew ?_|refine blk_alloc ?_ _));exact BK246.out)):gb246≠gb249));have NB249_246:=aK ((by rw [hg];exact Nat.ne_of_gt (blk_lt (g:=gb246) (o:= .cells #[.int .i64 ((rd_T48 l0 1).f0),.slice A245_1 ((rd_T48 l0 1).f1).length c245_1] 48 (0,0)) (by (with_reducible repeat (first|refine blk_drewN ?_ _|refine blk_drew ?_|refine blk_alloc ?_ _));exact BK246.out)):gb249≠gb246));replace BK246:=aK (blk_below (g:=gb246) (o:= .cells #[.int .i64 ((rd_T48 l0 1).f0),.slice A245_1 ((rd_T48 l0 1).f1).length c245_1] 48 (0,0)) (by (with_reducible repeat (first|refine blk_drewN ?_ _|refine blk_drew ?_|refine blk_alloc ?_ _));exact BK246.out) hb);replace HB:=aK (below_step (by repeat (first|(with_reducible first|exact HB.out|apply below_alloc|apply pw_below_drewN|apply below_drew1|refine below_set ?_ GE246.out)|exact HB.out)) hb);clear hb hbox hg;have hnb25:=NB249_246.out;have hnc25:=NB246_249.out;obtain ⟨hcz26_0,hcz26_1,hfz26_0,hfz26_1⟩:=cbf2 BK249))
                (try simp only [Act.put,List.setIfInBounds_toArray,List.set_cons_zero,List.set_cons_succ])
                go_cut [67] (fun v67 wc=> ∃(kq:Nat) (x67_22:Bool),v67= .bool x67_22∧Aside0 (impl_ClassesOk.j4 kq l0 l0 (l0.length:Int) x50_4 x67_22 ((rd_T48 l0 x50_4).f0) ((rd_T48 l0 x50_4).f1)=some r)∧Aside0 (kq≤k4)∧Aside0 (wc.heap[gb246]? =some (.cells #[.int .i64 ((rd_T48 l0 1).f0),(.slice A245_1 ((rd_T48 l0 1).f1).length c245_1)] 48 (0,0)))∧Aside0 (wc.heap[gb249]? =some (.cells #[.int .i64 ((rd_T48 l0 x50_4).f0),(.slice A248_1 ((rd_T48 l0 x50_4).f1).length c248_1)] 48 (0,0)))∧Aside0 (Below w.heap.size w wc))
                case first=>
                 have H:=HC23.out;clear HC23;by_cases c27:x50_4>1
                 ·rw [if_pos c27] at H
                  have c27b0:decide (1<x50_4)=true:=decide_eq_true c27
                  clear c27
                  (first|rw [c27b0]|(simp only [i64_w,i32_w];rw [c27b0])|skip)
                  by_cases c28:((rd_T48 l0 x50_4).f0)<0
                  ·rw [if_pos c28] at H
                   have c28b0:decide (((rd_T48 l0 x50_4).f0)<0)=true:=decide_eq_true c28
                   clear c28;have H':=aK H;clear H;have hnb29:=NB249_246.out;have hnc29:=NB246_249.out;obtain ⟨hcz30_0,hcz30_1,hfz30_0,hfz30_1⟩:=cbf2 BK249;go_wp2;go_meet
                   case rel=>exact ⟨_,(true),zz9,H',⟨by have:=HJ1.out;have:=HJ4.out;have:=HJ9.out;have:=HK4.out;first|omega|exact Nat.le_refl _⟩,⟨by (with_reducible repeat (first|refine blk_drewN ?_ _|refine blk_drew ?_|refine blk_alloc ?_ _));refine blk_far ?_ NB246_249.out _;(with_reducible repeat (first|refine blk_drewN ?_ _|refine blk_drew ?_|refine blk_alloc ?_ _));refine blk_far ?_ NB246_249.out _;(with_reducible repeat (first|refine blk_drewN ?_ _|refine blk_drew ?_|refine blk_alloc ?_ _));exact BK246.out⟩,⟨by (with_reducible repeat (first|refine blk_drewN ?_ _|refine blk_drew ?_|refine blk_alloc ?_ _));refine blk_put (cs:= #[.int .i64 ((rd_T48 l0 x50_4).f0),.slice none 0 0]) ?_ 1 _ rfl;(with_reducible repeat (first|refine blk_drewN ?_ _|refine blk_drew ?_|refine blk_alloc ?_ _));refine blk_put (cs:= #[.int .i64 0,.slice none 0 0]) ?_ 0 _ rfl;(with_reducible repeat (first|refine blk_drewN ?_ _|refine blk_drew ?_|refine blk_alloc ?_ _));exact BK249.out⟩,⟨by repeat (first|(with_reducible first|exact HB.out|apply below_alloc|apply pw_below_drewN|apply below_drew1|refine below_set ?_ GE246.out|refine below_set ?_ GE249.out)|exact HB.out)⟩⟩
                  ·rw [if_neg c28] at H
                   have c28b0:decide (((rd_T48 l0 x50_4).f0)<0)=false:=decide_eq_false c28
                   clear c28;have H':=aK H;clear H;have hnb31:=NB249_246.out;have hnc31:=NB246_249.out;obtain ⟨hcz32_0,hcz32_1,hfz32_0,hfz32_1⟩:=cbf2 BK249;go_wp2;go_meet
                   case rel=>exact ⟨_,(decide (((rd_T48 l0 x50_4).f0)≥x50_4)),zz9,H',⟨by have:=HJ1.out;have:=HJ4.out;have:=HJ9.out;have:=HK4.out;first|omega|exact Nat.le_refl _⟩,⟨by (with_reducible repeat (first|refine blk_drewN ?_ _|refine blk_drew ?_|refine blk_alloc ?_ _));refine blk_far ?_ NB246_249.out _;(with_reducible repeat (first|refine blk_drewN ?_ _|refine blk_drew ?_|refine blk_alloc ?_ _));refine blk_far ?_ NB246_249.out _;(with_reducible repeat (first|refine blk_drewN ?_ _|refine blk_drew ?_|refine blk_alloc ?_ _));exact BK246.out⟩,⟨by (with_reducible repeat (first|refine blk_drewN ?_ _|refine blk_drew ?_|refine blk_alloc ?_ _));refine blk_put (cs:= #[.int .i64 ((rd_T48 l0 x50_4).f0),.slice none 0 0]) ?_ 1 _ rfl;(with_reducible repeat (first|refine blk_drewN ?_ _|refine blk_drew ?_|refine blk_alloc ?_ _));refine blk_put (cs:= #[.int .i64 0,.slice none 0 0]) ?_ 0 _ rfl;(with_reducible repeat (first|refine blk_drewN ?_ _|refine blk_drew ?_|refine blk_alloc ?_ _));exact BK249.out⟩,⟨by repeat (first|(with_reducible first|exact HB.out|apply below_alloc|apply pw_below_drewN|apply below_drew1|refine below_set ?_ GE246.out|refine below_set ?_ GE249.out)|exact HB.out)⟩⟩
                 ·rw [if_neg c27] at H
                  have c27b0:decide (1<x50_4)=false:=decide_eq_false c27
                  clear c27
                  (first|rw [c27b0]|(simp only [i64_w,i32_w];rw [c27b0])|skip)
                  have H':=aK H;clear H;go_wp2;go_meet
                  case rel=>exact ⟨_,(false),zz9,H',⟨by have:=HJ1.out;have:=HJ4.out;have:=HJ9.out;have:=HK4.out;first|omega|exact Nat.le_refl _⟩,⟨by (with_reducible repeat (first|refine blk_drewN ?_ _|refine blk_drew ?_|refine blk_alloc ?_ _));refine blk_far ?_ NB246_249.out _;(with_reducible repeat (first|refine blk_drewN ?_ _|refine blk_drew ?_|refine blk_alloc ?_ _));refine blk_far ?_ NB246_249.out _;(with_reducible repeat (first|refine blk_drewN ?_ _|refine blk_drew ?_|refine blk_alloc ?_ _));exact BK246.out⟩,⟨by (with_reducible repeat (first|refine blk_drewN ?_ _|refine blk_drew ?_|refine blk_alloc ?_ _));refine blk_put (cs:= #[.int .i64 ((rd_T48 l0 x50_4).f0),.slice none 0 0]) ?_ 1 _ rfl;(with_reducible repeat (first|refine blk_drewN ?_ _|refine blk_drew ?_|refine blk_alloc ?_ _));refine blk_put (cs:= #[.int .i64 0,.slice none 0 0]) ?_ 0 _ rfl;(with_reducible repeat (first|refine blk_drewN ?_ _|refine blk_drew ?_|refine blk_alloc ?_ _));exact BK249.out⟩,⟨by repeat (first|(with_reducible first|exact HB.out|apply below_alloc|apply pw_below_drewN|apply below_drew1|refine below_set ?_ GE246.out|refine below_set ?_ GE249.out)|exact HB.out)⟩⟩
                case rest =>
                 clear HC23;(try clear c1);(try clear c2);(try clear p2);(try clear q2);(try clear hx2);(try clear qi2);(try clear c3);(try clear c3b0);(try clear c3b1);(try clear c4);(try clear c6);(try clear c6b0);(try clear c6b1);(try clear c7);(try clear c7b0);(try clear c7b1);(try clear c8);(try clear c9);(try clear c9b0);(try clear c9b1);(try clear c13);(try clear c13b0);(try clear c13b1);(try clear c14);(try clear c14b0);(try clear c14b1);(try clear c15);(try clear c15b0);(try clear c15b1);(try clear c19);(try clear c20);(try clear c20b0);(try clear c21);(try clear c21b0);(try clear c22);(try clear c22b0);(try clear c24);(try clear p24);(try clear q24);(try clear hx24);(try clear qi24);(try clear c25);(try clear c26);(try clear c27);(try clear c27b0);(try clear c28);(try clear c28b0);(try clear c29);(try clear c31);(try clear hcz12_0);(try clear hcz12_1);(try clear hcz16_0);(try clear hcz16_1);(try clear hcz17_0);(try clear hcz17_1);(try clear hcz18_0);(try clear hcz18_1);(try clear hcz26_0);(try clear hcz26_1);(try clear hcz30_0);(try clear hcz30_1);(try clear hcz32_0);(try clear hcz32_1);(try clear hfz12_0);(try clear hfz12_1);(try clear hfz16_0);(try clear hfz16_1);(try clear hfz17_0);(try clear hfz17_1);(try clear hfz18_0);(try clear hfz18_1);(try clear hfz26_0);(try clear hfz26_1);(try clear hfz30_0);(try clear hfz30_1);(try clear hfz32_0);(try clear hfz32_1);(try clear hx243_0);(try clear hx243_1);(try clear hx244_0);(try clear hx244_1);(try clear hx245_0);(try clear hx245_1);(try clear hx247_0);(try clear hx248_0);(try clear hx248_1);(try clear p2);(try clear p243);(try clear p244);(try clear p245);(try clear p247);(try clear p248);(try clear q2);(try clear q243);(try clear q244);(try clear q245);(try clear q247);(try clear q248);obtain ⟨kq,x67_22,rfl,HA,HJ22,BK246,BK249,HB⟩:=hcut
                 cases kq with
                 |zero=>exact absurd HA.out (by simp [impl_ClassesOk.j4])
                 | succ kj22 =>
                  have H:=HA.out;clear HA;simp only [impl_ClassesOk.j4] at H;by_cases c33:x67_22=true
                  ·subst c33
                   rw [if_pos rfl] at H;obtain rfl:=Option.some.inj H;go_wp2;go_ret;exact ⟨zz4,(by repeat (first|(with_reducible first|exact HB.out|apply below_alloc|apply pw_below_drewN|apply below_drew1|refine below_set ?_ GE246.out|refine below_set ?_ GE249.out)|exact HB.out))⟩
                  ·replace c33 := Bool.eq_false_iff.mpr c33
                   subst c33;rw [if_neg (show¬(false=true) by decide)] at H;by_cases c34:(((rd_T48 l0 x50_4).f1).length:Int)>2
                   ·rw [if_pos c34] at H
                    have c34b0:decide (2<(((rd_T48 l0 x50_4).f1).length:Int))=true:=decide_eq_true c34
                    have c34b1:decide (2<((rd_T48 l0 x50_4).f1).length)=true:=decide_eq_true (by omega)
                    clear c34;obtain rfl:=Option.some.inj H;have hnb35:=NB249_246.out;have hnc35:=NB246_249.out;obtain ⟨hcz36_0,hcz36_1,hfz36_0,hfz36_1⟩:=cbf2 BK249;go_wp2;go_ret;exact ⟨zz4,(by repeat (first|(with_reducible first|exact HB.out|apply below_alloc|apply pw_below_drewN|apply below_drew1|refine below_set ?_ GE246.out|refine below_set ?_ GE249.out)|exact HB.out))⟩
                   ·rw [if_neg c34] at H
                    have c34b0:decide (2<(((rd_T48 l0 x50_4).f1).length:Int))=false:=decide_eq_false c34
                    have c34b1:decide (2<((rd_T48 l0 x50_4).f1).length)=false:=decide_eq_false (by omega)
                    clear c34;have H':=aK H;clear H;have hnb37:=NB249_246.out;have hnc37:=NB246_249.out;obtain ⟨hcz38_0,hcz38_1,hfz38_0,hfz38_1⟩:=cbf2 BK249;go_wp2
                    go_loopg [75] kj22 (fun kq v75 w'=> ∃(x75_6:Int),v75= .int .i64 x75_6∧Aside0 (impl_ClassesOk.l1 kq l0 l0 (l0.length:Int) x50_4 ((rd_T48 l0 x50_4).f1) (((rd_T48 l0 x50_4).f1).length:Int) x75_6=some r)∧Aside0 (kq≤kj22)∧Aside0 (w'.heap[gb246]? =some (.cells #[.int .i64 ((rd_T48 l0 1).f0),(.slice A245_1 ((rd_T48 l0 1).f1).length c245_1)] 48 (0,0)))∧Aside0 (w'.heap[gb249]? =some (.cells #[.int .i64 ((rd_T48 l0 x50_4).f0),(.slice A248_1 ((rd_T48 l0 x50_4).f1).length c248_1)] 48 (0,0)))∧Aside0 (Below w.heap.size w w'))
                    case atStart=>exact ⟨(0),zz9,H',⟨Nat.le_refl _⟩,⟨by (with_reducible repeat (first|refine blk_drewN ?_ _|refine blk_drew ?_|refine blk_alloc ?_ _));exact BK246.out⟩,⟨by (with_reducible repeat (first|refine blk_drewN ?_ _|refine blk_drew ?_|refine blk_alloc ?_ _));exact BK249.out⟩,⟨by repeat (first|(with_reducible first|exact HB.out|apply below_alloc|apply pw_below_drewN|apply below_drew1|refine below_set ?_ GE246.out|refine below_set ?_ GE249.out)|exact HB.out)⟩⟩
                    case round =>
                     clear H';(try clear c1);(try clear c2);(try clear p2);(try clear q2);(try clear hx2);(try clear qi2);(try clear c3);(try clear c3b0);(try clear c3b1);(try clear c4);(try clear c6);(try clear c6b0);(try clear c6b1);(try clear c7);(try clear c7b0);(try clear c7b1);(try clear c8);(try clear c9);(try clear c9b0);(try clear c9b1);(try clear c13);(try clear c13b0);(try clear c13b1);(try clear c14);(try clear c14b0);(try clear c14b1);(try clear c15);(try clear c15b0);(try clear c15b1);(try clear c19);(try clear c20);(try clear c20b0);(try clear c21);(try clear c21b0);(try clear c22);(try clear c22b0);(try clear c24);(try clear p24);(try clear q24);(try clear hx24);(try clear qi24);(try clear c25);(try clear c26);(try clear c27);(try clear c27b0);(try clear c28);(try clear c28b0);(try clear c29);(try clear c31);(try clear c33);(try clear c34);(try clear c34b0);(try clear c34b1);(try clear c35);(try clear c37);(try clear hcz12_0);(try clear hcz12_1);(try clear hcz16_0);(try clear hcz16_1);(try clear hcz17_0);(try clear hcz17_1);(try clear hcz18_0);(try clear hcz18_1);(try clear hcz26_0);(try clear hcz26_1);(try clear hcz30_0);(try clear hcz30_1);(try clear hcz32_0);(try clear hcz32_1);(try clear hcz36_0);(try clear hcz36_1);(try clear hcz38_0);(try clear hcz38_1);(try clear hfz12_0);(try clear hfz12_1);(try clear hfz16_0);(try clear hfz16_1);(try clear hfz17_0);(try clear hfz17_1);(try clear hfz18_0);(try clear hfz18_1);(try clear hfz26_0);(try clear hfz26_1);(try clear hfz30_0);(try clear hfz30_1);(try clear hfz32_0);(try clear hfz32_1);(try clear hfz36_0);(try clear hfz36_1);(try clear hfz38_0);(try clear hfz38_1);(try clear hx243_0);(try clear hx243_1);(try clear hx244_0);(try clear hx244_1);(try clear hx245_0);(try clear hx245_1);(try clear hx247_0);(try clear hx248_0);(try clear hx248_1);(try clear p2);(try clear p24);(try clear p243);(try clear p244);(try clear p245);(try clear p247);(try clear p248);(try clear q2);(try clear q24);(try clear q243);(try clear q244);(try clear q245);(try clear q247);(try clear q248);obtain ⟨x75_6,rfl,HA,HK6,BK246,BK249,HB⟩:=hrel
                     cases gk with
                     |zero=>exact absurd HA.out (by simp [impl_ClassesOk.l1])
                     | succ k6 =>
                      have H:=HA.out;clear HA;simp only [impl_ClassesOk.l1] at H;by_cases c39:x75_6<(((rd_T48 l0 x50_4).f1).length:Int)
                      ·rw [if_pos c39] at H
                       have c39b0:decide (x75_6<(((rd_T48 l0 x50_4).f1).length:Int))=true:=decide_eq_true c39
                       clear c39;by_cases c40:0≤x75_6
                       ·rw [if_pos c40] at H
                        have c40b0:decide (0≤x75_6)=true:=decide_eq_true c40
                        clear c40;by_cases c41:x75_6<(((rd_T48 l0 x50_4).f1).length:Int)
                        ·rw [if_pos c41] at H
                         have c41b0:decide (x75_6<(((rd_T48 l0 x50_4).f1).length:Int))=true:=decide_eq_true c41
                         clear c41;replace H:=Option.bind_eq_some_iff.mp H;obtain ⟨t251,A420,H⟩:=H;(try dsimp only at H);have A42:=aK A420;clear A420;by_cases c43:t251=true
                         ·subst c43
                          rw [if_pos rfl] at H;have H':=aK H;clear H;have p250:0≤(x75_6:Int):=of_decide_eq_true zz6
                          have q250:x75_6<(((rd_T48 l0 x50_4).f1).length:Int):=of_decide_eq_true zz6
                          obtain ⟨ad250,e250,hx250_0⟩:=Kd.at_int HR248_1.out x75_6 p250 q250
                          cases e250
                          replace hx250_0:=(HB.out.cell (World.block_lt_of_cell? w _ hx250_0)).trans hx250_0;replace p250:=eq_true p250;replace q250:=eq_true q250
                          go_wp2_with (first|((with_reducible refine gate_callee (f:=39) rfl ?_);refine goesL_ (some 82) rfl rfl Try.func39 (by kernel_rfl) rfl #[.int .i64 (l0.length:Int),.int .i64 (rd ((rd_T48 l0 x50_4).f1) x75_6)] rfl zz2 ?_;(with_reducible refine (impl_fieldType.calls (l0.length:Int) (rd ((rd_T48 l0 x50_4).f1) x75_6) true _ A42.out).mono ?_);rintro e w' ⟨rfl,⟨nd,rfl⟩⟩;refine ⟨_,rfl,?_⟩))
                          go_roundg k6
                          case measure=>have:=HJ1.out;have:=HJ4.out;have:=HJ9.out;have:=HK4.out;have:=HJ22.out;have:=HK6.out;omega
                          case rel=>exact ⟨(wrap64 (x75_6+1)),zz9,H',⟨by have:=HJ1.out;have:=HJ4.out;have:=HJ9.out;have:=HK4.out;have:=HJ22.out;have:=HK6.out;omega⟩,⟨by (with_reducible repeat (first|refine blk_drewN ?_ _|refine blk_drew ?_|refine blk_alloc ?_ _));exact BK246.out⟩,⟨by (with_reducible repeat (first|refine blk_drewN ?_ _|refine blk_drew ?_|refine blk_alloc ?_ _));exact BK249.out⟩,⟨by repeat (first|(with_reducible first|exact HB.out|apply below_alloc|apply pw_below_drewN|apply below_drew1|refine below_set ?_ GE246.out|refine below_set ?_ GE249.out)|exact HB.out)⟩⟩
                         ·replace c43 := Bool.eq_false_iff.mpr c43
                          subst c43;rw [if_neg (show¬(false=true) by decide)] at H;obtain rfl:=Option.some.inj H;have p250:0≤(x75_6:Int):=of_decide_eq_true zz6
                          have q250:x75_6<(((rd_T48 l0 x50_4).f1).length:Int):=of_decide_eq_true zz6
                          obtain ⟨ad250,e250,hx250_0⟩:=Kd.at_int HR248_1.out x75_6 p250 q250
                          cases e250
                          replace hx250_0:=(HB.out.cell (World.block_lt_of_cell? w _ hx250_0)).trans hx250_0;replace p250:=eq_true p250;replace q250:=eq_true q250
                          go_wp2_with (first|((with_reducible refine gate_callee (f:=39) rfl ?_);refine goesL_ (some 82) rfl rfl Try.func39 (by kernel_rfl) rfl #[.int .i64 (l0.length:Int),.int .i64 (rd ((rd_T48 l0 x50_4).f1) x75_6)] rfl zz2 ?_;(with_reducible refine (impl_fieldType.calls (l0.length:Int) (rd ((rd_T48 l0 x50_4).f1) x75_6) false _ A42.out).mono ?_);rintro e w' ⟨rfl,⟨nd,rfl⟩⟩;refine ⟨_,rfl,?_⟩))
                          go_ret;exact ⟨zz4,(by repeat (first|(with_reducible first|exact HB.out|apply below_alloc|apply pw_below_drewN|apply below_drew1|refine below_set ?_ GE246.out|refine below_set ?_ GE249.out)|exact HB.out))⟩
                        ·rw [if_neg c41] at H
                         exact absurd H (by simp)
                       ·rw [if_neg c40] at H
                        exact absurd H (by simp)
                      ·rw [if_neg c39] at H
                       have c39b0:decide (x75_6<(((rd_T48 l0 x50_4).f1).length:Int))=false:=decide_eq_false c39
                       clear c39;have H':=aK H;clear H;go_wp2
                       go_roundg k6
                       case measure=>have:=HJ1.out;have:=HJ4.out;have:=HJ9.out;have:=HK4.out;have:=HJ22.out;have:=HK6.out;omega
                       case rel=>exact ⟨(wrap64 (x50_4+1)),zz9,H',⟨by have:=HJ1.out;have:=HJ4.out;have:=HJ9.out;have:=HK4.out;have:=HJ22.out;have:=HK6.out;omega⟩,⟨by (with_reducible repeat (first|refine blk_drewN ?_ _|refine blk_drew ?_|refine blk_alloc ?_ _));exact BK246.out⟩,⟨by repeat (first|(with_reducible first|exact HB.out|apply below_alloc|apply pw_below_drewN|apply below_drew1|refine below_set ?_ GE246.out|refine below_set ?_ GE249.out)|exact HB.out)⟩⟩
               ·rw [if_neg c22] at H
                exact absurd H (by simp)
              ·rw [if_neg c21] at H
               exact absurd H (by simp)
             ·rw [if_neg c20] at H
              have c20b0:decide (x50_4<(l0.length:Int))=false:=decide_eq_false c20
              clear c20;obtain rfl:=Option.some.inj H;go_wp2;go_ret;exact ⟨zz4,(by repeat (first|(with_reducible first|exact HB.out|apply below_alloc|apply pw_below_drewN|apply below_drew1|refine below_set ?_ GE246.out)|exact HB.out))⟩
       ·rw [if_neg c9] at H
        exact absurd H (by simp)
end Go.Proofs.Ytehefmgplkolaaa.K
