import Derived.Test.YtnlieahdakafbaaProg
import Derived.Below
import Derived.Deep.Draws
import Derived.Deep.AppendLies
import Derived.Maps.AppendAt
import Derived.OwnWalk
import Derived.Laws.BytesArg
import Derived.Laws.MakeOwn
import Derived.Laws.OwnMore
import Derived.Deep.OwnRows
import Derived.Tactics
import Derived.Lib.ConvBytes
import Derived.Laws.Slices
import Derived.WalkKit
import Derived.KernelRfl
import Derived.RowKit3
import Derived.Deep.LoopGhost
import Derived.Deep.QuietTactic
import Derived.BigQuiet
import Derived.WideLaws
import Derived.Deep.DeepCutAuto
import Derived.Deep.CutBlock
import Derived.Deep.RegionHeld3
import Derived.Laws.Rows
import Derived.Lib.AppendStr
import Derived.ArgAppend
import Derived.Laws.IdiomCopy
import Derived.OrdersHeld
import Derived.Laws.BitsLemmas
import Derived.RowKit
import Derived.Test.YtnlieahdakafbaaPd3
import Derived.Test.YtnlieahdakafbaaPd4
import Derived.Test.YtnlieahdakafbaaPd5
import Derived.Test.YtnlieahdakafbaaPd6
import Derived.Test.YtnlieahdakafbaaPd7
import Derived.Test.YtnlieahdakafbaaPd8
import Derived.Test.YtnlieahdakafbaaPd9
import Derived.Test.YtnlieahdakafbaaPd10
import Derived.Test.YtnlieahdakafbaaPd11
import Derived.Test.YtnlieahdakafbaaPd12
import Derived.Test.YtnlieahdakafbaaPd13
import Derived.Test.YtnlieahdakafbaaPd14
import Derived.Test.YtnlieahdakafbaaPd15
import Derived.Test.YtnlieahdakafbaaPd16
import Derived.Test.YtnlieahdakafbaaPd17
import Derived.Test.YtnlieahdakafbaaPd18
import Derived.Test.YtnlieahdakafbaaPd19
import Derived.Test.YtnlieahdakafbaaPd20
import Derived.Test.YtnlieahdakafbaaPd21
import Derived.Test.YtnlieahdakafbaaPd22
import Derived.Test.YtnlieahdakafbaaPd23
namespace Go.Proofs.Ytnlieahdakafbaa.K
open Go.RowKit Go.Proofs.YtnlieahdakafbaaW.PrintWords Go.Proofs.YtnlieahdakafbaaW.PrintLast Go.Proofs.YtnlieahdakafbaaW.PrintMore
attribute [local go_sem] max2_int min2_int max_two min_two max_three min_three max_four min_four
set_option linter.unusedVariables false
set_option linter.unusedSimpArgs false
def errW:Option Int→Value
  |none=> .nilIface
  |some c=> .iface 0 (.int .i64 c)
theorem errW_none:errW none= .nilIface:=rfl
theorem errW_some (c:Int):errW (some c)= .iface 0 (.int .i64 c):=rfl
def lA (n m:Nat):Array Bool:=((List.range n).map (Nat.testBit m)).toArray
theorem lA1 {α:Type} (l:List α) (i:Nat) (a:α):l.toArray.setIfInBounds i a=(l.set i a).toArray:=List.setIfInBounds_toArray l i a
theorem lA2 {α:Type} {x a:α} {l:List α}:(x::l).set 0 a=a::l:=List.set_cons_zero
theorem lA3 {α:Type} {x a:α} {l:List α} {n:Nat}:(x::l).set (n+1) a=x::l.set n a:=List.set_cons_succ
section
open Go.Proofs.YtnlieahdakafbaaW.PrintLast
variable {P:Program} {ops:Array Oper} {Q:Exit→Act→World→Prop} {md:Region.Mode} {S:World→Prop} {ds:List Nat} {oi:Oper} {v:Value} {fuel:Nat} {l:Array Bool} {a a':Act} {w:World}
theorem pS (i:Nat) (n:Tmp) (l':Array Bool) (h:wpAnyLast P md ops Q S ds fuel l' a' w) (hi:ops[i]? =some oi:=by exact rfl) (hN:oi.dst=some n:=by exact rfl) (hc:anyB md ops l l' i=true:=by as_aux_lemma=>kernel_rfl) (hQ: ∀c a w,Q (.panic c) (a.put oi.dst v) w→Q (.panic c) a w:=by exact fun _ _ _ h=>h) (hw:Region.wanted oi (yielded ops a.tmps)=true:=by rfl) (hv: ∀w',(execOp a.eval oi).run P w'= .ok (.value v) w':=by intro w';go_simp;with_reducible rfl) (ha:a.put (some n) v=a':=by simp only [Act.put,lA1,lA2,lA3,i64_w,i32_w];rfl):wpAnyLast P md ops Q S ds (fuel+1) l a w:=
  pure_ l' hi hN hc hQ (Or.inl ⟨hw,hv⟩) ha h
theorem pU (i:Nat) (n:Tmp) (l':Array Bool) (h:wpAnyLast P md ops Q S ds fuel l' a' w) (hi:ops[i]? =some oi:=by exact rfl) (hN:oi.dst=some n:=by exact rfl) (hc:anyB md ops l l' i=true:=by as_aux_lemma=>kernel_rfl) (hQ: ∀c a w,Q (.panic c) (a.put oi.dst undef) w→Q (.panic c) a w:=by exact fun _ _ _ h=>h) (hw:Region.wanted oi (yielded ops a.tmps)=false:=by rfl) (ha:a.put (some n) undef=a':=by simp only [Act.put,lA1,lA2,lA3,i64_w,i32_w];rfl):wpAnyLast P md ops Q S ds (fuel+1) l a w:=
  pure_ l' hi hN hc hQ (Or.inr ⟨hw,rfl⟩) ha h
theorem tS (i:Nat) (n:Tmp) (l':Array Bool) (hi:ops[i]? =some oi) (hN:oi.dst=some n) (hc:takeB md ops ds l l' i=true) (hS:S w) (hv: ∀w',S w'→(execOp a.eval oi).run P w'= .ok (.value v) w') (h:wpAnyLast P md ops Q S ds fuel l' a' w) (hQ: ∀c a w,Q (.panic c) (a.put oi.dst v) w→Q (.panic c) a w:=by exact fun _ _ _ h=>h) (hw:Region.wanted oi (yielded ops a.tmps)=true:=by rfl) (ha:a.put (some n) v=a':=by simp only [Act.put,lA1,lA2,lA3,i64_w,i32_w];rfl):wpAnyLast P md ops Q S ds (fuel+1) l a w:=
  take_ l' hi hN hc hQ (Or.inl ⟨hw,hv⟩) hS ha h
end
theorem info3:(Try.prog.info? 3).map (fun i=>(i.zero,i.size,i.bytes))=some (some (.int .i64 0),1,8):=by kernel_rfl
theorem info4:(Try.prog.info? 4).map (fun i=>(i.zero,i.size,i.bytes))=some (some (.bool false),1,1):=by kernel_rfl
theorem info5:(Try.prog.info? 5).map (fun i=>(i.zero,i.size,i.bytes))=some (some (.int .u8 0),1,1):=by kernel_rfl
theorem info24:(Try.prog.info? 24).map (fun i=>(i.zero,i.size,i.bytes))=some (some (.slice none 0 0),1,24):=by kernel_rfl
theorem info46:(Try.prog.info? 46).map (fun i=>(i.zero,i.size,i.bytes))=some (some (.agg #[(.int .i64 0),(.slice none 0 0)]),2,32):=by kernel_rfl
theorem info48:(Try.prog.info? 48).map (fun i=>(i.zero,i.size,i.bytes))=some (some (.agg #[(.bool false),(.int .i64 0)]),2,16):=by kernel_rfl
theorem info112:(Try.prog.info? 112).map (fun i=>(i.zero,i.size,i.bytes))=some (some (.agg #[(.int .i64 0),(.slice none 0 0)]),2,32):=by kernel_rfl
def rd_L2 (xs:List (List Int)) (i:Int):(List Int):=xs.getD i.toNat ([]:List Int)
theorem at_L2 {w:World} {A:Option Addr} {n:Nat} {xs:List (List Int)} (h:Kd.C (Kd.slice 3 (Kd.int .i64)) w A n xs) (i:Int) (h0:0≤i) (h1:i<n): ∃ad A0 c0,A=some ad∧w.cell? (ad.add i.toNat)=some (.slice A0 (rd_L2 xs i).length c0)∧(rd_L2 xs i).length≤c0∧(Kd.int .i64).C w A0 (rd_L2 xs i).length (rd_L2 xs i):=by
 obtain ⟨ad,c,e,_,hK,hc0⟩:=Kd.C_get h ([]:List Int) i h0 h1;have hc: ∀j u,c[j]? =some u→w.cell? (ad.add (i.toNat*1+j))=some u:=hc0
 obtain ⟨A0,c0,rfl,l0,g0⟩:=hK;exact ⟨ad,A0,c0,e,by have hq:=hc 0 _ rfl;rwa [Nat.mul_one,Nat.add_zero] at hq,l0,g0⟩
structure S112 where
  f0:Int
  f1:(List Int)
def z112:S112:=⟨(0:Int),([]:List Int)⟩
def k112:Kd S112:=Kd.iso (Kd.pair (Kd.int .i64) (Kd.slice 3 (Kd.int .i64))) (fun x:S112=>(x.f0,x.f1))
theorem k112_open {w:World} {x:S112} {cs:List Value} (h:k112.K w x cs): ∃A1 c1,cs=[.int .i64 x.f0,.slice A1 x.f1.length c1]∧x.f1.length≤c1∧(Kd.int .i64).C w A1 x.f1.length x.f1:=by
  obtain ⟨_,_,rfl,rfl,⟨A1,c1,rfl,l1,g1⟩⟩:=h;exact ⟨A1,c1,rfl,l1,g1⟩
theorem k112_openM {w:World} {base:Nat} {ok:Nat→Prop} {x:S112} {cs:List Value} (h:k112.M w base ok x cs): ∃v1,cs=[.int .i64 x.f0,v1]∧(Kd.int .i64).R 3 w base ok v1 x.f1:=by
  obtain ⟨_,_,rfl,rfl,⟨v1,rfl,g1⟩⟩:=h;exact ⟨v1,rfl,g1⟩
theorem k112_mk (w:World) (x:S112) {A1:Option Addr} {c1:Nat} (l1:x.f1.length≤c1) (g1:(Kd.int .i64).C w A1 x.f1.length x.f1):k112.K w x [.int .i64 x.f0,.slice A1 x.f1.length c1]:=⟨[.int .i64 x.f0],[.slice A1 x.f1.length c1],rfl,rfl,⟨A1,c1,rfl,l1,g1⟩⟩
theorem k112_mkM (w:World) (base:Nat) (ok:Nat→Prop) (x:S112) {v1:Value} (g1:(Kd.int .i64).R 3 w base ok v1 x.f1):k112.M w base ok x [.int .i64 x.f0,v1]:=⟨[.int .i64 x.f0],[v1],rfl,rfl,⟨v1,rfl,g1⟩⟩
theorem k112_mkF (W:World) (ok:Nat→Prop) (x:S112) {A1:Option Addr} {c1:Nat} (l1:x.f1.length≤c1) (g1:Kd.F (Kd.int .i64) W ok A1 x.f1.length x.f1):Kd.FK k112 W ok x [.int .i64 x.f0,.slice A1 x.f1.length c1]:=fun W2 hW=>k112_mk W2 x l1 (g1 W2 hW)
def rd_T112 (xs:List S112) (i:Int):S112:=xs.getD i.toNat z112
theorem at_T112 {w:World} {A:Option Addr} {n:Nat} {xs:List S112} (h:Kd.C k112 w A n xs) (i:Int) (h0:0≤i) (h1:i<n): ∃ad A1 c1,A=some ad∧w.cell? (ad.add (i.toNat*2))=some (.int .i64 (rd_T112 xs i).f0)∧w.cell? ⟨(ad.add (i.toNat*2)).block,(ad.add (i.toNat*2)).off+1,none⟩=some (.slice A1 (rd_T112 xs i).f1.length c1)∧(rd_T112 xs i).f1.length≤c1∧(Kd.int .i64).C w A1 (rd_T112 xs i).f1.length (rd_T112 xs i).f1:=by
 obtain ⟨ad,c,e,_,hK,hc0⟩:=Kd.C_get h z112 i h0 h1;have hc: ∀j u,c[j]? =some u→w.cell? (ad.add (i.toNat*2+j))=some u:=hc0
 obtain ⟨A1,c1,rfl,l1,g1⟩:=k112_open hK;exact ⟨ad,A1,c1,e,hc 0 _ rfl,by rw [←add_field _ _ 1 (by omega)];exact hc 1 _ rfl,l1,g1⟩
structure S48 where
  f0:Bool
  f1:Int
def z48:S48:=⟨false,(0:Int)⟩
def k48:Kd S48:=Kd.iso (Kd.pair Kd.bool (Kd.int .i64)) (fun x:S48=>(x.f0,x.f1))
theorem k48_open {w:World} {x:S48} {cs:List Value} (h:k48.K w x cs):cs=[.bool x.f0,.int .i64 x.f1]:=by
  obtain ⟨_,_,rfl,rfl,rfl⟩:=h;exact rfl
theorem k48_mkM (w:World) (base:Nat) (ok:Nat→Prop) (x:S48):k48.M w base ok x [.bool x.f0,.int .i64 x.f1]:=⟨[.bool x.f0],[.int .i64 x.f1],rfl,rfl,rfl⟩
def rd_T48 (xs:List S48) (i:Int):S48:=xs.getD i.toNat z48
theorem at_T48 {w:World} {A:Option Addr} {n:Nat} {xs:List S48} (h:Kd.C k48 w A n xs) (i:Int) (h0:0≤i) (h1:i<n): ∃ad,A=some ad∧w.cell? (ad.add (i.toNat*2))=some (.bool (rd_T48 xs i).f0)∧w.cell? ⟨(ad.add (i.toNat*2)).block,(ad.add (i.toNat*2)).off+1,none⟩=some (.int .i64 (rd_T48 xs i).f1):=by
 obtain ⟨ad,c,e,_,hK,hc0⟩:=Kd.C_get h z48 i h0 h1;have hc: ∀j u,c[j]? =some u→w.cell? (ad.add (i.toNat*2+j))=some u:=hc0
 obtain rfl:=k48_open hK;exact ⟨ad,e,hc 0 _ rfl,by rw [←add_field _ _ 1 (by omega)];exact hc 1 _ rfl⟩
structure S46 where
  f0:Int
  f1:(List S48)
def z46:S46:=⟨(0:Int),([]:List S48)⟩
def k46:Kd S46:=Kd.iso (Kd.pair (Kd.int .i64) (Kd.slice 48 k48)) (fun x:S46=>(x.f0,x.f1))
theorem k46_open {w:World} {x:S46} {cs:List Value} (h:k46.K w x cs): ∃A1 c1,cs=[.int .i64 x.f0,.slice A1 x.f1.length c1]∧x.f1.length≤c1∧k48.C w A1 x.f1.length x.f1:=by
  obtain ⟨_,_,rfl,rfl,⟨A1,c1,rfl,l1,g1⟩⟩:=h;exact ⟨A1,c1,rfl,l1,g1⟩
theorem k46_mkM (w:World) (base:Nat) (ok:Nat→Prop) (x:S46) {v1:Value} (g1:k48.R 48 w base ok v1 x.f1):k46.M w base ok x [.int .i64 x.f0,v1]:=⟨[.int .i64 x.f0],[v1],rfl,rfl,⟨v1,rfl,g1⟩⟩
def rd_T46 (xs:List S46) (i:Int):S46:=xs.getD i.toNat z46
theorem at_T46 {w:World} {A:Option Addr} {n:Nat} {xs:List S46} (h:Kd.C k46 w A n xs) (i:Int) (h0:0≤i) (h1:i<n): ∃ad A1 c1,A=some ad∧w.cell? (ad.add (i.toNat*2))=some (.int .i64 (rd_T46 xs i).f0)∧w.cell? ⟨(ad.add (i.toNat*2)).block,(ad.add (i.toNat*2)).off+1,none⟩=some (.slice A1 (rd_T46 xs i).f1.length c1)∧(rd_T46 xs i).f1.length≤c1∧k48.C w A1 (rd_T46 xs i).f1.length (rd_T46 xs i).f1:=by
 obtain ⟨ad,c,e,_,hK,hc0⟩:=Kd.C_get h z46 i h0 h1;have hc: ∀j u,c[j]? =some u→w.cell? (ad.add (i.toNat*2+j))=some u:=hc0
 obtain ⟨A1,c1,rfl,l1,g1⟩:=k46_open hK;exact ⟨ad,A1,c1,e,hc 0 _ rfl,by rw [←add_field _ _ 1 (by omega)];exact hc 1 _ rfl,l1,g1⟩
theorem cbf2 {w:World} {g:Nat} {t:TypeId} {a0 a1:Value} (h:Aside0 (w.heap[g]? =some (.cells #[a0,a1] t (0,0)))):w.cell? ⟨g,0,none⟩=some a0∧w.cell? ⟨g,1,none⟩=some a1∧w.frozen? ⟨g,0,none⟩=false∧w.frozen? ⟨g,1,none⟩=false:=⟨(blk_cell h.out 0).trans rfl,(blk_cell h.out 1).trans rfl,blk_frozen h.out 0,blk_frozen h.out 1⟩
theorem cbf5 {w:World} {g:Nat} {t:TypeId} {a0 a1 a2 a3 a4:Value} (h:Aside0 (w.heap[g]? =some (.cells #[a0,a1,a2,a3,a4] t (0,0)))):w.cell? ⟨g,0,none⟩=some a0∧w.cell? ⟨g,1,none⟩=some a1∧w.cell? ⟨g,2,none⟩=some a2∧w.cell? ⟨g,3,none⟩=some a3∧w.cell? ⟨g,4,none⟩=some a4∧w.frozen? ⟨g,0,none⟩=false∧w.frozen? ⟨g,1,none⟩=false∧w.frozen? ⟨g,2,none⟩=false∧w.frozen? ⟨g,3,none⟩=false∧w.frozen? ⟨g,4,none⟩=false:=⟨(blk_cell h.out 0).trans rfl,(blk_cell h.out 1).trans rfl,(blk_cell h.out 2).trans rfl,(blk_cell h.out 3).trans rfl,(blk_cell h.out 4).trans rfl,blk_frozen h.out 0,blk_frozen h.out 1,blk_frozen h.out 2,blk_frozen h.out 3,blk_frozen h.out 4⟩
theorem aK {p:Prop} (h:p):Aside0 p:=Aside0.mk h
section
variable {P:Program} {ops:Array Oper} {Q:Exit→Act→World→Prop} {md:Region.Mode} {S:World→Prop} {ds:List Nat} {oi:Oper} {v:Value} {fuel:Nat} {l:Array Bool} {a a':Act} {w:World}
theorem pT {T:Bool×List (List Nat×List Nat)} (i:Nat) (n:Tmp) (l':Array Bool) (HT:Aside0 (rtab md ops=T)) (h:wpAnyLast P md ops Q S ds fuel l' a' w) (hi:ops[i]? =some oi:=by exact rfl) (hN:oi.dst=some n:=by exact rfl) (hc:anyT T l.toList l'.toList i=true:=by kernel_rfl) (hQ: ∀c a w,Q (.panic c) (a.put oi.dst v) w→Q (.panic c) a w:=by exact fun _ _ _ h=>h) (hw:Region.wanted oi (yielded ops a.tmps)=true:=by rfl) (hv: ∀w',(execOp a.eval oi).run P w'= .ok (.value v) w':=by intro w';go_simp;with_reducible rfl) (ha:a.put (some n) v=a':=by simp only [Act.put,List.setIfInBounds_toArray,List.set_cons_zero,List.set_cons_succ,i64_w,i32_w];rfl):wpAnyLast P md ops Q S ds (fuel+1) l a w:=pS i n l' h hi hN (any_of HT.out hc) hQ hw hv ha
theorem uT {T:Bool×List (List Nat×List Nat)} (i:Nat) (n:Tmp) (l':Array Bool) (HT:Aside0 (rtab md ops=T)) (h:wpAnyLast P md ops Q S ds fuel l' a' w) (hi:ops[i]? =some oi:=by exact rfl) (hN:oi.dst=some n:=by exact rfl) (hc:anyT T l.toList l'.toList i=true:=by kernel_rfl) (hQ: ∀c a w,Q (.panic c) (a.put oi.dst undef) w→Q (.panic c) a w:=by exact fun _ _ _ h=>h) (hw:Region.wanted oi (yielded ops a.tmps)=false:=by rfl) (ha:a.put (some n) undef=a':=by simp only [Act.put,List.setIfInBounds_toArray,List.set_cons_zero,List.set_cons_succ,i64_w,i32_w];rfl):wpAnyLast P md ops Q S ds (fuel+1) l a w:=pU i n l' h hi hN (any_of HT.out hc) hQ hw ha
theorem nS (n:Tmp) (h:wpAnyLast P md ops Q S ds fuel l a' w) (ha:a.put (some n) v=a':=by simp only [Act.put,List.setIfInBounds_toArray,List.set_cons_zero,List.set_cons_succ,i64_w,i32_w];rfl):wpAnyLast P md ops Q S ds fuel l (a.put (some n) v) w:=norm_ ha h
theorem oS (i:Nat) (n:Tmp) (l':Array Bool) (hi:ops[i]? =some oi) (hN:oi.dst=some n) (h: ∀K:Act→World→Prop,Shut (∀a' w',S w'→(S w'→wpAnyLast P md ops Q S ds fuel l' a' w')→K a' w')→if Region.wanted oi (yielded ops a.tmps)=true then Oper.wp P oi a w K Q else K (a.put (some n) undef) w) (hc:readyB md ops l l' i=true:=by kernel_rfl) (hd:i∉ds:=by decide):wpAnyLast P md ops Q S ds (fuel+1) l a w:=one_ l' hi hN hc hd h
end
theorem lA0 (n:Nat):Array.replicate n false=lA n 0:=by simp [lA,Array.ext_iff]
section
variable {P:Program} {ops:Array Oper} {Q:Exit→Act→World→Prop} {rest:List Oper} {oi:Oper} {a:Act} {w:World}
theorem sT {id:Nat} (n:Nat) {S:World→Prop} {ds:List Nat} (hS:S w.drew) (h:S w.drew→wpAnyLast P .any ops Q S ds n (lA n 0) a w.drew) (hm:P.follows .mixedOrders=true:=by kernel_rfl) (hn:ops.size=n:=by rfl):(Code.region id ops true).wp P Q a w:=start_ (lA n 0) hm hn (lA0 n) hS h
theorem gL (n : Tmp) {f : FuncId} {fn : Func} {xs : Array Operand} {ts : Array TypeId} (hf : P.funcs[f]? = some fn) (args : Array Value) (h : Calls P f args w fun e w' => ∃ v, e = .returned v ∧ wpList P ops Q rest (a.put (some n) v) w') (hd : oi.dst = some n := by exact rfl) (hg : oi.guard = none := by exact rfl) (hname : (fn.name == "runtime.NumGoroutine") = false := by kernel_rfl) (hb : fn.body.isSome = true := by exact rfl) (hop : oi.op = .call { callee := .value (.func f), args := xs, argTypes := ts } := by exact rfl) (hargs : xs.map a.eval = args := by simp only [List.map_toArray, List.map_cons, List.map_nil]; rfl) : wpList P ops Q (oi :: rest) a w := goesL_ (some n) hd hg hf hname hb args hop hargs h
theorem gO {N : Option Tmp} {K : Act → World → Prop} {f : FuncId} {fn : Func} {xs : Array Operand} {ts : Array TypeId} (hf : P.funcs[f]? = some fn) (args : Array Value) (h : Calls P f args w fun e w' => ∃ v, e = .returned v ∧ K (a.put N v) w') (hname : (fn.name == "runtime.NumGoroutine") = false := by kernel_rfl) (hb : fn.body.isSome = true := by exact rfl) (hw : Region.wanted oi (yielded ops a.tmps) = true := by rfl) (hN : oi.dst = N := by exact rfl) (hop : oi.op = .call { callee := .value (.func f), args := xs, argTypes := ts } := by exact rfl) (hargs : xs.map a.eval = args := by simp only [List.map_toArray, List.map_cons, List.map_nil]; rfl) : if Region.wanted oi (yielded ops a.tmps) = true then Oper.wp P oi a w K Q else K (a.put N undef) w := goes_ hf hname hb args hw hN hop hargs h
end
theorem zz1 {p:Prop} (h:p:=by repeat (first|(with_reducible first|exact HB.out|apply below_alloc|apply pw_below_drewN|apply below_drew1)|exact HB.out)):p:=h
theorem zz2 {p:Prop} (h:p:=by (try simp only [List.map_toArray,List.map_cons,List.map_nil]);first|done|rfl|(simp only [List.length_drop,List.length_take];rfl)):p:=h
theorem zz3 {p:Prop} (h:p:=by first|(with_reducible assumption)|assumption):p:=h
theorem zz4 {p:Prop} (h:p:=by repeat (first|exact (Kd.C_below HR0.out HB.out)|(with_reducible refine Kd.C_alloc ?_ _)|(with_reducible refine Kd.C_drewN ?_ _)|(with_reducible refine Kd.C_drew ?_))):p:=h
theorem zz5 {p:Prop} (h:p:=by rintro w' ⟨s0,s1,s2,s3,s4,s5⟩;go_simp;with_reducible rfl):p:=h
theorem zz6 {p:Prop} (h:p:=by repeat (first|exact (Kd.C_below HR1_0.out HB.out)|(with_reducible refine Kd.C_alloc ?_ _)|(with_reducible refine Kd.C_drewN ?_ _)|(with_reducible refine Kd.C_drew ?_))):p:=h
theorem zz7 {p:Prop} (h:p:=by first|rfl|(simp;done)|(simp [*];done)):p:=h
theorem zz8 {p:Prop} (h:p:=by first|rfl|(simp [errW_none,errW_some]<;>rfl)|(simp [*,errW_none,errW_some]<;>rfl)):p:=h
theorem zz9 {p:Prop} (h:p:=by repeat (first|(with_reducible first|exact HB.out|apply below_alloc|apply pw_below_drewN|apply below_drew1|refine below_set ?_ GE167.out)|exact HB.out)):p:=h
theorem zz10 {p:Prop} (h:p:=by repeat (first|exact (Kd.C_below HR0_0.out HB.out)|(with_reducible refine Kd.C_alloc ?_ _)|(with_reducible refine Kd.C_drewN ?_ _)|(with_reducible refine Kd.C_drew ?_))):p:=h
theorem zz11 {p:Prop} (h:p:=by repeat (first|(with_reducible first|exact HB.out|apply below_alloc|apply pw_below_drewN|apply below_drew1|refine below_set ?_ GE292.out)|exact HB.out)):p:=h
theorem zz12 {p:Prop} (h:p:=by repeat (first|exact (Kd.C_below HR1_4.out HB.out)|(with_reducible refine Kd.C_alloc ?_ _)|(with_reducible refine Kd.C_drewN ?_ _)|(with_reducible refine Kd.C_drew ?_))):p:=h
theorem zz13 {p:Prop} (h:p:=by repeat (first|exact Drawn0.refl _|apply Drawn0.step)):p:=h
theorem zz14 {p:Prop} (h:p:=by repeat (first|(with_reducible first|exact HB.out|apply below_alloc|apply pw_below_drewN|apply below_drew1|refine below_set ?_ GE238.out)|exact HB.out)):p:=h
theorem zz15 {p:Prop} (h:p:=by rintro w' ⟨s0,s1,s2,s3,s4,s5,s6,s7⟩;go_simp;with_reducible rfl):p:=h
theorem zz16 {p:Prop} (h:p:=by rintro w' ⟨s0,s1,s2,s3,s4,s5,s6,s7,s8,s9,s10⟩;go_simp;with_reducible rfl):p:=h
theorem zz17 {p:Prop} (h:p:=by rintro w' ⟨s0,s1,s2,s3,s4⟩;go_simp;with_reducible rfl):p:=h
theorem zz18 {p:Prop} (h:p:=by repeat (first|(with_reducible first|exact HB.out|apply below_alloc|apply pw_below_drewN|apply below_drew1|refine below_set ?_ GE363.out|refine below_set ?_ GE364.out|refine below_set ?_ GE365.out)|exact HB.out)):p:=h
theorem zz19 {p:Prop} (h:p:=by (with_reducible repeat (first|refine blk_drewN ?_ _|refine blk_drew ?_|refine blk_alloc ?_ _));exact BK167.out):p:=h
theorem zz20 {p:Prop} (h:p:=by repeat (first|(with_reducible first|exact HB.out|apply below_alloc|apply pw_below_drewN|apply below_drew1|refine below_set ?_ GE303.out)|exact HB.out)):p:=h
theorem zz21 {p:Prop} (h:p:=by repeat (first|(with_reducible first|exact HB.out|apply below_alloc|apply pw_below_drewN|apply below_drew1|refine below_set ?_ GE264.out)|exact HB.out)):p:=h
theorem zz22 {p:Prop} (h:p:=by repeat (first|(with_reducible first|exact HB.out|apply below_alloc|apply pw_below_drewN|apply below_drew1|refine below_set ?_ GE380.out)|exact HB.out)):p:=h
theorem zz23 {p:Prop} (h:p:=by repeat (first|(with_reducible first|exact HB.out|apply below_alloc|apply pw_below_drewN|apply below_drew1|refine below_set ?_ GE347.out)|exact HB.out)):p:=h
theorem zz24 {p:Prop} (h:p:=by repeat (first|(with_reducible first|exact HB.out|apply below_alloc|apply pw_below_drewN|apply below_drew1|refine below_set ?_ GE257.out)|exact HB.out)):p:=h
theorem zz25 {p:Prop} (h:p:=by have:=HGr.out;have:=HGW.out;omega):p:=h
theorem zz26 {p:Prop} (h:p:=by repeat (first|(with_reducible first|exact HB.out|apply below_alloc|apply pw_below_drewN|apply below_drew1|refine below_set ?_ (IsS93.ge HI0.out))|exact HB.out)):p:=h
theorem zz27 {p:Prop} (h:p:=by repeat (first|(with_reducible first|exact HK.out|apply KeepBut.set_|apply keep_drewN|apply keep_drew|apply keep_alloc)|exact HK.out)):p:=h
theorem zz28 {p:Prop} (h:p:=by repeat (first|(with_reducible first|exact HB.out|apply below_alloc|apply pw_below_drewN|apply below_drew1|refine below_set ?_ GE357.out)|exact HB.out)):p:=h
theorem zz29 {p:Prop} (h:p:=by simp only [putAll,Act.put,List.setIfInBounds_toArray,List.set_cons_zero,List.set_cons_succ]):p:=h
theorem zz30 {p:Prop} (h:p:=by (with_reducible repeat (first|refine blk_drewN ?_ _|refine blk_drew ?_|refine blk_alloc ?_ _));exact BK380.out):p:=h
theorem zz31 {p:Prop} (h:p:=by repeat (first|(with_reducible first|exact HI0.out|apply IsS93.alloc|apply IsS93.drewN|apply IsS93.drew|apply IsS93.set_1)|exact HI0.out)):p:=h
theorem zz32 {p:Prop} (h:p:=by rintro w' ⟨s0,s1,s2,s3⟩;go_simp;with_reducible rfl):p:=h
theorem zz33 {p:Prop} (h:p:=by rintro w' ⟨s0,s1,s2,s3,s4,s5,s6,s7,s8⟩;go_simp;with_reducible rfl):p:=h
theorem zz34 {p:Prop} (h:p:=by (with_reducible repeat (first|refine blk_drewN ?_ _|refine blk_drew ?_|refine blk_alloc ?_ _));exact BK363.out):p:=h
theorem zz35 {p:Prop} (h:p:=by (with_reducible repeat (first|refine blk_drewN ?_ _|refine blk_drew ?_|refine blk_alloc ?_ _));exact BK292.out):p:=h
theorem zz36 {p:Prop} (h:p:=by repeat (first|(with_reducible first|exact HB.out|apply below_alloc|apply pw_below_drewN|apply below_drew1|refine below_set ?_ GE319.out)|exact HB.out)):p:=h
theorem zz37 {p:Prop} (h:p:=by repeat (first|(with_reducible first|exact HB.out|apply below_alloc|apply pw_below_drewN|apply below_drew1|refine below_set ?_ GE277.out)|exact HB.out)):p:=h
theorem zz38 {p:Prop} (h:p:=by have:=HL.out;omega):p:=h
theorem zz39 {p:Prop} (h:p:=by have:=HGp.out;have:=HGW.out;omega):p:=h
theorem zz40 {p:Prop} (h:p:=by (with_reducible repeat (first|refine blk_drewN ?_ _|refine blk_drew ?_|refine blk_alloc ?_ _));exact BK303.out):p:=h
theorem zz41 {p:Prop} (h:p:=by (with_reducible repeat (first|refine blk_drewN ?_ _|refine blk_drew ?_|refine blk_alloc ?_ _));exact BK264.out):p:=h
theorem zz42 {p:Prop} (h:p:=by (with_reducible repeat (first|refine blk_drewN ?_ _|refine blk_drew ?_|refine blk_alloc ?_ _));exact BK238.out):p:=h
theorem zz43 {p:Prop} (h:p:=by rintro w' ⟨s0,s1,s2,s3,s4,s5,s6,s7,s8,s9⟩;go_simp;with_reducible rfl):p:=h
theorem zz44 {p:Prop} (h:p:=by have:=HM.out;omega):p:=h
theorem zz45 {p:Prop} (h:p:=by (with_reducible repeat (first|refine blk_drewN ?_ _|refine blk_drew ?_|refine blk_alloc ?_ _));exact BK364.out):p:=h
theorem zz46 {p:Prop} (h:p:=by repeat (first|exact HR0.out|(with_reducible refine Kd.C_alloc ?_ _)|(with_reducible refine Kd.C_drewN ?_ _)|(with_reducible refine Kd.C_drew ?_))):p:=h
theorem zz47 {p:Prop} (h:p:=by have:=HG.out;omega):p:=h
theorem zz48 {p:Prop} (h:p:=by (with_reducible repeat (first|apply Kd.R_alloc|apply Kd.R_drewN|apply Kd.R_drew));exact HO172.out):p:=h
theorem zz49 {p:Prop} (h:p:=by exact (by rw [hg];exact Nat.ne_of_lt (blk_lt (g:=gb380) (o:= .cells #[.slice A0_0 l0_0.length c0_0,.int .i64 a0_1,.int .i64 a0_2,.int .i64 a0_3,.slice A0_4 l0_4.length c0_4] 27 (0,0)) zz30):gb380≠gb381)):p:=h
theorem zz50 {p:Prop} (h:p:=by exact (by rw [hg];exact Nat.ne_of_gt (blk_lt (g:=gb380) (o:= .cells #[.slice A0_0 l0_0.length c0_0,.int .i64 a0_1,.int .i64 a0_2,.int .i64 a0_3,.slice A0_4 l0_4.length c0_4] 27 (0,0)) zz30):gb381≠gb380)):p:=h
theorem zz51 {p:Prop} (h:p:=by repeat (first|(with_reducible first|exact HBW.out|apply below_alloc|apply pw_below_drewN|apply below_drew1)|exact HBW.out)):p:=h
theorem zz52 {p:Prop} (h:p:=by repeat (first|(with_reducible first|exact HB.out|apply below_alloc|apply pw_below_drewN|apply below_drew1|refine below_set ?_ GE380.out|refine below_set ?_ GE381.out)|exact HB.out)):p:=h
theorem zz53 {p:Prop} (h:p:=by repeat (first|(with_reducible first|exact HB.out|apply below_alloc|apply pw_below_drewN|apply below_drew1|refine below_set ?_ GE363.out|refine below_set ?_ GE364.out)|exact HB.out)):p:=h
theorem zz54 {p:Prop} (h:p:=by repeat (first|(with_reducible first|exact HB.out|apply below_alloc|apply pw_below_drewN|apply below_drew1|refine below_set ?_ GE319.out|refine below_set ?_ GE322.out)|exact HB.out)):p:=h
theorem zz55 {p:Prop} (h:p:=by have:=HM.out;have:=HX2.out;omega):p:=h
theorem zz56 {p:Prop} (h:p:=by have:=B1.out;unfold pOk at this;rw [HO.out];exact this):p:=h
def IsS93 (w0 W:World) (g:Nat) (f0:List Int) (f1:Int):Prop:= ∃A0 c0,W.heap[g]? =some (.cells #[.slice A0 f0.length c0,.int .i64 f1] 93 (0,0))∧w0.heap.size≤g∧Kd.C (Kd.int .u8) w0 A0 f0.length f0
theorem IsS93.grown {w0 W:World} {g:Nat} {f0:List Int} {f1:Int} {W1:World} {row:Option Nat} (h:IsS93 w0 W g f0 f1) (hw:W.grownBy W1 row) (hne:some g≠row):IsS93 w0 W1 g f0 f1:=by
  obtain ⟨A0,c0,hb,hg,hr0⟩:=h;exact ⟨A0,c0,blk_grown hb hw hne,hg,hr0⟩
theorem IsS93.kept {w0 W:World} {g:Nat} {f0:List Int} {f1:Int} {W1:World} {S:Nat→Prop} (h:IsS93 w0 W g f0 f1) (hk:Kept W W1 S) (hne: ¬S g):IsS93 w0 W1 g f0 f1:=by
  obtain ⟨A0,c0,hb,hg,hr0⟩:=h;exact ⟨A0,c0,blk_kept hb hk hne,hg,hr0⟩
theorem IsS93.below {w0 W:World} {g:Nat} {f0:List Int} {f1:Int} {W1:World} (h:IsS93 w0 W g f0 f1) (hw:Below W.heap.size W W1):IsS93 w0 W1 g f0 f1:=h.grown (grown_of_below hw none) (by simp)
theorem IsS93.alloc {w0 W:World} {g:Nat} {f0:List Int} {f1:Int} (h:IsS93 w0 W g f0 f1) (o:Obj):IsS93 w0 (W.alloc o) g f0 f1:=h.below (below_alloc (Below.refl _ _) o)
theorem IsS93.drewN {w0 W:World} {g:Nat} {f0:List Int} {f1:Int} (h:IsS93 w0 W g f0 f1) (m:Nat):IsS93 w0 (W.drewN m) g f0 f1:=h
theorem IsS93.apart {w0 W:World} {g:Nat} {f0:List Int} {f1:Int} {α:Type} {d:Kd α} {e:Nat} {base:Nat} {ok:Nat→Prop} {v:Value} {xs:List α} (h:IsS93 w0 W g f0 f1) (ho:d.R e W base ok v xs) (ht: ∀q,q∈e::d.E→q≠93):d.R e W base (fun k=>ok k∧k≠g) v xs:=by
  obtain ⟨A0,c0,hb,hg,hr0⟩:=h;exact Kd.R_types ho hb ht
theorem IsS93.lt {w0 W:World} {g:Nat} {f0:List Int} {f1:Int} (h:IsS93 w0 W g f0 f1):g<W.heap.size:=by
  obtain ⟨A0,c0,hb,hg,hr0⟩:=h;exact blk_lt hb
theorem IsS93.ge {w0 W:World} {g:Nat} {f0:List Int} {f1:Int} (h:IsS93 w0 W g f0 f1):w0.heap.size≤g:=by
  obtain ⟨A0,c0,hb,hg,hr0⟩:=h;exact hg
theorem IsS93.far {w0 W:World} {g:Nat} {f0:List Int} {f1:Int} {p:Addr} (h:IsS93 w0 W g f0 f1) (hne:g≠p.block) (u:Value):IsS93 w0 (W.setCell p u) g f0 f1:=by
  obtain ⟨A0,c0,hb,hg,hr0⟩:=h;exact ⟨A0,c0,blk_far hb hne u,hg,hr0⟩
theorem cellS93_0 {W:World} {g:Nat} {A0:Option Addr} {c0:Nat} {f0:List Int} {f1:Int} (h:W.heap[g]? =some (.cells #[.slice A0 f0.length c0,.int .i64 f1] 93 (0,0))):W.cell? ⟨g,0,none⟩=some (.slice A0 f0.length c0):=(blk_cell h 0).trans rfl
theorem cellS93_1 {W:World} {g:Nat} {A0:Option Addr} {c0:Nat} {f0:List Int} {f1:Int} (h:W.heap[g]? =some (.cells #[.slice A0 f0.length c0,.int .i64 f1] 93 (0,0))):W.cell? ⟨g,1,none⟩=some (.int .i64 f1):=(blk_cell h 1).trans rfl
theorem IsS93.set_1 {w0 W:World} {g:Nat} {f0:List Int} {f1:Int} (h:IsS93 w0 W g f0 f1) (x:Int):IsS93 w0 (W.setCell ⟨g,1,none⟩ (.int .i64 x)) g f0 x:=by
  obtain ⟨A0,c0,hb,hg,hr0⟩:=h;exact ⟨A0,c0,by simpa using blk_set hb 1 (.int .i64 x),hg,hr0⟩
def spec_l6Open.f (l0:List Int):Option (List Int×Int):=if (l0.length:Int)>2000 then (if 2000≤(l0.length:Int) then (some (l0.take 2000,0)) else (none)) else (some (l0,0))
set_option maxHeartbeats 8000000 in
set_option maxRecDepth 100000 in
theorem spec_l6Open.calls (A0:Option Addr) (c0:Nat) (l0:List Int) (r1:List Int) (r2:Int) (w0 w:World) (hB:Below w0.heap.size w0 w) (hr0:Kd.C (Kd.int .u8) w0 A0 l0.length l0) (hc0:l0.length≤c0) (h:spec_l6Open.f l0=some (r1,r2)):
  Calls Try.prog 30 #[.slice A0 l0.length c0] w fun e w'=> ∃g_:Nat,e= .returned (.pointer (some ⟨g_,0,none⟩))∧IsS93 w0 w' g_ r1 r2∧Below w0.heap.size w0 w'∧Below w.heap.size w w':=by
 have hu93:=Try.underlying93;have HR0:=aK hr0;have HC0:=aK hc0;clear hr0 hc0;have HBW:=aK (Below.refl w.heap.size w);have HW0:=aK hB.size;have HB:=aK hB;clear hB;have H:(if (l0.length:Int)>2000 then (if 2000≤(l0.length:Int) then (some (l0.take 2000,0)) else (none)) else (some (l0,0)))=some (r1,r2):=h
 clear h;by_cases c2:(l0.length:Int)>2000
 ·rw [if_pos c2] at H
  have c2b0:decide (2000<(l0.length:Int))=true:=decide_eq_true c2
  have c2b1:decide (2000<l0.length)=true:=decide_eq_true (by omega)
  clear c2;by_cases c3:2000≤(l0.length:Int)
  ·rw [if_pos c3] at H
   have c3b0:=eq_true c3;have c3b1:decide (2000≤(l0.length:Int))=true:=decide_eq_true c3
   clear c3;simp only [Option.some.injEq,Prod.mk.injEq] at H;obtain ⟨rfl,rfl⟩:=H;obtain ⟨i04,hi04,_,hsz4,_⟩:=info_parts info5;obtain ⟨hcut4,hA4,hC4⟩:=print_take_of (P:=Try.prog) (Value.int .u8) 0 22 5 .i64 Try.underlying22 hi04 hsz4 A0 c0 l0 2000 (by omega) (of_decide_eq_true zz3) HC0.out;have HR101:=aK (Kd.C_of_reads (h1:=fun _=>rfl) (hA4 _ (Kd.reads_of_C HR0.out)));have HC101:=aK hC4;clear hA4 hC4 hi04 hsz4;go_enter Try.func30,Try.ntmps30
   go_wp2_with (first|((with_reducible refine gate_dst (N:=10) rfl ?_);refine box_event ?hg (N:=10) ?hd (cs:= #[.slice A0 (l0.take 2000).length c0,.int .i64 0]) (t:=93) ?hr ?_;(case hd=>rfl);(case hg=>rfl);(case hr=>first|(go_simp;done)|(go_simp;rfl));intro gb102 hg w5 hbox hb;have BK102:=aK (hbox);have GW102:=aK ((by rw [hg];exact (below_size zz51):w.heap.size≤gb102));have GE102:=aK ((Nat.le_trans HW0.out (by rw [hg];exact (below_size zz51):w.heap.size≤gb102):w0.heap.size≤gb102));replace HBW:=aK (below_step HBW.out hb);replace HB:=aK (below_step zz1 hb);clear hb hbox hg))
   go_ret;exact ⟨_,rfl,(show IsS93 w0 _ gb102 (l0.take 2000) 0 from ⟨_,_,by (with_reducible repeat (first|refine blk_drewN ?_ _|refine blk_drew ?_|refine blk_alloc ?_ _));exact BK102.out,GE102.out,HR101.out⟩),by repeat (first|(with_reducible first|exact HB.out|apply below_alloc|apply pw_below_drewN|apply below_drew1|refine below_set ?_ GE102.out)|exact HB.out),by repeat (first|(with_reducible first|exact HBW.out|apply below_alloc|apply pw_below_drewN|apply below_drew1|refine below_set ?_ GW102.out)|exact HBW.out)⟩
  ·rw [if_neg c3] at H
   exact absurd H (by simp)
 ·rw [if_neg c2] at H
  have c2b0:decide (2000<(l0.length:Int))=false:=decide_eq_false c2
  have c2b1:decide (2000<l0.length)=false:=decide_eq_false (by omega)
  clear c2;simp only [Option.some.injEq,Prod.mk.injEq] at H;obtain ⟨rfl,rfl⟩:=H;go_enter Try.func30,Try.ntmps30
  go_wp2_with (first|((with_reducible refine gate_dst (N:=10) rfl ?_);refine box_event ?hg (N:=10) ?hd (cs:= #[.slice A0 l0.length c0,.int .i64 0]) (t:=93) ?hr ?_;(case hd=>rfl);(case hg=>rfl);(case hr=>first|(go_simp;done)|(go_simp;rfl));intro gb103 hg w6 hbox hb;have BK103:=aK (hbox);have GW103:=aK ((by rw [hg];exact (below_size zz51):w.heap.size≤gb103));have GE103:=aK ((Nat.le_trans HW0.out (by rw [hg];exact (below_size zz51):w.heap.size≤gb103):w0.heap.size≤gb103));replace HBW:=aK (below_step HBW.out hb);replace HB:=aK (below_step zz1 hb);clear hb hbox hg))
  go_ret;exact ⟨_,rfl,(show IsS93 w0 _ gb103 l0 0 from ⟨_,_,by (with_reducible repeat (first|refine blk_drewN ?_ _|refine blk_drew ?_|refine blk_alloc ?_ _));exact BK103.out,GE103.out,HR0.out⟩),by repeat (first|(with_reducible first|exact HB.out|apply below_alloc|apply pw_below_drewN|apply below_drew1|refine below_set ?_ GE103.out)|exact HB.out),by repeat (first|(with_reducible first|exact HBW.out|apply below_alloc|apply pw_below_drewN|apply below_drew1|refine below_set ?_ GW103.out)|exact HBW.out)⟩
def spec_l6Rd_pick.j0:Nat→Int→Bool→List Int→Int→Option (Int×Int)
  |0,_,_,_,_=>none
  |k+1,x1,x24,x1000,x1001=>if x24=true then (some (0,x1001)) else (if (wrap64 (x1001 - 1))<(x1000.length:Int) then (if 0≤(wrap64 (x1001 - 1)) then (if x1=0 then (none) else (some (Int.tmod (wrap64 (rd x1000 (wrap64 (x1001 - 1)))) x1,x1001))) else (none)) else (if (x1000.length:Int)=0 then (none) else (if 0≤(Int.tmod (wrap64 (x1001 - 1)) (x1000.length:Int)) then (if (Int.tmod (wrap64 (x1001 - 1)) (x1000.length:Int))<(x1000.length:Int) then (if 0≤(Int.tmod (wrap64 ((wrap64 ((wrap64 (x1001 - 1))*7))+3)) (x1000.length:Int)) then (if (Int.tmod (wrap64 ((wrap64 ((wrap64 (x1001 - 1))*7))+3)) (x1000.length:Int))<(x1000.length:Int) then (if x1=0 then (none) else (some (Int.tmod (Go.bits .xor .i64 (wrap64 ((wrap64 ((wrap64 ((wrap64 ((wrap64 (rd x1000 (Int.tmod (wrap64 (x1001 - 1)) (x1000.length:Int))))*131))+(wrap64 ((wrap64 (rd x1000 (Int.tmod (wrap64 ((wrap64 ((wrap64 (x1001 - 1))*7))+3)) (x1000.length:Int))))*1117))))+(wrap64 ((wrap64 (x1001 - 1))*29))))+(wrap64 ((wrap64 (Int.tdiv (wrap64 (x1001 - 1)) (x1000.length:Int)))*53)))) (wrap64 (Int.tdiv (wrap64 ((wrap64 ((wrap64 ((wrap64 ((wrap64 (rd x1000 (Int.tmod (wrap64 (x1001 - 1)) (x1000.length:Int))))*131))+(wrap64 ((wrap64 (rd x1000 (Int.tmod (wrap64 ((wrap64 ((wrap64 (x1001 - 1))*7))+3)) (x1000.length:Int))))*1117))))+(wrap64 ((wrap64 (x1001 - 1))*29))))+(wrap64 ((wrap64 (Int.tdiv (wrap64 (x1001 - 1)) (x1000.length:Int)))*53)))) 64))) x1,x1001))) else (none)) else (none)) else (none)) else (none))))
def spec_l6Rd_pick.f (k:Nat) (s0_0:List Int) (s0_1:Int) (a1:Int):Option (Int×Int):=if a1<1 then (spec_l6Rd_pick.j0 k a1 true s0_0 (wrap64 (s0_1+1))) else (spec_l6Rd_pick.j0 k a1 ((s0_0.length:Int)==0) s0_0 (wrap64 (s0_1+1)))
set_option maxHeartbeats 8000000 in
set_option maxRecDepth 100000 in
theorem spec_l6Rd_pick.calls (k : Nat) (g : Nat) (s0_0 : List Int) (s0_1 : Int) (a1 : Int) (r1 : Int) (r2 : Int) (w0 w : World) (hI : IsS93 w0 w g s0_0 s0_1) (hB : Below w0.heap.size w0 w) (h : spec_l6Rd_pick.f k s0_0 s0_1 a1 = some (r1, r2)) :
  Calls Try.prog 33 #[.pointer (some ⟨g,0,none⟩),.int .i64 a1] w fun e w'=>e= .returned (.int .i64 r1)∧IsS93 w0 w' g s0_0 r2∧Below w0.heap.size w0 w'∧KeepBut w w' g none:=by
 have HI0:=aK hI;have HK:=aK (KeepBut.refl w g none);have HL:=aK hB.size;clear hI;have HW0:=aK hB.size;have HB:=aK hB;clear hB;have H:(if a1<1 then (spec_l6Rd_pick.j0 k a1 true s0_0 (wrap64 (s0_1+1))) else (spec_l6Rd_pick.j0 k a1 ((s0_0.length:Int)==0) s0_0 (wrap64 (s0_1+1))))=some (r1,r2):=h
 clear h;have HC3:=aK H;clear H;obtain ⟨ASz4_0,cSz4_0,HGz4,hgz4,HSz4_0⟩:=HI0.out;have hcz4_0:=cellS93_0 HGz4;have hcz4_1:=cellS93_1 HGz4;have hfz4_1:=blk_frozen HGz4 1;clear HGz4 hgz4;go_enter Try.func33,Try.ntmps33
 go_upto_region 2 with (fail)
 repeat (go_quiet (fail);go_upto_region 2 with (fail))
 go_cut [24] (fun v24 wc=> ∃(kq:Nat) (x24_2:Bool),v24= .bool x24_2∧Aside0 (spec_l6Rd_pick.j0 kq a1 x24_2 s0_0 (wrap64 (s0_1+1))=some (r1,r2))∧Aside0 (kq≤k)∧Aside0 (IsS93 w0 wc g s0_0 (wrap64 (s0_1+1)))∧Aside0 (KeepBut w wc g none)∧Aside0 (Below w0.heap.size w0 wc))
 case first=>
  have H:=HC3.out;clear HC3;by_cases c5:a1<1
  ·rw [if_pos c5] at H
   have c5b0:decide (a1<1)=true:=decide_eq_true c5
   clear c5
   (first|rw [c5b0]|(simp only [i64_w,i32_w];rw [c5b0])|skip)
   have H':=aK H;clear H;go_wp2;repeat (go_quiet (fail);try go_wp2)
   go_meet
   case rel=>exact ⟨_,(true),zz7,H',⟨by first|omega|exact Nat.le_refl _⟩,⟨by repeat (first|(with_reducible first|exact HI0.out|apply IsS93.alloc|apply IsS93.drewN|apply IsS93.drew|apply IsS93.set_1)|exact HI0.out)⟩,⟨by repeat (first|(with_reducible first|exact HK.out|apply KeepBut.set_|apply keep_drewN|apply keep_drew|apply keep_alloc)|exact HK.out)⟩,⟨by repeat (first|(with_reducible first|exact HB.out|apply below_alloc|apply pw_below_drewN|apply below_drew1|refine below_set ?_ (IsS93.ge HI0.out))|exact HB.out)⟩⟩
  ·rw [if_neg c5] at H
   have c5b0:decide (a1<1)=false:=decide_eq_false c5
   clear c5
   (first|rw [c5b0]|(simp only [i64_w,i32_w];rw [c5b0])|skip)
   have H':=aK H;clear H;obtain ⟨ASz6_0,cSz6_0,HGz6,hgz6,HSz6_0⟩:=HI0.out;have hcz6_0:=cellS93_0 HGz6;have hcz6_1:=cellS93_1 HGz6;have hfz6_1:=blk_frozen HGz6 1;clear HGz6 hgz6;go_wp2;repeat (go_quiet (fail);try go_wp2)
   go_meet
   case rel=>exact ⟨_,(((s0_0.length:Int)==0)),zz7,H',⟨by first|omega|exact Nat.le_refl _⟩,⟨by repeat (first|(with_reducible first|exact HI0.out|apply IsS93.alloc|apply IsS93.drewN|apply IsS93.drew|apply IsS93.set_1)|exact HI0.out)⟩,⟨by repeat (first|(with_reducible first|exact HK.out|apply KeepBut.set_|apply keep_drewN|apply keep_drew|apply keep_alloc)|exact HK.out)⟩,⟨by repeat (first|(with_reducible first|exact HB.out|apply below_alloc|apply pw_below_drewN|apply below_drew1|refine below_set ?_ (IsS93.ge HI0.out))|exact HB.out)⟩⟩
 case rest =>
  clear HC3;(try clear p2);(try clear c3);(try clear c5);(try clear c5b0);(try clear p6);(try clear hcz4_0);(try clear hcz4_1);(try clear hcz6_0);(try clear hcz6_1);(try clear hfz4_1);(try clear hfz6_1);obtain ⟨kq,x24_2,rfl,HA,HJ2,HI0,HK,HB⟩:=hcut
  cases kq with
  |zero=>exact absurd HA.out (by simp [spec_l6Rd_pick.j0])
  | succ kj2 =>
   have H:=HA.out;clear HA;simp only [spec_l6Rd_pick.j0] at H;by_cases c7:x24_2=true
   ·subst c7
    rw [if_pos rfl] at H;simp only [Option.some.injEq,Prod.mk.injEq] at H;obtain ⟨rfl,rfl⟩:=H;go_wp2;repeat (go_quiet (fail);try go_wp2)
    go_ret;exact ⟨by first|rfl|(simp [errW_none,errW_some]<;>rfl)|(simp [*,errW_none,errW_some]<;>rfl),by repeat (first|(with_reducible first|exact HI0.out|apply IsS93.alloc|apply IsS93.drewN|apply IsS93.drew|apply IsS93.set_1)|exact HI0.out),by repeat (first|(with_reducible first|exact HB.out|apply below_alloc|apply pw_below_drewN|apply below_drew1|refine below_set ?_ (IsS93.ge HI0.out))|exact HB.out),by repeat (first|(with_reducible first|exact HK.out|apply KeepBut.set_|apply keep_drewN|apply keep_drew|apply keep_alloc)|exact HK.out)⟩
   ·replace c7 := Bool.eq_false_iff.mpr c7
    subst c7;rw [if_neg (show¬(false=true) by decide)] at H;by_cases c8:(wrap64 ((wrap64 (s0_1+1)) - 1))<(s0_0.length:Int)
    ·rw [if_pos c8] at H
     have c8b0:decide ((wrap64 ((wrap64 (s0_1+1)) - 1))<(s0_0.length:Int))=true:=decide_eq_true c8
     clear c8;obtain ⟨ji9,hji9⟩: ∃j_:Int,(wrap64 ((wrap64 (s0_1+1)) - 1))=j_:=⟨_,rfl⟩;replace H:(if 0≤(ji9) then (if a1=0 then (none) else (some (Int.tmod (wrap64 (rd s0_0 (ji9))) a1,(wrap64 (s0_1+1))))) else (none))=some (r1,r2):=by first|(rw [hji9] at H;exact H)|(simp only [hji9] at H ⊢;exact H)
     (try rw [hji9] at c8b0)
     have hji9w:(IntKind.i64.wrap ((wrap64 (s0_1+1)) - 1))=ji9:=(i64_w _).trans hji9
     by_cases c10:0≤(ji9)
     ·rw [if_pos c10] at H
      have c10b0:decide (0≤(ji9))=true:=decide_eq_true c10
      clear c10;by_cases c11:a1=0
      ·rw [if_pos c11] at H
       exact absurd H (by simp)
      ·rw [if_neg c11] at H
       have c11b0:(a1==0)=false:=beq_eq_false_iff_ne.mpr c11
       have c11b1:(a1 !=0)=true:=bne_iff_ne.mpr c11
       simp only [Option.some.injEq,Prod.mk.injEq] at H;obtain ⟨rfl,rfl⟩:=H;obtain ⟨ASz12_0,cSz12_0,HGz12,hgz12,HSz12_0⟩:=HI0.out;have hcz12_0:=cellS93_0 HGz12;have hcz12_1:=cellS93_1 HGz12;have hfz12_1:=blk_frozen HGz12 1;clear HGz12 hgz12;have p104:0≤((ji9):Int):=of_decide_eq_true zz3
       have q104:(ji9)<(s0_0.length:Int):=of_decide_eq_true zz3
       obtain ⟨ad104,e104,hx104_0⟩:=Kd.at_int HSz12_0 (ji9) p104 q104
       cases e104
       replace hx104_0:=pw_cell_below HB.out hx104_0;replace p104:=eq_true p104;replace q104:=eq_true q104;go_wp2;repeat (go_quiet (fail);try go_wp2)
       go_ret;exact ⟨by first|rfl|(simp [errW_none,errW_some]<;>rfl)|(simp only [←hji9];first|rfl|(simp [errW_none,errW_some]<;>rfl))|(simp [*,errW_none,errW_some]<;>rfl),by repeat (first|(with_reducible first|exact HI0.out|apply IsS93.alloc|apply IsS93.drewN|apply IsS93.drew|apply IsS93.set_1)|exact HI0.out),by repeat (first|(with_reducible first|exact HB.out|apply below_alloc|apply pw_below_drewN|apply below_drew1|refine below_set ?_ (IsS93.ge HI0.out))|exact HB.out),by repeat (first|(with_reducible first|exact HK.out|apply KeepBut.set_|apply keep_drewN|apply keep_drew|apply keep_alloc)|exact HK.out)⟩
     ·rw [if_neg c10] at H
      exact absurd H (by simp)
    ·rw [if_neg c8] at H
     have c8b0:decide ((wrap64 ((wrap64 (s0_1+1)) - 1))<(s0_0.length:Int))=false:=decide_eq_false c8
     clear c8;by_cases c13:(s0_0.length:Int)=0
     ·rw [if_pos c13] at H
      exact absurd H (by simp)
     ·rw [if_neg c13] at H
      have c13b0:((s0_0.length:Int)==0)=false:=beq_eq_false_iff_ne.mpr c13
      have c13b1:((s0_0.length:Int) !=0)=true:=bne_iff_ne.mpr c13
      have c13b2: ¬(s0_0=[]):=fun h_=>c13 (by rw [h_];rfl)
      obtain ⟨ji14,hji14⟩: ∃j_:Int,(Int.tmod (wrap64 ((wrap64 (s0_1+1)) - 1)) (s0_0.length:Int))=j_:=⟨_,rfl⟩;replace H:(if 0≤(ji14) then (if (ji14)<(s0_0.length:Int) then (if 0≤(Int.tmod (wrap64 ((wrap64 ((wrap64 ((wrap64 (s0_1+1)) - 1))*7))+3)) (s0_0.length:Int)) then (if (Int.tmod (wrap64 ((wrap64 ((wrap64 ((wrap64 (s0_1+1)) - 1))*7))+3)) (s0_0.length:Int))<(s0_0.length:Int) then (if a1=0 then (none) else (some (Int.tmod (Go.bits .xor .i64 (wrap64 ((wrap64 ((wrap64 ((wrap64 ((wrap64 (rd s0_0 (ji14)))*131))+(wrap64 ((wrap64 (rd s0_0 (Int.tmod (wrap64 ((wrap64 ((wrap64 ((wrap64 (s0_1+1)) - 1))*7))+3)) (s0_0.length:Int))))*1117))))+(wrap64 ((wrap64 ((wrap64 (s0_1+1)) - 1))*29))))+(wrap64 ((wrap64 (Int.tdiv (wrap64 ((wrap64 (s0_1+1)) - 1)) (s0_0.length:Int)))*53)))) (wrap64 (Int.tdiv (wrap64 ((wrap64 ((wrap64 ((wrap64 ((wrap64 (rd s0_0 (ji14)))*131))+(wrap64 ((wrap64 (rd s0_0 (Int.tmod (wrap64 ((wrap64 ((wrap64 ((wrap64 (s0_1+1)) - 1))*7))+3)) (s0_0.length:Int))))*1117))))+(wrap64 ((wrap64 ((wrap64 (s0_1+1)) - 1))*29))))+(wrap64 ((wrap64 (Int.tdiv (wrap64 ((wrap64 (s0_1+1)) - 1)) (s0_0.length:Int)))*53)))) 64))) a1,(wrap64 (s0_1+1))))) else (none)) else (none)) else (none)) else (none))=some (r1,r2):=by first|(rw [hji14] at H;exact H)|(simp only [hji14] at H ⊢;exact H)
      by_cases c15:0≤(ji14)
      ·rw [if_pos c15] at H
       have c15b0:decide (0≤(ji14))=true:=decide_eq_true c15
       clear c15;by_cases c16:(ji14)<(s0_0.length:Int)
       ·rw [if_pos c16] at H
        have c16b0:decide ((ji14)<(s0_0.length:Int))=true:=decide_eq_true c16
        clear c16;obtain ⟨ji17,hji17⟩: ∃j_:Int,(Int.tmod (wrap64 ((wrap64 ((wrap64 ((wrap64 (s0_1+1)) - 1))*7))+3)) (s0_0.length:Int))=j_:=⟨_,rfl⟩;replace H:(if 0≤(ji17) then (if (ji17)<(s0_0.length:Int) then (if a1=0 then (none) else (some (Int.tmod (Go.bits .xor .i64 (wrap64 ((wrap64 ((wrap64 ((wrap64 ((wrap64 (rd s0_0 (ji14)))*131))+(wrap64 ((wrap64 (rd s0_0 (ji17)))*1117))))+(wrap64 ((wrap64 ((wrap64 (s0_1+1)) - 1))*29))))+(wrap64 ((wrap64 (Int.tdiv (wrap64 ((wrap64 (s0_1+1)) - 1)) (s0_0.length:Int)))*53)))) (wrap64 (Int.tdiv (wrap64 ((wrap64 ((wrap64 ((wrap64 ((wrap64 (rd s0_0 (ji14)))*131))+(wrap64 ((wrap64 (rd s0_0 (ji17)))*1117))))+(wrap64 ((wrap64 ((wrap64 (s0_1+1)) - 1))*29))))+(wrap64 ((wrap64 (Int.tdiv (wrap64 ((wrap64 (s0_1+1)) - 1)) (s0_0.length:Int)))*53)))) 64))) a1,(wrap64 (s0_1+1))))) else (none)) else (none))=some (r1,r2):=by first|(rw [hji17] at H;exact H)|(simp only [hji17] at H ⊢;exact H)
        by_cases c18:0≤(ji17)
        ·rw [if_pos c18] at H
         have c18b0:decide (0≤(ji17))=true:=decide_eq_true c18
         clear c18;by_cases c19:(ji17)<(s0_0.length:Int)
         ·rw [if_pos c19] at H
          have c19b0:decide ((ji17)<(s0_0.length:Int))=true:=decide_eq_true c19
          clear c19;by_cases c20:a1=0
          ·rw [if_pos c20] at H
           exact absurd H (by simp)
          ·rw [if_neg c20] at H
           have c20b0:(a1==0)=false:=beq_eq_false_iff_ne.mpr c20
           have c20b1:(a1 !=0)=true:=bne_iff_ne.mpr c20
           simp only [Option.some.injEq,Prod.mk.injEq] at H;obtain ⟨rfl,rfl⟩:=H;obtain ⟨ASz21_0,cSz21_0,HGz21,hgz21,HSz21_0⟩:=HI0.out;have hcz21_0:=cellS93_0 HGz21;have hcz21_1:=cellS93_1 HGz21;have hfz21_1:=blk_frozen HGz21 1;clear HGz21 hgz21;have p105:0≤((ji14):Int):=of_decide_eq_true zz3
           have q105:(ji14)<(s0_0.length:Int):=of_decide_eq_true zz3
           obtain ⟨ad105,e105,hx105_0⟩:=Kd.at_int HSz21_0 (ji14) p105 q105
           cases e105
           replace hx105_0:=pw_cell_below HB.out hx105_0;replace p105:=eq_true p105;replace q105:=eq_true q105;have p106:0≤((ji17):Int):=of_decide_eq_true zz3
           have q106:(ji17)<(s0_0.length:Int):=of_decide_eq_true zz3
           obtain ⟨ad106,e106,hx106_0⟩:=Kd.at_int HSz21_0 (ji17) p106 q106;obtain rfl:ad105=ad106:=(by injection e106);replace hx106_0:=pw_cell_below HB.out hx106_0;replace p106:=eq_true p106;replace q106:=eq_true q106;go_wp2;repeat (go_quiet (fail);try go_wp2)
           go_ret;exact ⟨by first|rfl|(simp [errW_none,errW_some]<;>rfl)|(simp only [←hji14,←hji17];first|rfl|(simp [errW_none,errW_some]<;>rfl))|(simp [*,errW_none,errW_some]<;>rfl),by repeat (first|(with_reducible first|exact HI0.out|apply IsS93.alloc|apply IsS93.drewN|apply IsS93.drew|apply IsS93.set_1)|exact HI0.out),by repeat (first|(with_reducible first|exact HB.out|apply below_alloc|apply pw_below_drewN|apply below_drew1|refine below_set ?_ (IsS93.ge HI0.out))|exact HB.out),by repeat (first|(with_reducible first|exact HK.out|apply KeepBut.set_|apply keep_drewN|apply keep_drew|apply keep_alloc)|exact HK.out)⟩
         ·rw [if_neg c19] at H
          exact absurd H (by simp)
        ·rw [if_neg c18] at H
         exact absurd H (by simp)
       ·rw [if_neg c16] at H
        exact absurd H (by simp)
      ·rw [if_neg c15] at H
       exact absurd H (by simp)
def spec_l71Word.f (k:Nat) (s0_0:List Int) (s0_1:Int):Option (Int×Int):=(spec_l6Rd_pick.f k s0_0 s0_1 3).bind fun bt107=>(if bt107.1=0 then ((some (([0,1,2,(-1),(-128),127]:List Int):List Int)).bind fun y109=>((spec_l6Rd_pick.f k s0_0 bt107.2 6).bind fun bt112=>(if 0≤bt112.1 then (if bt112.1<(y109.length:Int) then (some (rd y109 bt112.1,bt112.2)) else (none)) else (none)))) else ((spec_l6Rd_pick.f k s0_0 bt107.2 12).bind fun bt115=>(some (wrap64 (bt115.1 - 3),bt115.2))))
set_option maxHeartbeats 8000000 in
set_option maxRecDepth 100000 in
theorem spec_l71Word.calls (k:Nat) (g:Nat) (s0_0:List Int) (s0_1:Int) (r1:Int) (r2:Int) (w0 w:World) (hI:IsS93 w0 w g s0_0 s0_1) (hB:Below w0.heap.size w0 w) (h:spec_l71Word.f k s0_0 s0_1=some (r1,r2)):
  Calls Try.prog 32 #[.pointer (some ⟨g,0,none⟩)] w fun e w'=>e= .returned (.int .i64 r1)∧IsS93 w0 w' g s0_0 r2∧Below w0.heap.size w0 w'∧KeepBut w w' g none:=by
 have HI0:=aK hI;have HK:=aK (KeepBut.refl w g none);have HL:=aK hB.size;clear hI;have HW0:=aK hB.size;have HB:=aK hB;clear hB;have H:((spec_l6Rd_pick.f k s0_0 s0_1 3).bind fun bt107=>(if bt107.1=0 then ((some (([0,1,2,(-1),(-128),127]:List Int):List Int)).bind fun y109=>((spec_l6Rd_pick.f k s0_0 bt107.2 6).bind fun bt112=>(if 0≤bt112.1 then (if bt112.1<(y109.length:Int) then (some (rd y109 bt112.1,bt112.2)) else (none)) else (none)))) else ((spec_l6Rd_pick.f k s0_0 bt107.2 12).bind fun bt115=>(some (wrap64 (bt115.1 - 3),bt115.2)))))=some (r1,r2):=h
 clear h;replace H:=Option.bind_eq_some_iff.mp H;obtain ⟨⟨t107,t108⟩,A20,H⟩:=H;(try dsimp only at H);have A2:=aK A20;clear A20;by_cases c3:t107=0
 ·rw [if_pos c3] at H
  have c3b0:(t107==0)=true:=beq_iff_eq.mpr c3
  have c3b1:(t107 !=0)=false:=bne_eq_false_iff_eq.mpr c3
  clear c3;obtain ⟨y109,hy109⟩: ∃y_:List Int,y_=(([0,1,2,(-1),(-128),127]:List Int)):=⟨_,rfl⟩;replace H:((spec_l6Rd_pick.f k s0_0 t108 6).bind fun bt112=>(if 0≤bt112.1 then (if bt112.1<(y109.length:Int) then (some (rd y109 bt112.1,bt112.2)) else (none)) else (none)))=some (r1,r2):=by first|(rw [hy109];with_reducible exact H)|(have H2_:=(Option.bind_some _ _).symm.trans H;rw [hy109];with_reducible exact H2_)|(have H2_:=(Option.bind_some _ _).symm.trans H;with_reducible exact H2_)|with_reducible exact H|(rw [hy109];exact H)|exact H
  have Ny109:=aK hy109;clear hy109;replace H:=Option.bind_eq_some_iff.mp H;obtain ⟨⟨t112,t113⟩,A40,H⟩:=H;(try dsimp only at H);have A4:=aK A40;clear A40;by_cases c5:0≤t112
  ·rw [if_pos c5] at H
   have c5b0:decide (0≤t112)=true:=decide_eq_true c5
   clear c5;by_cases c6:t112<(y109.length:Int)
   ·rw [if_pos c6] at H
    have c6b0:decide (t112<(y109.length:Int))=true:=decide_eq_true c6
    clear c6;simp only [Option.some.injEq,Prod.mk.injEq] at H;obtain ⟨rfl,rfl⟩:=H;go_enter Try.func32,Try.ntmps32
    go_wp2_with (first|((with_reducible refine gate_callee (f:=33) rfl ?_);refine goesL_ (some 4) rfl rfl Try.func33 (by kernel_rfl) rfl #[.pointer (some ⟨g,0,none⟩),.int .i64 3] rfl zz2 ?_;(with_reducible refine (spec_l6Rd_pick.calls k g s0_0 s0_1 3 t107 t108 w0 _ ?side1 ?side2 A2.out).mono ?_);(case side1=>exact zz31);(case side2=>exact zz26);rintro e w7 ⟨rfl,hi,hb,hk⟩;refine ⟨_,rfl,?_⟩;replace HK:=aK (KeepBut.trans zz27 hk (.inl rfl));replace HB:=aK (hb);replace HI0:=aK (hi);(try clear hb);(try clear hb2);(try clear hk);(try clear hi))|((with_reducible refine gate_dst (N:=6) rfl ?_);refine Kd.R_lit (Kd.int .i64) _ 3 ?hg (N:=6) ?hd (xs:=([0,1,2,(-1),(-128),127]:List Int)) (inner:=[.int .i64 0,.int .i64 1,.int .i64 2,.int .i64 (-1),.int .i64 (-128),.int .i64 127]) (ok:=fun _=>True) (okp:=fun _=>True) ?hr ?hp (fun _ hk=>hk) trivial (Below.refl _ _) (Nat.le_refl _) (by simp) ?_;(case hd=>rfl);(case hg=>rfl);(case hr=>first|(go_simp;done)|(go_simp;rfl));(case hp=>exact (Reps.one (show Kd.M (Kd.int .i64) _ _ _ 0 [.int .i64 0] from rfl) (Reps.one (show Kd.M (Kd.int .i64) _ _ _ 1 [.int .i64 1] from rfl) (Reps.one (show Kd.M (Kd.int .i64) _ _ _ 2 [.int .i64 2] from rfl) (Reps.one (show Kd.M (Kd.int .i64) _ _ _ (-1) [.int .i64 (-1)] from rfl) (Reps.one (show Kd.M (Kd.int .i64) _ _ _ (-128) [.int .i64 (-128)] from rfl) (Reps.one (show Kd.M (Kd.int .i64) _ _ _ 127 [.int .i64 127] from rfl) (Reps.none _ _))))))));intro v110 w8 ho9 hb hg_ hnew_;clear hg_ hnew_;(first|rw [←Ny109.out] at ho9|(simp only [Int.reduceToNat] at ho9;rw [←Ny109.out] at ho9));have HO111:=aK (Kd.R_lower ho9 (keep_size (w:=w) (g:=g) (row:=none) zz27));replace HK:=aK (KeepBut.trans zz27 (KeepBut.of_below hb g none) (.inl rfl));replace HB:=aK (below_step zz26 hb);replace HI0:=aK (IsS93.below zz31 hb);clear hb ho9)|((with_reducible refine gate_callee (f:=33) rfl ?_);refine goesL_ (some 8) rfl rfl Try.func33 (by kernel_rfl) rfl #[.pointer (some ⟨g,0,none⟩),.int .i64 6] rfl zz2 ?_;(with_reducible refine (spec_l6Rd_pick.calls k g s0_0 t108 6 t112 t113 w0 _ ?side1 ?side2 A4.out).mono ?_);(case side1=>exact zz31);(case side2=>exact zz26);rintro e w10 ⟨rfl,hi,hb,hk⟩;refine ⟨_,rfl,?_⟩;replace HO111:=aK (Kd.R_mono (Kd.R_keep (IsS93.apart (show IsS93 w0 _ g s0_0 t108 from by repeat (first|(with_reducible first|exact HI0.out|apply IsS93.alloc|apply IsS93.drewN|apply IsS93.drew|apply IsS93.set_1)|exact HI0.out)) (by (with_reducible repeat (first|apply Kd.R_alloc|apply Kd.R_drewN|apply Kd.R_drew));exact HO111.out) (by decide)) hk (fun _ h=>h.2)) (fun _ h=>h.1));replace HK:=aK (KeepBut.trans zz27 hk (.inl rfl));replace HB:=aK (hb);replace HI0:=aK (hi);(try clear hb);(try clear hb2);(try clear hk);(try clear hi);obtain ⟨Ao11,co11,eo11⟩:=Kd.R_slice HO111.out;subst eo11;have p114:0≤(t112:Int):=of_decide_eq_true zz3;have q114:t112<(y109.length:Int):=of_decide_eq_true zz3;obtain ⟨ad114,e114,hx114_0⟩:=Kd.at_int (Kd.R_reads' HO111.out).2.2 t112 p114 q114;cases e114;replace p114:=eq_true p114;replace q114:=eq_true q114))
    go_ret;exact ⟨by first|rfl|(simp [errW_none,errW_some]<;>rfl)|(simp [*,errW_none,errW_some]<;>rfl),by repeat (first|(with_reducible first|exact HI0.out|apply IsS93.alloc|apply IsS93.drewN|apply IsS93.drew|apply IsS93.set_1)|exact HI0.out),by repeat (first|(with_reducible first|exact HB.out|apply below_alloc|apply pw_below_drewN|apply below_drew1|refine below_set ?_ (IsS93.ge HI0.out))|exact HB.out),by repeat (first|(with_reducible first|exact HK.out|apply KeepBut.set_|apply keep_drewN|apply keep_drew|apply keep_alloc)|exact HK.out)⟩
   ·rw [if_neg c6] at H
    exact absurd H (by simp)
  ·rw [if_neg c5] at H
   exact absurd H (by simp)
 ·rw [if_neg c3] at H
  have c3b0:(t107==0)=false:=beq_eq_false_iff_ne.mpr c3
  have c3b1:(t107 !=0)=true:=bne_iff_ne.mpr c3
  replace H:=Option.bind_eq_some_iff.mp H;obtain ⟨⟨t115,t116⟩,A120,H⟩:=H;(try dsimp only at H);have A12:=aK A120;clear A120;simp only [Option.some.injEq,Prod.mk.injEq] at H;obtain ⟨rfl,rfl⟩:=H;go_enter Try.func32,Try.ntmps32
  go_wp2_with (first|((with_reducible refine gate_callee (f:=33) rfl ?_);refine goesL_ (some 4) rfl rfl Try.func33 (by kernel_rfl) rfl #[.pointer (some ⟨g,0,none⟩),.int .i64 3] rfl zz2 ?_;(with_reducible refine (spec_l6Rd_pick.calls k g s0_0 s0_1 3 t107 t108 w0 _ ?side1 ?side2 A2.out).mono ?_);(case side1=>exact zz31);(case side2=>exact zz26);rintro e w13 ⟨rfl,hi,hb,hk⟩;refine ⟨_,rfl,?_⟩;replace HK:=aK (KeepBut.trans zz27 hk (.inl rfl));replace HB:=aK (hb);replace HI0:=aK (hi);(try clear hb);(try clear hb2);(try clear hk);(try clear hi))|((with_reducible refine gate_callee (f:=33) rfl ?_);refine goesL_ (some 12) rfl rfl Try.func33 (by kernel_rfl) rfl #[.pointer (some ⟨g,0,none⟩),.int .i64 12] rfl zz2 ?_;(with_reducible refine (spec_l6Rd_pick.calls k g s0_0 t108 12 t115 t116 w0 _ ?side1 ?side2 A12.out).mono ?_);(case side1=>exact zz31);(case side2=>exact zz26);rintro e w14 ⟨rfl,hi,hb,hk⟩;refine ⟨_,rfl,?_⟩;replace HK:=aK (KeepBut.trans zz27 hk (.inl rfl));replace HB:=aK (hb);replace HI0:=aK (hi);(try clear hb);(try clear hb2);(try clear hk);(try clear hi)))
  go_ret;exact ⟨by first|rfl|(simp [errW_none,errW_some]<;>rfl)|(simp [*,errW_none,errW_some]<;>rfl),by repeat (first|(with_reducible first|exact HI0.out|apply IsS93.alloc|apply IsS93.drewN|apply IsS93.drew|apply IsS93.set_1)|exact HI0.out),by repeat (first|(with_reducible first|exact HB.out|apply below_alloc|apply pw_below_drewN|apply below_drew1|refine below_set ?_ (IsS93.ge HI0.out))|exact HB.out),by repeat (first|(with_reducible first|exact HK.out|apply KeepBut.set_|apply keep_drewN|apply keep_drew|apply keep_alloc)|exact HK.out)⟩
def spec_l71Field.j0:Nat→Int→Int→Bool→List Int→Int→Option (Int×Int)
  |0,_,_,_,_,_=>none
  |k+1,x1,x6,x7,x1000,x1001=>if x7=true then (some (1,x1001)) else (if x6=2 then (some (3,x1001)) else (if x6=3 then (some (4,x1001)) else ((spec_l6Rd_pick.f k x1000 x1001 x1).bind fun bt119=>(some (wrap64 (8+bt119.1),bt119.2)))))
def spec_l71Field.f (k:Nat) (s0_0:List Int) (s0_1:Int) (a1:Int):Option (Int×Int):=(spec_l6Rd_pick.f k s0_0 s0_1 6).bind fun bt117=>(if bt117.1=0 then (spec_l71Field.j0 k a1 bt117.1 (bt117.1==0) s0_0 bt117.2) else (spec_l71Field.j0 k a1 bt117.1 (bt117.1==1) s0_0 bt117.2))
set_option maxHeartbeats 8000000 in
set_option maxRecDepth 100000 in
theorem spec_l71Field.calls (k:Nat) (g:Nat) (s0_0:List Int) (s0_1:Int) (a1:Int) (r1:Int) (r2:Int) (w0 w:World) (hI:IsS93 w0 w g s0_0 s0_1) (hB:Below w0.heap.size w0 w) (h:spec_l71Field.f k s0_0 s0_1 a1=some (r1,r2)):
  Calls Try.prog 95 #[.pointer (some ⟨g,0,none⟩),.int .i64 a1] w fun e w'=>e= .returned (.int .i64 r1)∧IsS93 w0 w' g s0_0 r2∧Below w0.heap.size w0 w'∧KeepBut w w' g none:=by
 have HI0:=aK hI;have HK:=aK (KeepBut.refl w g none);have HL:=aK hB.size;clear hI;have HW0:=aK hB.size;have HB:=aK hB;clear hB;have H:((spec_l6Rd_pick.f k s0_0 s0_1 6).bind fun bt117=>(if bt117.1=0 then (spec_l71Field.j0 k a1 bt117.1 (bt117.1==0) s0_0 bt117.2) else (spec_l71Field.j0 k a1 bt117.1 (bt117.1==1) s0_0 bt117.2)))=some (r1,r2):=h
 clear h;replace H:=Option.bind_eq_some_iff.mp H;obtain ⟨⟨t117,t118⟩,A30,H⟩:=H;(try dsimp only at H);have A3:=aK A30;clear A30;have HC4:=aK H;clear H;go_enter Try.func95,Try.ntmps95
 go_upto_if 7 with (first|((with_reducible refine gate_callee (f:=33) rfl ?_);refine goesL_ (some 6) rfl rfl Try.func33 (by kernel_rfl) rfl #[.pointer (some ⟨g,0,none⟩),.int .i64 6] rfl zz2 ?_;(with_reducible refine (spec_l6Rd_pick.calls k g s0_0 s0_1 6 t117 t118 w0 _ ?side1 ?side2 A3.out).mono ?_);(case side1=>exact zz31);(case side2=>exact zz26);rintro e w5 ⟨rfl,hi,hb,hk⟩;refine ⟨_,rfl,?_⟩;replace HK:=aK (KeepBut.trans zz27 hk (.inl rfl));replace HB:=aK (hb);replace HI0:=aK (hi);(try clear hb);(try clear hb2);(try clear hk);(try clear hi)))
 (try simp only [Act.put,List.setIfInBounds_toArray,List.set_cons_zero,List.set_cons_succ])
 go_cut [7] (fun v7 wc=> ∃(kq:Nat) (x7_3:Bool),v7= .bool x7_3∧Aside0 (spec_l71Field.j0 kq a1 t117 x7_3 s0_0 t118=some (r1,r2))∧Aside0 (kq≤k)∧Aside0 (IsS93 w0 wc g s0_0 t118)∧Aside0 (KeepBut w wc g none)∧Aside0 (Below w0.heap.size w0 wc))
 case first=>
  have H:=HC4.out;clear HC4;by_cases c6:t117=0
  ·rw [if_pos c6] at H
   have c6b0:(t117==0)=true:=beq_iff_eq.mpr c6
   have c6b1:(t117 !=0)=false:=bne_eq_false_iff_eq.mpr c6
   clear c6
   (first|rw [c6b0]|(simp only [i64_w,i32_w];rw [c6b0])|skip)
   have H':=aK H;clear H;go_wp2;go_meet
   case rel=>exact ⟨_,((t117==0)),zz7,H',⟨by first|omega|exact Nat.le_refl _⟩,⟨by repeat (first|(with_reducible first|exact HI0.out|apply IsS93.alloc|apply IsS93.drewN|apply IsS93.drew|apply IsS93.set_1)|exact HI0.out)⟩,⟨by repeat (first|(with_reducible first|exact HK.out|apply KeepBut.set_|apply keep_drewN|apply keep_drew|apply keep_alloc)|exact HK.out)⟩,⟨by repeat (first|(with_reducible first|exact HB.out|apply below_alloc|apply pw_below_drewN|apply below_drew1|refine below_set ?_ (IsS93.ge HI0.out))|exact HB.out)⟩⟩
  ·rw [if_neg c6] at H
   have c6b0:(t117==0)=false:=beq_eq_false_iff_ne.mpr c6
   have c6b1:(t117 !=0)=true:=bne_iff_ne.mpr c6
   (first|rw [c6b0]|(simp only [i64_w,i32_w];rw [c6b0])|skip)
   have H':=aK H;clear H;go_wp2;go_meet
   case rel=>exact ⟨_,((t117==1)),zz7,H',⟨by first|omega|exact Nat.le_refl _⟩,⟨by repeat (first|(with_reducible first|exact HI0.out|apply IsS93.alloc|apply IsS93.drewN|apply IsS93.drew|apply IsS93.set_1)|exact HI0.out)⟩,⟨by repeat (first|(with_reducible first|exact HK.out|apply KeepBut.set_|apply keep_drewN|apply keep_drew|apply keep_alloc)|exact HK.out)⟩,⟨by repeat (first|(with_reducible first|exact HB.out|apply below_alloc|apply pw_below_drewN|apply below_drew1|refine below_set ?_ (IsS93.ge HI0.out))|exact HB.out)⟩⟩
 case rest =>
  clear HC4;(try clear p2);(try clear c3);(try clear c6);(try clear c6b0);(try clear c6b1);obtain ⟨kq,x7_3,rfl,HA,HJ3,HI0,HK,HB⟩:=hcut
  cases kq with
  |zero=>exact absurd HA.out (by simp [spec_l71Field.j0])
  | succ kj3 =>
   have H:=HA.out;clear HA;simp only [spec_l71Field.j0] at H;by_cases c7:x7_3=true
   ·subst c7
    rw [if_pos rfl] at H;simp only [Option.some.injEq,Prod.mk.injEq] at H;obtain ⟨rfl,rfl⟩:=H;go_wp2;go_ret;exact ⟨by first|rfl|(simp [errW_none,errW_some]<;>rfl)|(simp [*,errW_none,errW_some]<;>rfl),by repeat (first|(with_reducible first|exact HI0.out|apply IsS93.alloc|apply IsS93.drewN|apply IsS93.drew|apply IsS93.set_1)|exact HI0.out),by repeat (first|(with_reducible first|exact HB.out|apply below_alloc|apply pw_below_drewN|apply below_drew1|refine below_set ?_ (IsS93.ge HI0.out))|exact HB.out),by repeat (first|(with_reducible first|exact HK.out|apply KeepBut.set_|apply keep_drewN|apply keep_drew|apply keep_alloc)|exact HK.out)⟩
   ·replace c7 := Bool.eq_false_iff.mpr c7
    subst c7;rw [if_neg (show¬(false=true) by decide)] at H;by_cases c8:t117=2
    ·rw [if_pos c8] at H
     have c8b0:(t117==2)=true:=beq_iff_eq.mpr c8
     have c8b1:(t117 !=2)=false:=bne_eq_false_iff_eq.mpr c8
     clear c8;simp only [Option.some.injEq,Prod.mk.injEq] at H;obtain ⟨rfl,rfl⟩:=H;go_wp2;go_ret;exact ⟨by first|rfl|(simp [errW_none,errW_some]<;>rfl)|(simp [*,errW_none,errW_some]<;>rfl),by repeat (first|(with_reducible first|exact HI0.out|apply IsS93.alloc|apply IsS93.drewN|apply IsS93.drew|apply IsS93.set_1)|exact HI0.out),by repeat (first|(with_reducible first|exact HB.out|apply below_alloc|apply pw_below_drewN|apply below_drew1|refine below_set ?_ (IsS93.ge HI0.out))|exact HB.out),by repeat (first|(with_reducible first|exact HK.out|apply KeepBut.set_|apply keep_drewN|apply keep_drew|apply keep_alloc)|exact HK.out)⟩
    ·rw [if_neg c8] at H
     have c8b0:(t117==2)=false:=beq_eq_false_iff_ne.mpr c8
     have c8b1:(t117 !=2)=true:=bne_iff_ne.mpr c8
     by_cases c9:t117=3
     ·rw [if_pos c9] at H
      have c9b0:(t117==3)=true:=beq_iff_eq.mpr c9
      have c9b1:(t117 !=3)=false:=bne_eq_false_iff_eq.mpr c9
      clear c9;simp only [Option.some.injEq,Prod.mk.injEq] at H;obtain ⟨rfl,rfl⟩:=H;go_wp2;go_ret;exact ⟨by first|rfl|(simp [errW_none,errW_some]<;>rfl)|(simp [*,errW_none,errW_some]<;>rfl),by repeat (first|(with_reducible first|exact HI0.out|apply IsS93.alloc|apply IsS93.drewN|apply IsS93.drew|apply IsS93.set_1)|exact HI0.out),by repeat (first|(with_reducible first|exact HB.out|apply below_alloc|apply pw_below_drewN|apply below_drew1|refine below_set ?_ (IsS93.ge HI0.out))|exact HB.out),by repeat (first|(with_reducible first|exact HK.out|apply KeepBut.set_|apply keep_drewN|apply keep_drew|apply keep_alloc)|exact HK.out)⟩
     ·rw [if_neg c9] at H
      have c9b0:(t117==3)=false:=beq_eq_false_iff_ne.mpr c9
      have c9b1:(t117 !=3)=true:=bne_iff_ne.mpr c9
      replace H:=Option.bind_eq_some_iff.mp H;obtain ⟨⟨t119,t120⟩,A100,H⟩:=H;(try dsimp only at H);have A10:=aK A100;clear A100;simp only [Option.some.injEq,Prod.mk.injEq] at H;obtain ⟨rfl,rfl⟩:=H
      go_wp2_with (first|((with_reducible refine gate_callee (f:=33) rfl ?_);refine goesL_ (some 16) rfl rfl Try.func33 (by kernel_rfl) rfl #[.pointer (some ⟨g,0,none⟩),.int .i64 a1] rfl zz2 ?_;(with_reducible refine (spec_l6Rd_pick.calls kj3 g s0_0 t118 a1 t119 t120 w0 _ ?side1 ?side2 A10.out).mono ?_);(case side1=>exact zz31);(case side2=>exact zz26);rintro e w11 ⟨rfl,hi,hb,hk⟩;refine ⟨_,rfl,?_⟩;replace HK:=aK (KeepBut.trans zz27 hk (.inl rfl));replace HB:=aK (hb);replace HI0:=aK (hi);(try clear hb);(try clear hb2);(try clear hk);(try clear hi)))
      go_ret;exact ⟨by first|rfl|(simp [errW_none,errW_some]<;>rfl)|(simp [*,errW_none,errW_some]<;>rfl),by repeat (first|(with_reducible first|exact HI0.out|apply IsS93.alloc|apply IsS93.drewN|apply IsS93.drew|apply IsS93.set_1)|exact HI0.out),by repeat (first|(with_reducible first|exact HB.out|apply below_alloc|apply pw_below_drewN|apply below_drew1|refine below_set ?_ (IsS93.ge HI0.out))|exact HB.out),by repeat (first|(with_reducible first|exact HK.out|apply KeepBut.set_|apply keep_drewN|apply keep_drew|apply keep_alloc)|exact HK.out)⟩
end Go.Proofs.Ytnlieahdakafbaa.K
namespace Go.Proofs.Ytnlieahdakafbaa.Pure
open Go.RowKit Go.Proofs.Ytnlieahdakafbaa.K Go.Proofs.YtnlieahdakafbaaW.PrintWords Go.Proofs.YtnlieahdakafbaaW.PrintLast Go.Proofs.YtnlieahdakafbaaW.PrintMore
set_option linter.unusedVariables false
set_option linter.unusedSimpArgs false
theorem wrap_inc {i n:Int} (h0:0≤i) (h:i<n) (hn:n≤4611686018427387904):wrap64 (i+1)=i+1:=by
  unfold wrap64;omega
theorem rd_cast (xs:List Int) (i:Nat):rd xs (i:Int)=xs.getD i 0:=by simp [rd]
theorem drop_getD {α:Type} (xs:List α) (i:Nat) (d:α) (h:i<xs.length):xs.drop i=xs.getD i d::xs.drop (i+1):=by
  rw [List.drop_eq_getElem_cons h];simp [List.getD_eq_getElem?_getD,h]
theorem wrap64_of {n:Int} (h: -9223372036854775808≤n) (h':n≤9223372036854775807):wrap64 n=n:=by unfold wrap64;omega
theorem xor_nn (a b:Int) (ha:0≤a) (hb:0≤b) (ha2:a<4611686018427387904) (hb2:b<4611686018427387904):0≤Go.bits .xor .i64 a b:=by
 obtain ⟨x,rfl⟩: ∃x:Nat,a=x:=⟨a.toNat,by omega⟩;obtain ⟨y,rfl⟩: ∃y:Nat,b=y:=⟨b.toNat,by omega⟩;have hx:x ^^^ y<2 ^ 62:=Nat.xor_lt_two_pow (by omega) (by omega)
 have h1:(BitVec.ofInt 64 (x:Int)).toNat=x:=by rw [BitVec.ofInt_natCast,BitVec.toNat_ofNat];exact Nat.mod_eq_of_lt (by omega)
 have h2:(BitVec.ofInt 64 (y:Int)).toNat=y:=by rw [BitVec.ofInt_natCast,BitVec.toNat_ofNat];exact Nat.mod_eq_of_lt (by omega)
 show 0≤IntKind.i64.wrap ((BitVec.ofInt 64 (x:Int) ^^^ BitVec.ofInt 64 (y:Int)).toNat:Int)
 rw [BitVec.toNat_xor,h1,h2,i64_w,wrap64_of (by omega) (by omega)];omega
theorem rd_byte {b:List Int} (hb: ∀x∈b,0≤x∧x≤255) (i:Int):0≤rd b i∧rd b i≤255:=by
 unfold rd;rw [List.getD_eq_getElem?_getD];by_cases h:i.toNat<b.length
 ·rw [List.getElem?_eq_getElem h];exact hb _ (List.getElem_mem h)
 ·rw [List.getElem?_eq_none (by omega)];simp
theorem tmod_in (x n:Int) (hx:0≤x) (hn:1≤n):0≤Int.tmod x n∧Int.tmod x n<n:=⟨Int.tmod_nonneg _ hx,Int.tmod_lt_of_pos _ (by omega)⟩
theorem pick_ev {b:List Int} (hb: ∀x∈b,0≤x∧x≤255) (hl:b.length≤2000) {p n:Int} (hp:0≤p) (hp2:p≤1000000) (hn:1≤n) (hn2:n≤1000000):
  ∃v,0≤v∧v<n∧∀k,1≤k→spec_l6Rd_pick.f k b p n=some (v,p+1):=by
 have key: ∃v,0≤v∧v<n∧spec_l6Rd_pick.j0 (0+1) n ((b.length:Int)==0) b (p+1)=some (v,p+1)∧∀m,spec_l6Rd_pick.j0 (m+1) n ((b.length:Int)==0) b (p+1)=spec_l6Rd_pick.j0 (0+1) n ((b.length:Int)==0) b (p+1):=by
  by_cases h0:(b.length:Int)=0
  ·refine ⟨0, by omega, by omega, ?_, fun m => ?_⟩
   ·rw [spec_l6Rd_pick.j0,if_pos (beq_iff_eq.mpr h0)]
   ·rw [spec_l6Rd_pick.j0,spec_l6Rd_pick.j0]
  have e0:((b.length:Int)==0)=false:=beq_eq_false_iff_ne.mpr h0
  have ep:wrap64 (p+1 - 1)=p:=by rw [wrap64_of (by omega) (by omega)];omega
  by_cases h1:p<(b.length:Int)
  ·obtain ⟨r0, r1⟩ := rd_byte hb p
   obtain ⟨t0,t1⟩:=tmod_in (rd b p) n r0 hn;refine ⟨Int.tmod (rd b p) n,t0,t1,?_,fun m=>?_⟩
   ·rw [spec_l6Rd_pick.j0,e0,if_neg (by simp),ep,if_pos h1,if_pos hp,if_neg (by omega),wrap64_of (n:=rd b p) (by omega) (by omega)]
   ·rw [spec_l6Rd_pick.j0,spec_l6Rd_pick.j0]
  obtain ⟨q0,q1⟩:=tmod_in p b.length hp (by omega);have w7:wrap64 (p*7)=p*7:=wrap64_of (by omega) (by omega)
  have w73:wrap64 (p*7+3)=p*7+3:=wrap64_of (by omega) (by omega)
  obtain ⟨s0,s1⟩:=tmod_in (p*7+3) b.length (by omega) (by omega);obtain ⟨a0,a1⟩:=rd_byte hb (Int.tmod p b.length);obtain ⟨c0,c1⟩:=rd_byte hb (Int.tmod (p*7+3) b.length);have d0:0≤Int.tdiv p b.length:=Int.tdiv_nonneg hp (by omega)
  have d1:Int.tdiv p b.length≤p:=by rw [Int.tdiv_eq_ediv_of_nonneg hp];exact Int.ediv_le_self _ hp
  obtain ⟨A,hA⟩: ∃A,A=rd b (Int.tmod p b.length):=⟨_,rfl⟩;obtain ⟨C,hC⟩: ∃C,C=rd b (Int.tmod (p*7+3) b.length):=⟨_,rfl⟩;obtain ⟨D,hD⟩: ∃D,D=Int.tdiv p b.length:=⟨_,rfl⟩;rw [←hA] at a0 a1;rw [←hC] at c0 c1;rw [←hD] at d0 d1;obtain ⟨X,hX⟩: ∃X,X=A*131+C*1117+p*29+D*53:=⟨_,rfl⟩;have x0:0≤X:=by omega
  have x1:X≤1000000000:=by omega
  have y0:0≤Int.tdiv X 64:=Int.tdiv_nonneg x0 (by omega)
  have y1:Int.tdiv X 64≤X:=by rw [Int.tdiv_eq_ediv_of_nonneg x0];exact Int.ediv_le_self _ x0
  obtain ⟨t0,t1⟩:=tmod_in (Go.bits .xor .i64 X (Int.tdiv X 64)) n (xor_nn _ _ x0 y0 (by omega) (by omega)) hn;have wA:wrap64 A=A:=wrap64_of (by omega) (by omega)
  have wC:wrap64 C=C:=wrap64_of (by omega) (by omega)
  have wA1:wrap64 (A*131)=A*131:=wrap64_of (by omega) (by omega)
  have wC1:wrap64 (C*1117)=C*1117:=wrap64_of (by omega) (by omega)
  have wp:wrap64 (p*29)=p*29:=wrap64_of (by omega) (by omega)
  have wD:wrap64 D=D:=wrap64_of (by omega) (by omega)
  have wD1:wrap64 (D*53)=D*53:=wrap64_of (by omega) (by omega)
  have w1:wrap64 (A*131+C*1117)=A*131+C*1117:=wrap64_of (by omega) (by omega)
  have w2:wrap64 (A*131+C*1117+p*29)=A*131+C*1117+p*29:=wrap64_of (by omega) (by omega)
  have w3:wrap64 (A*131+C*1117+p*29+D*53)=X:=by rw [←hX];exact wrap64_of (by omega) (by omega)
  have w4:wrap64 (Int.tdiv X 64)=Int.tdiv X 64:=wrap64_of (by omega) (by omega)
  refine ⟨_,t0,t1,?_,fun m=>?_⟩
  ·rw [spec_l6Rd_pick.j0,e0,if_neg (by simp),ep,if_neg h1,if_neg h0,if_pos q0,if_pos q1,w7,w73,if_pos s0,if_pos s1,if_neg (by omega),←hA,←hC,←hD,wA,wC,wA1,wC1,wp,wD,wD1,w1,w2,w3,w4]
  ·rw [spec_l6Rd_pick.j0,spec_l6Rd_pick.j0]
 obtain ⟨v,v0,v1,h1,h2⟩:=key;refine ⟨v,v0,v1,fun k hk=>?_⟩;obtain ⟨m,rfl⟩: ∃m,k=m+1:=⟨k - 1,by omega⟩;unfold spec_l6Rd_pick.f;rw [if_neg (by omega),wrap64_of (n:=p+1) (by omega) (by omega),h2,h1]
theorem l6Open_ev {l:List Int} (hl: ∀x∈l,(Lit.int .u8 x).wf=true): ∃b,spec_l6Open.f l=some (b,0)∧b.length≤2000∧∀x∈b,0≤x∧x≤255:=by
 have hb: ∀x∈l,0≤x∧x≤255:=fun x hx=>by
  have h:=hl x hx;have h1:IntKind.u8.min=0:=by decide
  have h2:IntKind.u8.max=255:=by decide
  simp [Lit.wf] at h
  omega
 unfold spec_l6Open.f;by_cases h:(l.length:Int)>2000
 ·exact ⟨l.take 2000,by rw [if_pos h,if_pos (by omega)],by rw [List.length_take];omega,fun x hx=>hb x (List.mem_of_mem_take hx)⟩
 ·exact ⟨l,by rw [if_neg h],by omega,hb⟩
end Go.Proofs.Ytnlieahdakafbaa.Pure
namespace Go.Proofs.Ytnlieahdakafbaa.K
open Go.RowKit Go.Proofs.YtnlieahdakafbaaW.PrintWords Go.Proofs.YtnlieahdakafbaaW.PrintLast Go.Proofs.YtnlieahdakafbaaW.PrintMore
attribute [local go_sem] max2_int min2_int max_two min_two max_three min_three max_four min_four
set_option linter.unusedVariables false
set_option linter.unusedSimpArgs false
open Go.Proofs.Ytnlieahdakafbaa.Pure
def Rdr (M:Int) (w0 w:World) (g:Nat):Prop:=(∃(b:List Int) (p:Int),IsS93 w0 w g b p∧b.length≤2000∧(∀x∈b,0≤x∧x≤255)∧0≤p∧p≤M)∧Below w0.heap.size w0 w
section
variable {M L:Int} {w0 w w1:World} {g:Nat}
theorem Rdr.le (h:Rdr M w0 w g) (hn:M≤L):Rdr L w0 w g:=by
  obtain ⟨⟨b,p,h1,h2,h3,h4,h5⟩,hb⟩:=h;exact ⟨⟨b,p,h1,h2,h3,h4,Int.le_trans h5 hn⟩,hb⟩
theorem Rdr.below (h:Rdr M w0 w g) (hb:Below w.heap.size w w1):Rdr M w0 w1 g:=by
  obtain ⟨⟨b,p,h1,h2,h3,h4,h5⟩,h6⟩:=h;exact ⟨⟨b,p,h1.below hb,h2,h3,h4,h5⟩,below_step h6 hb⟩
theorem Rdr.alloc (h:Rdr M w0 w g) (o:Obj):Rdr M w0 (w.alloc o) g:=h.below (below_alloc (Below.refl _ _) o)
theorem Rdr.drew (h:Rdr M w0 w g):Rdr M w0 w.drew g:=h.below (below_drew1 (Below.refl _ _))
theorem Rdr.drewN (h:Rdr M w0 w g) (m:Nat):Rdr M w0 (w.drewN m) g:=h.below (pw_below_drewN (Below.refl _ _) m)
theorem Rdr.far (h:Rdr M w0 w g) {p:Addr} (hne:g≠p.block) (hp:w0.heap.size≤p.block) (u:Value):Rdr M w0 (w.setCell p u) g:=by
  obtain ⟨⟨b,q,h1,h2,h3,h4,h5⟩,h6⟩:=h;exact ⟨⟨b,q,h1.far hne u,h2,h3,h4,h5⟩,h6.setCell hp u⟩
theorem Rdr.grown (h:Rdr M w0 w g) {row:Option Nat} (hg:w.grownBy w1 row) (hne:some g≠row) (hr: ∀k,row=some k→w0.heap.size≤k):Rdr M w0 w1 g:=by
  obtain ⟨⟨b,q,h1,h2,h3,h4,h5⟩,h6⟩:=h;exact ⟨⟨b,q,h1.grown hg hne,h2,h3,h4,h5⟩,h6.grown hg h6.size hr⟩
theorem Rdr.lt (h:Rdr M w0 w g):g<w.heap.size:=by
  obtain ⟨⟨b,q,h1,_⟩,_⟩:=h;exact h1.lt
theorem Rdr.ge (h:Rdr M w0 w g):w0.heap.size≤g:=by
  obtain ⟨⟨b,q,h1,_⟩,_⟩:=h;exact h1.ge
end
theorem pick_any (M:Int) (g:Nat) (n:Int) (w0 w:World) (h:Rdr M w0 w g) (hM:M≤1000000) (h0:1≤n) (h1:n≤1000000):
  Calls Try.prog 33 #[.pointer (some ⟨g,0,none⟩),.int .i64 n] w fun e w'=> ∃v:Int,e= .returned (.int .i64 v)∧(0≤v∧v<n)∧Rdr (M+1) w0 w' g∧KeepBut w w' g none:=by
 obtain ⟨⟨b,p,hI,hl,hb,hp,hpM⟩,hB⟩:=h;obtain ⟨v,v0,v1,hv⟩:=pick_ev hb hl hp (by omega) h0 h1;exact (spec_l6Rd_pick.calls 1 g b p n v (p+1) w0 w hI hB (hv 1 (Nat.le_refl _))).mono fun e w' ⟨he,hi,hbb,hk⟩=>⟨v,he,⟨v0,v1⟩,⟨⟨b,p+1,hi,hl,hb,by omega,by omega⟩,hbb⟩,hk⟩
theorem open_any (A0:Option Addr) (c0:Nat) (l0:List Int) (w:World) (hr0:Kd.C (Kd.int .u8) w A0 l0.length l0) (hc0:l0.length≤c0) (hl: ∀x∈l0,(Lit.int .u8 x).wf=true):
  Calls Try.prog 30 #[.slice A0 l0.length c0] w fun e w'=> ∃g:Nat,e= .returned (.pointer (some ⟨g,0,none⟩))∧Rdr 0 w w' g∧w.heap.size≤g∧Below w.heap.size w w':=by
 obtain ⟨b,hb,hb1,hb2⟩:=l6Open_ev hl;exact (spec_l6Open.calls A0 c0 l0 b 0 w w (Below.refl _ _) hr0 hc0 hb).mono fun e w' ⟨g,he,hi,hbb,hbb2⟩=>⟨g,he,⟨⟨b,0,hi,hb1,hb2,by omega,by omega⟩,hbb⟩,hi.ge,hbb2⟩
end Go.Proofs.Ytnlieahdakafbaa.K
namespace Go.Proofs.Ytnlieahdakafbaa.Pure
open Go.RowKit Go.Proofs.Ytnlieahdakafbaa.K Go.Proofs.YtnlieahdakafbaaW.PrintWords Go.Proofs.YtnlieahdakafbaaW.PrintLast Go.Proofs.YtnlieahdakafbaaW.PrintMore
set_option linter.unusedVariables false
set_option linter.unusedSimpArgs false
abbrev Cs:=List S112
def sup (cs:Cs) (c:Int):Int:=(rd_T112 cs c).f0
def flds (cs:Cs) (c:Int):List Int:=(rd_T112 cs c).f1
def fldOk (n t:Int):Bool:=decide (t=1∨t=3∨t=4∨(8≤t∧t<8+n))
def clsOk (cs : Cs) (i : Int) : Bool :=
  (flds cs i).all (fldOk cs.length)&&
    (if i=0 then decide (sup cs 0= -1∧flds cs 0=[]) else if i=1 then decide (sup cs 1=0∧flds cs 1=[1]) else decide ((0≤sup cs i∧sup cs i<i)∧(flds cs i).length≤2))
def csOk (cs:Cs):Bool:=decide (2≤cs.length∧cs.length≤5)&&(List.range cs.length).all (fun i:Nat=>clsOk cs i)
theorem csOk_len {cs:Cs} (h:csOk cs=true):2≤cs.length∧cs.length≤5:=by
  simp only [csOk,Bool.and_eq_true,decide_eq_true_eq] at h;exact h.1
theorem csOk_at {cs:Cs} (h:csOk cs=true) {i:Int} (h0:0≤i) (h1:i<cs.length):clsOk cs i=true:=by
 simp only [csOk,Bool.and_eq_true,decide_eq_true_eq,List.all_eq_true,List.mem_range] at h;have:=h.2 i.toNat (by omega)
 rwa [Int.toNat_of_nonneg h0] at this
theorem csOk_sup {cs:Cs} (h:csOk cs=true) {i:Int} (h0:0<i) (h1:i<cs.length):0≤sup cs i∧sup cs i<i:=by
 have:=csOk_at h (i:=i) (by omega) h1
 simp only [clsOk,Bool.and_eq_true] at this;have h2:=this.2;rw [if_neg (by omega)] at h2;by_cases h3:i=1
 ·subst h3
  simp only [if_true,decide_eq_true_eq] at h2;omega
 ·rw [if_neg h3, decide_eq_true_eq] at h2
  exact h2.1
def upN (cs:Cs):Nat→Int→Int→Bool
  |0,a,b=>decide (a=b)
  |n+1,a,b=>decide (a=b)||(decide (0<a)&&upN cs n (sup cs a) b)
theorem upN_more {cs:Cs} (h:csOk cs=true): ∀(n:Nat) (a b:Int),0≤a→a<cs.length→a.toNat≤n→upN cs (n+1) a b=upN cs n a b
 |0,a,b,h0,h1,hn=>by
  have:a=0:=by omega
  subst this;simp [upN]
 | n + 1, a, b, h0, h1, hn => by
  have e1:upN cs (n+1+1) a b=(decide (a=b)||(decide (0<a)&&upN cs (n+1) (sup cs a) b)):=rfl
  have e2:upN cs (n+1) a b=(decide (a=b)||(decide (0<a)&&upN cs n (sup cs a) b)):=rfl
  rw [e1,e2];by_cases hp:0<a
  ·have hs := csOk_sup h hp h1
   rw [upN_more h n (sup cs a) b (by omega) (by omega) (by omega)]
  ·simp [hp]
theorem cls_ind {cs:Cs} (h:csOk cs=true) {P:Int→Prop} (h00:P 0) (hs: ∀a:Int,0<a→a<cs.length→P (sup cs a)→P a): ∀a:Int,0≤a→a<cs.length→P a:=by
  suffices H: ∀(n:Nat) (a:Int),a.toNat≤n→0≤a→a<cs.length→P a from fun a h0 h1=>H a.toNat a (Nat.le_refl _) h0 h1
  intro n
  induction n with
  | zero => intro a hn h0 h1; have : a = 0 := by omega
            subst this;exact h00
  | succ n ih =>
    intro a hn h0 h1;by_cases hp:0<a
    · have := csOk_sup h hp h1
      exact hs a hp h1 (ih _ (by omega) (by omega) (by omega))
    · have : a = 0 := by omega
      subst this;exact h00
theorem field_ev {b:List Int} (hb: ∀x∈b,0≤x∧x≤255) (hl:b.length≤2000) {p n:Int} (hp:0≤p) (hp2:p≤900000) (hn:1≤n) (hn2:n≤1000):
  ∃t q,fldOk n t=true∧p≤q∧q≤p+2∧∀k,3≤k→spec_l71Field.f k b p n=some (t,q):=by
 obtain ⟨v,v0,v1,hv⟩:=pick_ev hb hl hp (by omega) (show (1:Int)≤6 by omega) (by omega);obtain ⟨u,u0,u1,hu⟩:=pick_ev hb hl (p:=p+1) (by omega) (by omega) hn (by omega)
 have hj: ∀(x:Bool) k,2≤k→spec_l71Field.j0 k n v x b (p+1)=some (if x=true then (1,p+1) else if v=2 then (3,p+1) else if v=3 then (4,p+1) else (8+u,p+2)):=fun x k hk=>by
  obtain ⟨k,rfl⟩: ∃m,k=m+1:=⟨k - 1,by omega⟩;rw [spec_l71Field.j0];by_cases c1:x=true
  ·rw [if_pos c1,if_pos c1]
  rw [if_neg c1,if_neg c1];by_cases c2:v=2
  ·rw [if_pos c2,if_pos c2]
  rw [if_neg c2,if_neg c2];by_cases c3:v=3
  ·rw [if_pos c3,if_pos c3]
  rw [if_neg c3,if_neg c3,hu k (by omega),Option.bind_some,wrap64_of (n:=8+u) (by omega) (by omega)];simp only [show p+1+1=p+2 by omega]
 have hf: ∀x:Bool,∃t q,fldOk n t=true∧p≤q∧q≤p+2∧(if x=true then ((1:Int),p+1) else if v=2 then (3,p+1) else if v=3 then (4,p+1) else (8+u,p+2))=(t,q):=fun x=>by
  unfold fldOk
  split
  ·exact ⟨1,p+1,by simp,by omega,by omega,rfl⟩
  split
  ·exact ⟨3,p+1,by simp,by omega,by omega,rfl⟩
  split
  ·exact ⟨4,p+1,by simp,by omega,by omega,rfl⟩
  ·exact ⟨8+u,p+2,by simp only [decide_eq_true_eq];omega,by omega,by omega,rfl⟩
 by_cases c0:v=0
 ·obtain ⟨t, q, h1, h2, h3, h4⟩ := hf (v == 0)
  exact ⟨t,q,h1,h2,h3,fun k hk=>by unfold spec_l71Field.f;rw [hv k (by omega),Option.bind_some,if_pos c0,hj _ k (by omega),h4]⟩
 ·obtain ⟨t, q, h1, h2, h3, h4⟩ := hf (v == 1)
  exact ⟨t,q,h1,h2,h3,fun k hk=>by unfold spec_l71Field.f;rw [hv k (by omega),Option.bind_some,if_neg c0,hj _ k (by omega),h4]⟩
theorem word_ev {b:List Int} (hb: ∀x∈b,0≤x∧x≤255) (hl:b.length≤2000) {p:Int} (hp:0≤p) (hp2:p≤900000):
  ∃v,∀k,3≤k→spec_l71Word.f k b p=some (v,p+2):=by
 obtain ⟨v,v0,v1,hv⟩:=pick_ev hb hl hp (by omega) (show (1:Int)≤3 by omega) (by omega);by_cases c:v=0
 ·obtain ⟨u, u0, u1, hu⟩ := pick_ev hb hl (p := p + 1) (by omega) (by omega) (show (1 : Int) ≤ 6 by omega) (by omega)
  exact ⟨rd [0,1,2,(-1),(-128),127] u,fun k hk=>by
   unfold spec_l71Word.f;rw [hv k (by omega),Option.bind_some,if_pos c,Option.bind_some,hu k (by omega),Option.bind_some,if_pos u0,if_pos (by simp only [List.length_cons,List.length_nil];omega)]
   simp only [show p+1+1=p+2 by omega]⟩
 ·obtain ⟨u, u0, u1, hu⟩ := pick_ev hb hl (p := p + 1) (by omega) (by omega) (show (1 : Int) ≤ 12 by omega) (by omega)
  exact ⟨wrap64 (u - 3),fun k hk=>by
   unfold spec_l71Word.f;rw [hv k (by omega),Option.bind_some,if_neg c,hu k (by omega),Option.bind_some]
   simp only [show p+1+1=p+2 by omega]⟩
end Go.Proofs.Ytnlieahdakafbaa.Pure
namespace Go.Proofs.Ytnlieahdakafbaa.K
open Go.RowKit Go.Proofs.YtnlieahdakafbaaW.PrintWords Go.Proofs.YtnlieahdakafbaaW.PrintLast Go.Proofs.YtnlieahdakafbaaW.PrintMore
attribute [local go_sem] max2_int min2_int max_two min_two max_three min_three max_four min_four
set_option linter.unusedVariables false
set_option linter.unusedSimpArgs false
open Go.Proofs.Ytnlieahdakafbaa.Pure
theorem field_any (M:Int) (g:Nat) (n:Int) (w0 w:World) (h:Rdr M w0 w g) (hM:M≤800000) (h0:1≤n) (h1:n≤1000):
  Calls Try.prog 95 #[.pointer (some ⟨g,0,none⟩),.int .i64 n] w fun e w'=> ∃t:Int,e= .returned (.int .i64 t)∧fldOk n t=true∧Rdr (M+2) w0 w' g∧KeepBut w w' g none:=by
 obtain ⟨⟨b,p,hI,hl,hb,hp,hpM⟩,hB⟩:=h;obtain ⟨t,q,ht,q0,q1,hv⟩:=field_ev hb hl hp (by omega) h0 h1;exact (spec_l71Field.calls 3 g b p n t q w0 w hI hB (hv 3 (Nat.le_refl _))).mono fun e w' ⟨he,hi,hbb,hk⟩=>⟨t,he,ht,⟨⟨b,q,hi,hl,hb,by omega,by omega⟩,hbb⟩,hk⟩
theorem word_any (M:Int) (g:Nat) (w0 w:World) (h:Rdr M w0 w g) (hM:M≤800000):
  Calls Try.prog 32 #[.pointer (some ⟨g,0,none⟩)] w fun e w'=> ∃t:Int,e= .returned (.int .i64 t)∧Rdr (M+2) w0 w' g∧KeepBut w w' g none:=by
 obtain ⟨⟨b,p,hI,hl,hb,hp,hpM⟩,hB⟩:=h;obtain ⟨t,hv⟩:=word_ev hb hl hp (by omega);exact (spec_l71Word.calls 3 g b p t (p+2) w0 w hI hB (hv 3 (Nat.le_refl _))).mono fun e w' ⟨he,hi,hbb,hk⟩=>⟨t,he,⟨⟨b,p+2,hi,hl,hb,by omega,by omega⟩,hbb⟩,hk⟩
theorem upd2 {w:World} {gb T:Nat} {x y:Value} (h:w.heap[gb]? =some (.cells #[x,y] T (0,0))) (u v:Value):((w.setCell ⟨gb,0,none⟩ u).setCell ⟨gb,1,none⟩ v).heap[gb]? =some (.cells #[u,v] T (0,0)):=
  blk_put (blk_put h 0 _ rfl) 1 _ rfl
end Go.Proofs.Ytnlieahdakafbaa.K
namespace Go.Proofs.Ytnlieahdakafbaa.Pure
open Go.RowKit Go.Proofs.Ytnlieahdakafbaa.K Go.Proofs.YtnlieahdakafbaaW.PrintWords Go.Proofs.YtnlieahdakafbaaW.PrintLast Go.Proofs.YtnlieahdakafbaaW.PrintMore
set_option linter.unusedVariables false
set_option linter.unusedSimpArgs false
def clsAt (n:Int) (x:S112) (i:Nat):Prop:=x.f1.all (fldOk n)=true∧x.f1.length≤2∧(if i=0 then x.f0= -1∧x.f1=[] else if i=1 then x.f0=0∧x.f1=[1] else 0≤x.f0∧x.f0<i)
def growOk (n:Int) (cs:Cs):Prop:=2≤cs.length∧∀(i:Nat) (x:S112),cs[i]? =some x→clsAt n x i
theorem growOk_two (n:Int):growOk n [⟨-1,[]⟩,⟨0,[1]⟩]:=by
  refine ⟨by simp,fun i x h=>?_⟩
  match i,h with
  | 0, h => obtain rfl : (⟨-1, []⟩ : S112) = x := by simpa using h
            exact ⟨rfl,by simp,rfl,rfl⟩
  | 1, h => obtain rfl : (⟨0, [1]⟩ : S112) = x := by simpa using h
            exact ⟨by simp [fldOk],by simp,rfl,rfl⟩
  |(i+2),h=>simp at h
theorem growOk_snoc {n:Int} {cs:Cs} (h:growOk n cs) {s:Int} {fs:List Int} (h0:0≤s) (h1:s<cs.length) (hl:fs.length≤2) (hf:fs.all (fldOk n)=true):growOk n (cs++[⟨s,fs⟩]):=by
 refine ⟨by have:=h.1;simp;omega,fun i x hx=>?_⟩;rw [List.getElem?_append] at hx
 split at hx
 ·exact h.2 i x hx
 ·next hi =>
  have:i - cs.length=0:=by
   have:=(List.getElem?_eq_some_iff.1 hx).1
   simp at this;omega
  rw [this] at hx;obtain rfl:(⟨s,fs⟩:S112)=x:=by simpa using hx
  have:=h.1
  exact ⟨hf,hl,by rw [if_neg (by omega),if_neg (by omega)];exact ⟨h0,by show s<_;omega⟩⟩
theorem rdC_at {cs:Cs} {i:Nat} (h:i<cs.length):cs[i]? =some (rd_T112 cs (i:Int)):=by
  unfold rd_T112;rw [Int.toNat_natCast,List.getD_eq_getElem?_getD,List.getElem?_eq_getElem h];rfl
theorem growOk_ok {n:Int} {cs:Cs} (h:growOk n cs) (hn:(cs.length:Int)=n) (h5:n≤5):csOk cs=true:=by
 unfold csOk;rw [Bool.and_eq_true,decide_eq_true_eq,List.all_eq_true];have h2:=h.1;refine ⟨by omega,fun i hi=>?_⟩;rw [List.mem_range] at hi;obtain ⟨k1,k2,k3⟩:=h.2 i _ (rdC_at hi);unfold clsOk flds sup;rw [Bool.and_eq_true,hn];refine ⟨k1,?_⟩;by_cases c0:i=0
 ·subst c0
  rw [if_pos rfl] at k3;rw [if_pos (by rfl),decide_eq_true_eq];exact k3
 rw [if_neg c0] at k3;rw [if_neg (by omega)];by_cases c1:i=1
 ·subst c1
  rw [if_pos rfl] at k3;rw [if_pos (by rfl),decide_eq_true_eq];exact k3
 rw [if_neg c1] at k3;rw [if_neg (by omega),decide_eq_true_eq];exact ⟨k3,k2⟩
theorem growOk_few {n:Int} {cs:Cs} (h:growOk n cs): ∀x∈cs,x.f1.length≤2:=by
 intro x hx;obtain ⟨i,hi,rfl⟩:=List.getElem_of_mem hx;exact (h.2 i _ (List.getElem?_eq_getElem hi)).2.1
end Go.Proofs.Ytnlieahdakafbaa.Pure
namespace Go.Proofs.Ytnlieahdakafbaa.K
open Go.RowKit Go.Proofs.YtnlieahdakafbaaW.PrintWords Go.Proofs.YtnlieahdakafbaaW.PrintLast Go.Proofs.YtnlieahdakafbaaW.PrintMore
attribute [local go_sem] max2_int min2_int max_two min_two max_three min_three max_four min_four
set_option linter.unusedVariables false
set_option linter.unusedSimpArgs false
open Go.Proofs.Ytnlieahdakafbaa.Pure
theorem S_grown2 {α:Type} {d:Kd α} {e base:Nat} {ok:Nat→Prop} {w w1:World} {v:Value} {xs:List α} {row:Option Nat} (h:Kd.S d e w base ok v xs) (hg:w.grownBy w1 row) (hne: ∀k,ok k→some k≠row):Kd.S d e w1 base ok v xs:=by
  obtain ⟨f,hR⟩:=h;exact ⟨f,Kd.R_grown hR hg hne⟩
set_option maxHeartbeats 16000000 in
set_option maxRecDepth 100000 in
theorem classes_any (M : Int) (g : Nat) (w0 w : World) (h : Rdr M w0 w g) (hM : M ≤ 700000) :
    Calls Try.prog 61 #[.pointer (some ⟨g,0,none⟩)] w fun e w'=> ∃(v:Value) (cs:Cs),e= .returned v∧(csOk cs=true∧∀x∈cs,x.f1.length≤2)∧Kd.S k112 112 w' w.heap.size (fun _=>True) v cs∧Rdr (M+40) w0 w' g∧KeepBut w w' g none:=by
  obtain ⟨b0,hb0⟩: ∃b,b=w.heap.size:=⟨_,rfl⟩;have HG:=aK (show g<b0 by rw [hb0];exact h.lt);have HG0:=aK (show w0.heap.size≤b0 by have:=h.ge;have:=HG.out;omega);have HBW:=aK hb0;rw [←hb0];have HI:=aK h;have HM:=aK hM;clear h hb0 hM;go_enter Try.func61,Try.ntmps61
  go_wp2_with fail
  go_at_call 33;refine (pick_any _ g 4 w0 _ HI.out zz44 (by omega) (by omega)).mono ?_;rintro e w1 ⟨v,rfl,hv,hi,hk⟩;have HI1:=aK hi;have HK1:=aK (KeepBut.trans (KeepBut.refl w g none) hk (.inl rfl));clear hi hk HI;obtain ⟨n,hn⟩: ∃n,n=2+v:=⟨_,rfl⟩;have q1:IntKind.i64.wrap (2+v)=n:=by rw [hn];exact IntWalk.i64_in _ ⟨by omega,by omega⟩
  have HN:=aK (show 2≤n∧n≤5 by omega);clear hn hv
  go_wp2_with (first|((with_reducible refine gate_dst (N:=12) rfl ?_);refine Kd.R_lit (Kd.int .i64) _ 3 ?hg (N:=12) ?hd (xs:=([1]:List Int)) (inner:=[.int .i64 1]) (ok:=fun _=>True) (okp:=fun _=>True) ?hr ?hp (fun _ hk=>hk) trivial (Below.refl _ _) (Nat.le_refl _) (by simp) ?_;(case hd=>rfl);(case hg=>rfl);(case hr=>first|(go_simp;done)|(go_simp;rfl));(case hp=>exact (Reps.one (show Kd.M (Kd.int .i64) _ _ _ 1 [.int .i64 1] from rfl) (Reps.none _ _)));intro v1 w2 ho hb hg_ hnew_;have HR:=aK (Kd.R_lower ho (show b0≤w1.heap.size by rw [HBW.out];exact keep_size HK1.out));have HI2:=aK (HI1.out.below hb);have HK2:=aK (KeepBut.trans HK1.out (KeepBut.of_below hb g none) (.inl rfl));clear ho hb hg_ hnew_ HI1 HK1;obtain ⟨Ao,co,eo⟩:=Kd.R_slice HR.out;subst eo)|((with_reducible refine gate_dst (N:=14) rfl ?_);refine Kd.S_lits k112 b0 112 ?hg (N:=14) ?hd (xs:=([(⟨(-1),([]:List Int)⟩:S112),(⟨0,[1]⟩:S112)]:List S112)) (inner:=[.int .i64 (-1),.slice none 0 0,.int .i64 0,.slice Ao ([1]:List Int).length co]) (ok:=fun k_=>b0≤k_) (fun j_ k_=>j_=1∧some k_=(Value.slice Ao ([1]:List Int).length co).ownBlock) ?hr rfl ?hp (fun i_ j_ k_ h1_ h2_=>h1_.1.trans h2_.1.symm) (fun j_ k_ h_=>Kd.R_base HR.out k_ h_.2.symm) (by rw [HBW.out];exact keep_size HK2.out) (Below.refl _ _) (by rw [HBW.out];exact keep_size HK2.out) (by simp) ?_;(case hd=>rfl);(case hg=>rfl);(case hr=>first|(go_simp;done)|(go_simp;rfl));(case hp=>intro j x hx;match j,hx with|0,hx=>(obtain rfl:(⟨-1,[]⟩:S112)=x:=(by simpa using hx);exact k112_mkM _ _ _ (⟨-1,[]⟩:S112) (Kd.R_nil _ _ _ _ _))|1,hx=>(obtain rfl:(⟨0,[1]⟩:S112)=x:=(by simpa using hx);exact k112_mkM _ _ _ (⟨0,[1]⟩:S112) (Kd.R_mono (Kd.R_tight rfl HR.out) (fun k_ hk_=>⟨rfl,hk_⟩)))|(j+2),hx=>simp at hx);intro v2 w3 ho hb hg_ hnew_;have HS:=aK ho;have hb2:=pw_below_grown (Below.refl w2.heap.size w2) none (Nat.le_refl _) hg_ (by simp);have HI3:=aK (HI2.out.below hb2);have HK3:=aK (KeepBut.trans HK2.out (KeepBut.of_below hb2 g none) (.inl rfl));clear ho hb hg_ hnew_ hb2 HI2 HK2 HR))
  go_loopw [4,5] (fun v4 v5 wr=> ∃cs:Cs,v5= .int .i64 (cs.length:Int)∧Aside0 (growOk n cs)∧Aside0 ((cs.length:Int)≤n)∧Aside0 (Kd.S k112 112 wr b0 (fun k_=>b0≤k_) v4 cs)∧Aside0 (Rdr (M+1+6*cs.length) w0 wr g)∧Aside0 (KeepBut w wr g none)) (fun _ v5 _=>(n - intOf v5).toNat)
  case atStart=>exact ⟨_,rfl,⟨growOk_two n⟩,⟨by have:=HN.out;simp;omega⟩,HS,⟨HI3.out.le (by simp;omega)⟩,HK3⟩
  case round=>
    clear HS HI3 HK3;obtain ⟨cs,rfl,HGo,HLe,HS,HI,HK⟩:=hrel;by_cases c:(cs.length:Int)<n
    · have d0 : decide ((cs.length : Int) < n) = true := decide_eq_true c
      have h2:=HGo.out.1;have hN:=HN.out;have HC:=aK (show 2≤cs.length∧(cs.length:Int)<n∧n≤5 by omega);clear h2 hN c HLe
      go_wp2_with fail
      go_at_call 33;refine (pick_any _ g cs.length w0 _ HI.out (by have:=HM.out;have:=HC.out;omega) (by have:=HC.out;omega) (by have:=HC.out;omega)).mono ?_;rintro e w1 ⟨s,rfl,hs,hi,hk⟩;have HI1:=aK hi;have HK1:=aK (KeepBut.trans HK.out hk (.inl rfl));have HS1:=aK (Kd.S_keep HS.out hk (fun k_ hk_=>by have:=HG.out;omega));have Hs:=aK hs;have HZ1:=aK (show b0≤w1.heap.size by rw [HBW.out];exact keep_size HK1.out);clear hi hk hs HI HK HS
      go_wp2_with (first|((with_reducible refine gate_dst (N:=6) rfl ?_);refine box_event ?hg (N:=6) ?hd (cs:= #[.int .i64 0,.slice none 0 0]) (t:=112) ?hr ?_;(case hd=>rfl);(case hg=>rfl);(case hr=>first|(go_simp;done)|(go_simp;rfl));intro gb hg w2 hbox hb;have HS2:=aK (show Kd.S k112 112 w2 b0 (fun k_=>b0≤k_∧k_<gb) u4 cs from Kd.S_below (Kd.S_mono (Kd.S_bound HS1.out) (fun k_ hk_=>⟨hk_.1,by rw [hg];exact hk_.2.2.1⟩)) hb);have HI2:=aK (HI1.out.below hb);have HK2:=aK (KeepBut.trans HK1.out (KeepBut.of_below hb g none) (.inl rfl));have BK:=aK hbox;have HGB:=aK (show b0≤gb by rw [hg];exact HZ1.out);clear hb hbox hg HS1 HI1 HK1 HZ1;have c0:=(blk_cell BK.out 0).trans rfl;have c1:=(blk_cell BK.out 1).trans rfl;have f0:=blk_frozen BK.out 0;have f1:=blk_frozen BK.out 1)|(go_at_call 33;refine (pick_any _ g 3 w0 _ (Rdr.far (Rdr.far HI2.out (p:=⟨gb,0,none⟩) (by have:=HG.out;have:=HGB.out;show g≠gb;omega) (by have:=HG0.out;have:=HGB.out;show _≤gb;omega) _) (p:=⟨gb,1,none⟩) (by have:=HG.out;have:=HGB.out;show g≠gb;omega) (by have:=HG0.out;have:=HGB.out;show _≤gb;omega) _) (by have:=HM.out;have:=HC.out;omega) (by omega) (by omega)).mono ?_;rintro e w3 ⟨k0,rfl,hk0,hi,hk⟩;have BK3:=aK (KeepBut.blk hk (upd2 BK.out _ _) (by have:=HG.out;have:=HGB.out;omega) (by simp));have HS3:=aK (Kd.S_keep (Kd.S_far (Kd.S_far HS2.out (p:=⟨gb,0,none⟩) (fun k_ hk_=>by show k_≠gb;omega) _) (p:=⟨gb,1,none⟩) (fun k_ hk_=>by show k_≠gb;omega) _) hk (fun k_ hk_=>by have:=HG.out;omega));have HI3:=aK hi;have HK3:=aK (KeepBut.trans (keep_far (keep_far HK2.out (p:=⟨gb,0,none⟩) (by rw [←HBW.out];exact HGB.out) _) (p:=⟨gb,1,none⟩) (by rw [←HBW.out];exact HGB.out) _) hk (.inl rfl));have Hk0:=aK hk0;have HW3:=aK (show gb<w3.heap.size from blk_lt BK3.out);clear hi hk hk0 BK HS2 HI2 HK2 c0 c1 f0 f1))
      have RV:=aK (show Kd.R (Kd.int .i64) 3 w3 (gb+1) (fun k_=>gb<k_) (.slice none 0 0) [] from Kd.R_nil _ _ _ _ _)
      go_loopw [7] (fun v7 wi=> ∃(x:Int) (fs:List Int) (u:Value),v7= .int .i64 x∧Aside0 (0≤x∧x+fs.length≤2)∧Aside0 (fs.all (fldOk n)=true)∧Aside0 (wi.heap[gb]? =some (.cells #[.int .i64 s,u] 112 (0,0)))∧Aside0 (Kd.R (Kd.int .i64) 3 wi (gb+1) (fun k_=>gb<k_) u fs)∧Aside0 (Kd.S k112 112 wi b0 (fun k_=>b0≤k_∧k_<gb) u4 cs)∧Aside0 (Rdr (M+1+6*cs.length+2+2*fs.length) w0 wi g)∧Aside0 (KeepBut w wi g none)∧Aside0 (gb<wi.heap.size)) (fun v7 _=>(intOf v7).toNat)
      case atStart=>exact ⟨k0,[],_,rfl,⟨by have:=Hk0.out;simp;omega⟩,⟨rfl⟩,BK3,RV,HS3,⟨HI3.out.le (by simp;omega)⟩,HK3,HW3⟩
      case round=>
      clear RV BK3 HS3 HI3 HK3 HW3 Hk0;obtain ⟨x,fs,u,rfl,HX,HF,BK,RV,HS,HI,HK,HW⟩:=hrel;by_cases c2:0<x
      · have d1 : decide (0 < x) = true := decide_eq_true c2
        have HX2:=aK (show 0<x∧x+fs.length≤2 by have:=HX.out;omega);have q2:IntKind.i64.wrap (x - 1)=x - 1:=IntWalk.i64_in _ (by have:=HX.out;omega)
        clear c2 HX;go_wp2;replace BK:=aK (blk_drew BK.out);replace RV:=aK (Kd.R_drew RV.out);replace HS:=aK (Kd.S_drew HS.out);replace HI:=aK HI.out.drew;replace HK:=aK (keep_drew HK.out);replace HW:=aK (show gb<wr.drew.heap.size from HW.out);refine sT 9 (S:=fun w'=>w'.cell? ⟨gb,1,none⟩=some (u)) (ds:=[8]) (((blk_cell BK.out 1).trans rfl)) (fun hHeld=>?_);generalize wr.drew=w4 at BK RV HS HI HK HW hHeld ⊢;refine pS 0 30 #[true,false,false,false,false,false,false,false,false] ?_;refine pS 2 32 #[true,false,true,false,false,false,false,false,false] ?_;refine pS 3 33 #[true,false,true,true,false,false,false,false,false] ?_;refine tS 1 31 #[true,true,true,true,false,false,false,false,false] rfl rfl (by kernel_rfl) hHeld (by intro w' s0;go_simp;with_reducible rfl) ?_;refine oS 4 34 #[true,true,true,true,true,false,false,false,false] rfl rfl (fun K hK=>?_);refine gO Try.func95 #[.pointer (some ⟨g,0,none⟩),.int .i64 n] ?_;(with_reducible refine (field_any _ g n w0 _ HI.out (by have:=HM.out;have:=HC.out;have:=HX2.out;omega) (by have:=HC.out;omega) (by have:=HC.out;omega)).mono ?_);rintro e w5 ⟨t,rfl,ht,hi,hk⟩;refine ⟨_,rfl,?_⟩;have BK5:=aK (KeepBut.blk hk BK.out (by have:=HG.out;have:=HGB.out;omega) (by simp));have R5:=aK (Kd.R_keep RV.out hk (fun k_ hk_=>by have:=HG.out;have:=HGB.out;omega));have HS5:=aK (Kd.S_keep HS.out hk (fun k_ hk_=>by have:=HG.out;omega));have HI5:=aK hi;have HK5:=aK (KeepBut.trans HK.out hk (.inl rfl));have HW5:=aK (show gb<w5.heap.size from blk_lt BK5.out);have Ht:=aK ht;clear hi hk ht BK RV HS HI HK HW;refine hK.out _ _ (((blk_cell BK5.out 1).trans rfl)) (fun hHeld=>?_);clear hK K;refine nS 34 ?_;refine one_ (i:=5) (N:=some 35) #[true,true,true,true,true,true,false,false,false] rfl rfl (by kernel_rfl) (by decide) (fun K hK=>?_);refine value_ (w1:=?_) (v:=?_) (by rfl) rfl ?_ ?_;rotate_left 2
        · go_simp
          constructor
          · rfl
          · rfl
        refine hK.out _ _ (((blk_cell (blk_alloc BK5.out _) 1).trans rfl)) (fun hHeld=>?_);clear hK K;refine nS 35 ?_;refine one_ (i:=6) (N:=some 36) #[true,true,true,true,true,true,true,false,false] rfl rfl (by kernel_rfl) (by decide) (fun K hK=>?_);refine Kd.R_append_step (Kd.int .i64) (gb+1) (by rfl) (.tmp 31) (.tmp 35) 24 3 (.int .i64 0) 8 rfl Try.underlying24 info3 rfl (by decide) (by omega) u fs t [.int .i64 t] (fun k_=>gb<k_) (fun _=>False) rfl rfl ?aP (fun _ hk=>hk.elim) ?aF ?aO (Below.refl _ _) ?aS ?aL ?_
        (case aP=>exact rfl)
        (case aF=>exact fun k_ hk_=>by have:=HW5.out;omega)
        (case aO=>exact R5.out)
        (case aS=>have:=HW5.out;omega)
        (case aL=>have:=HX2.out;omega)
        intro v6 w6 ho hbn hgr hat;have BK6:=aK (blk_grown BK5.out hgr (fun e_=>by have:=R5.out.1 gb e_.symm;omega));obtain ⟨AN,cN,eN⟩:=Kd.R_slice ho;subst eN;have R6:=aK ho;have HS6:=aK (S_grown2 HS5.out hgr (fun k_ hk_ e_=>by have:=R5.out.1 k_ e_.symm;omega));have HI6:=aK (HI5.out.grown hgr (fun e_=>by have:=R5.out.1 g e_.symm;have:=HG.out;have:=HGB.out;omega) (fun k_ e_=>by have:=R5.out.1 k_ e_;have:=HG0.out;have:=HGB.out;omega));have HK6:=aK (KeepBut.trans HK5.out (KeepBut.of_grown hgr g) (by rw [←HBW.out];exact Kd.R_base2 (Kd.R_lower R5.out (by have:=HGB.out;omega))));have HW6:=aK (show gb<w6.heap.size from blk_lt BK6.out);have o6:=(blk_cell BK6.out 1).trans rfl;have y6:=blk_frozen BK6.out 1;clear ho hbn hgr hat BK5 R5 HS5 HI5 HK5 HW5;refine hK.out _ _ (((blk_cell BK6.out 1).trans rfl)) (fun hHeld=>?_);clear hK K;refine nS 36 ?_;refine pS 7 37 #[true,true,true,true,true,true,true,true,false] ?_;refine last_ (i:=8) (N:=none) #[true,true,true,true,true,true,true,true,true] rfl rfl (by kernel_rfl) (by decide) (fun K hK=>?_);refine skip_ (w1:=?_) (by rfl) rfl ?_ ?_;rotate_left
        · go_simp
          rfl
        refine hK.out _ _ ?_;clear hK K;refine done_ (by kernel_rfl) ?_;go_wp2
        go_roundw
        case rel=>exact ⟨x - 1,fs++[t],_,rfl,⟨by have:=HX2.out;simp;omega⟩,⟨by rw [List.all_append,HF.out];simpa using Ht.out⟩,⟨blk_put BK6.out 1 _ rfl⟩,⟨by rw [show fs.length+1=(fs++[t]).length by simp];exact Kd.R_far (p:=⟨gb,1,none⟩) R6.out (fun k_ hk_=>by show k_≠gb;omega) _⟩,⟨Kd.S_far (p:=⟨gb,1,none⟩) HS6.out (fun k_ hk_=>by show k_≠gb;omega) _⟩,⟨(Rdr.far HI6.out (p:=⟨gb,1,none⟩) (by have:=HG.out;have:=HGB.out;show g≠gb;omega) (by have:=HG0.out;have:=HGB.out;show _≤gb;omega) _).le (by simp;omega)⟩,⟨keep_far HK6.out (p:=⟨gb,1,none⟩) (by rw [←HBW.out];exact HGB.out) _⟩,⟨by have:=HW6.out;simpa using this⟩⟩
        case measure=>have:=HX2.out;simp only [intOf];omega
      · have d1 : decide (0 < x) = false := decide_eq_false c2
        obtain ⟨AV,cV,rfl⟩:=Kd.R_slice RV.out;have o0:=(blk_cell BK.out 0).trans rfl;have o1:=(blk_cell BK.out 1).trans rfl;clear c2
        go_wp2_with ((with_reducible refine gate_builtin (b:= .append) (xs:= #[.tmp 38,.tmp 40]) rfl ?_);at_builtin;refine Kd.S_append k112 (w0:=wr) b0 rfl (.tmp 38) (.tmp 40) 23 112 (.agg #[(.int .i64 0),(.slice none 0 0)]) 32 rfl Try.underlying23 info112 rfl (by decide) (by omega) u4 cs (⟨s,fs⟩:S112) [.int .i64 s,.slice AV fs.length cV] (fun k_=>b0≤k_) (fun k_=>gb<k_) rfl (by first|rfl|(go_simp;done)|(go_simp;rfl)) ?aP ?aK ?aF ?aO ?aB ?aS ?aL ?_;(case aP=>exact k112_mkM _ _ _ (⟨s,fs⟩:S112) (Kd.R_lower RV.out (by have:=HGB.out;omega)));(case aK=>exact fun k_ hk_=>⟨by have:=HGB.out;omega,fun e_=>by have:=(Kd.S_R HS.out).1 k_ e_.symm;omega⟩);(case aF=>exact fun k_ hk_=>by have:=HW.out;have:=HGB.out;omega);(case aO=>exact Kd.S_mono HS.out (fun k_ hk_=>⟨hk_.1,by omega⟩));(case aB=>exact Below.refl _ _);(case aS=>have:=HW.out;have:=HGB.out;omega);(case aL=>have:=HC.out;omega);intro v9 w9 ho hbn hgr hat;have HS9:=aK ho;have HI9:=aK (HI.out.grown hgr (fun e_=>by have:=Kd.S_base HS.out g e_.symm;have:=HG.out;omega) (fun k_ e_=>by have:=Kd.S_base HS.out k_ e_;have:=HG0.out;omega));have HK9:=aK (KeepBut.trans HK.out (KeepBut.of_grown hgr g) (by rw [←HBW.out];exact Kd.S_base2 HS.out));clear ho hbn hgr hat o0 o1)
        have q3:wrap64 ((cs.length:Int)+1)=((cs++[(⟨s,fs⟩:S112)]).length:Int):=by have:=HC.out;unfold wrap64;simp;omega
        go_roundw
        case rel=>exact ⟨cs++[⟨s,fs⟩],by rw [q3],⟨growOk_snoc HGo.out Hs.out.1 Hs.out.2 (by have:=HX.out;omega) HF.out⟩,⟨by have:=HC.out;simp;omega⟩,HS9,⟨HI9.out.le (by have:=HX.out;simp;omega)⟩,HK9⟩
        case measure=>rw [q3];have:=HC.out;simp only [intOf];simp;omega
    · have d0 : decide ((cs.length : Int) < n) = false := decide_eq_false c
      have hle:=HLe.out;have HE:=aK (show (cs.length:Int)=n by omega);clear c hle;go_wp2;go_ret;exact ⟨u4,cs,rfl,⟨growOk_ok HGo.out HE.out (by have:=HN.out;omega),growOk_few HGo.out⟩,Kd.S_mono HS.out (fun _ _=>trivial),HI.out.le (by have:=HE.out;have:=HN.out;omega),HK.out⟩
end Go.Proofs.Ytnlieahdakafbaa.K
namespace Go.Proofs.Ytnlieahdakafbaa.K
open Go.RowKit Go.Proofs.YtnlieahdakafbaaW.PrintWords Go.Proofs.YtnlieahdakafbaaW.PrintLast Go.Proofs.YtnlieahdakafbaaW.PrintMore
attribute [local go_sem] max2_int min2_int max_two min_two max_three min_three max_four min_four
set_option linter.unusedVariables false
set_option linter.unusedSimpArgs false
def impl_within.f (a0:Int) (a1:Int) (a2:Int):Option (Bool):=if a0≤a1 then (some (decide (a1≤a2))) else (some false)
set_option maxHeartbeats 8000000 in
set_option maxRecDepth 100000 in
theorem impl_within.calls (a0:Int) (a1:Int) (a2:Int) (r:Bool) (w:World) (h:impl_within.f a0 a1 a2=some r):
  Calls Try.prog 91 #[.int .i64 a0,.int .i64 a1,.int .i64 a2] w fun e w'=>e= .returned (.bool r)∧Drawn0 w w':=by
 have H:(if a0≤a1 then (some (decide (a1≤a2))) else (some false))=some r:=h
 clear h;by_cases c4:a0≤a1
 ·rw [if_pos c4] at H
  have c4b0:decide (a0≤a1)=true:=decide_eq_true c4
  clear c4;obtain rfl:=Option.some.inj H;go_enter Try.func91,Try.ntmps91;go_wp2;go_ret;exact ⟨zz7,zz13⟩
 ·rw [if_neg c4] at H
  have c4b0:decide (a0≤a1)=false:=decide_eq_false c4
  clear c4;obtain rfl:=Option.some.inj H;go_enter Try.func91,Try.ntmps91;go_wp2;go_ret;exact ⟨zz7,zz13⟩
end Go.Proofs.Ytnlieahdakafbaa.K
