import Derived.Test.YtnlieahdakafbaaProg
import Derived.Below
import Derived.Deep.Draws
import Derived.Deep.AppendLies
import Derived.Maps.AppendAt
import Derived.OwnWalk
import Derived.Laws.BytesArg
import Derived.Laws.MakeOwn
import Derived.Laws.OwnMore
import Derived.Deep.OwnRows
import Derived.Tactics
import Derived.Lib.ConvBytes
import Derived.Laws.Slices
import Derived.WalkKit
import Derived.KernelRfl
import Derived.RowKit3
import Derived.Deep.LoopGhost
import Derived.Deep.QuietTactic
import Derived.BigQuiet
import Derived.WideLaws
import Derived.Deep.DeepCutAuto
import Derived.Deep.CutBlock
import Derived.Deep.RegionHeld3
import Derived.Laws.Rows
import Derived.Lib.AppendStr
import Derived.ArgAppend
import Derived.Laws.IdiomCopy
import Derived.OrdersHeld
import Derived.Laws.BitsLemmas
import Derived.RowKit
import Derived.Test.YtnlieahdakafbaaPc3
import Derived.Test.YtnlieahdakafbaaPc4
import Derived.Test.YtnlieahdakafbaaPc5
import Derived.Test.YtnlieahdakafbaaPc6
import Derived.Test.YtnlieahdakafbaaPc7
import Derived.Test.YtnlieahdakafbaaPc8
import Derived.Test.YtnlieahdakafbaaPc9
import Derived.Test.YtnlieahdakafbaaPc10
import Derived.Test.YtnlieahdakafbaaPc11
import Derived.Test.YtnlieahdakafbaaPc12
import Derived.Test.YtnlieahdakafbaaPc13
import Derived.Test.YtnlieahdakafbaaPc14
import Derived.Test.YtnlieahdakafbaaPc15
import Derived.Test.YtnlieahdakafbaaPc16
import Derived.Test.YtnlieahdakafbaaPc17
import Derived.Test.YtnlieahdakafbaaPc18
import Derived.Test.YtnlieahdakafbaaPc19
import Derived.Test.YtnlieahdakafbaaPc20
import Derived.Test.YtnlieahdakafbaaPc21
import Derived.Test.YtnlieahdakafbaaPc22
import Derived.Test.YtnlieahdakafbaaPc23
namespace Go.Proofs.Ytnlieahdakafbaa.K
open Go.RowKit Go.Proofs.YtnlieahdakafbaaW.PrintWords Go.Proofs.YtnlieahdakafbaaW.PrintLast Go.Proofs.YtnlieahdakafbaaW.PrintMore
attribute [local go_sem] max2_int min2_int max_two min_two max_three min_three max_four min_four
set_option linter.unusedVariables false
set_option linter.unusedSimpArgs false
def errW:Option Int→Value
  |none=> .nilIface
  |some c=> .iface 0 (.int .i64 c)
theorem errW_none:errW none= .nilIface:=rfl
theorem errW_some (c:Int):errW (some c)= .iface 0 (.int .i64 c):=rfl
def lA (n m:Nat):Array Bool:=((List.range n).map (Nat.testBit m)).toArray
theorem lA1 {α:Type} (l:List α) (i:Nat) (a:α):l.toArray.setIfInBounds i a=(l.set i a).toArray:=List.setIfInBounds_toArray l i a
theorem lA2 {α:Type} {x a:α} {l:List α}:(x::l).set 0 a=a::l:=List.set_cons_zero
theorem lA3 {α:Type} {x a:α} {l:List α} {n:Nat}:(x::l).set (n+1) a=x::l.set n a:=List.set_cons_succ
section
open Go.Proofs.YtnlieahdakafbaaW.PrintLast
variable {P:Program} {ops:Array Oper} {Q:Exit→Act→World→Prop} {md:Region.Mode} {S:World→Prop} {ds:List Nat} {oi:Oper} {v:Value} {fuel:Nat} {l:Array Bool} {a a':Act} {w:World}
theorem pS (i:Nat) (n:Tmp) (l':Array Bool) (h:wpAnyLast P md ops Q S ds fuel l' a' w) (hi:ops[i]? =some oi:=by exact rfl) (hN:oi.dst=some n:=by exact rfl) (hc:anyB md ops l l' i=true:=by as_aux_lemma=>kernel_rfl) (hQ: ∀c a w,Q (.panic c) (a.put oi.dst v) w→Q (.panic c) a w:=by exact fun _ _ _ h=>h) (hw:Region.wanted oi (yielded ops a.tmps)=true:=by rfl) (hv: ∀w',(execOp a.eval oi).run P w'= .ok (.value v) w':=by intro w';go_simp;with_reducible rfl) (ha:a.put (some n) v=a':=by simp only [Act.put,lA1,lA2,lA3,i64_w,i32_w];rfl):wpAnyLast P md ops Q S ds (fuel+1) l a w:=
  pure_ l' hi hN hc hQ (Or.inl ⟨hw,hv⟩) ha h
theorem pU (i:Nat) (n:Tmp) (l':Array Bool) (h:wpAnyLast P md ops Q S ds fuel l' a' w) (hi:ops[i]? =some oi:=by exact rfl) (hN:oi.dst=some n:=by exact rfl) (hc:anyB md ops l l' i=true:=by as_aux_lemma=>kernel_rfl) (hQ: ∀c a w,Q (.panic c) (a.put oi.dst undef) w→Q (.panic c) a w:=by exact fun _ _ _ h=>h) (hw:Region.wanted oi (yielded ops a.tmps)=false:=by rfl) (ha:a.put (some n) undef=a':=by simp only [Act.put,lA1,lA2,lA3,i64_w,i32_w];rfl):wpAnyLast P md ops Q S ds (fuel+1) l a w:=
  pure_ l' hi hN hc hQ (Or.inr ⟨hw,rfl⟩) ha h
theorem tS (i:Nat) (n:Tmp) (l':Array Bool) (hi:ops[i]? =some oi) (hN:oi.dst=some n) (hc:takeB md ops ds l l' i=true) (hS:S w) (hv: ∀w',S w'→(execOp a.eval oi).run P w'= .ok (.value v) w') (h:wpAnyLast P md ops Q S ds fuel l' a' w) (hQ: ∀c a w,Q (.panic c) (a.put oi.dst v) w→Q (.panic c) a w:=by exact fun _ _ _ h=>h) (hw:Region.wanted oi (yielded ops a.tmps)=true:=by rfl) (ha:a.put (some n) v=a':=by simp only [Act.put,lA1,lA2,lA3,i64_w,i32_w];rfl):wpAnyLast P md ops Q S ds (fuel+1) l a w:=
  take_ l' hi hN hc hQ (Or.inl ⟨hw,hv⟩) hS ha h
end
theorem info3:(Try.prog.info? 3).map (fun i=>(i.zero,i.size,i.bytes))=some (some (.int .i64 0),1,8):=by kernel_rfl
theorem info4:(Try.prog.info? 4).map (fun i=>(i.zero,i.size,i.bytes))=some (some (.bool false),1,1):=by kernel_rfl
theorem info5:(Try.prog.info? 5).map (fun i=>(i.zero,i.size,i.bytes))=some (some (.int .u8 0),1,1):=by kernel_rfl
theorem info24:(Try.prog.info? 24).map (fun i=>(i.zero,i.size,i.bytes))=some (some (.slice none 0 0),1,24):=by kernel_rfl
theorem info46:(Try.prog.info? 46).map (fun i=>(i.zero,i.size,i.bytes))=some (some (.agg #[(.int .i64 0),(.slice none 0 0)]),2,32):=by kernel_rfl
theorem info48:(Try.prog.info? 48).map (fun i=>(i.zero,i.size,i.bytes))=some (some (.agg #[(.bool false),(.int .i64 0)]),2,16):=by kernel_rfl
theorem info112:(Try.prog.info? 112).map (fun i=>(i.zero,i.size,i.bytes))=some (some (.agg #[(.int .i64 0),(.slice none 0 0)]),2,32):=by kernel_rfl
def rd_L2 (xs:List (List Int)) (i:Int):(List Int):=xs.getD i.toNat ([]:List Int)
theorem at_L2 {w:World} {A:Option Addr} {n:Nat} {xs:List (List Int)} (h:Kd.C (Kd.slice 3 (Kd.int .i64)) w A n xs) (i:Int) (h0:0≤i) (h1:i<n): ∃ad A0 c0,A=some ad∧w.cell? (ad.add i.toNat)=some (.slice A0 (rd_L2 xs i).length c0)∧(rd_L2 xs i).length≤c0∧(Kd.int .i64).C w A0 (rd_L2 xs i).length (rd_L2 xs i):=by
 obtain ⟨ad,c,e,_,hK,hc0⟩:=Kd.C_get h ([]:List Int) i h0 h1;have hc: ∀j u,c[j]? =some u→w.cell? (ad.add (i.toNat*1+j))=some u:=hc0
 obtain ⟨A0,c0,rfl,l0,g0⟩:=hK;exact ⟨ad,A0,c0,e,by have hq:=hc 0 _ rfl;rwa [Nat.mul_one,Nat.add_zero] at hq,l0,g0⟩
structure S112 where
  f0:Int
  f1:(List Int)
def z112:S112:=⟨(0:Int),([]:List Int)⟩
def k112:Kd S112:=Kd.iso (Kd.pair (Kd.int .i64) (Kd.slice 3 (Kd.int .i64))) (fun x:S112=>(x.f0,x.f1))
theorem k112_open {w:World} {x:S112} {cs:List Value} (h:k112.K w x cs): ∃A1 c1,cs=[.int .i64 x.f0,.slice A1 x.f1.length c1]∧x.f1.length≤c1∧(Kd.int .i64).C w A1 x.f1.length x.f1:=by
  obtain ⟨_,_,rfl,rfl,⟨A1,c1,rfl,l1,g1⟩⟩:=h;exact ⟨A1,c1,rfl,l1,g1⟩
theorem k112_openM {w:World} {base:Nat} {ok:Nat→Prop} {x:S112} {cs:List Value} (h:k112.M w base ok x cs): ∃v1,cs=[.int .i64 x.f0,v1]∧(Kd.int .i64).R 3 w base ok v1 x.f1:=by
  obtain ⟨_,_,rfl,rfl,⟨v1,rfl,g1⟩⟩:=h;exact ⟨v1,rfl,g1⟩
theorem k112_mk (w:World) (x:S112) {A1:Option Addr} {c1:Nat} (l1:x.f1.length≤c1) (g1:(Kd.int .i64).C w A1 x.f1.length x.f1):k112.K w x [.int .i64 x.f0,.slice A1 x.f1.length c1]:=⟨[.int .i64 x.f0],[.slice A1 x.f1.length c1],rfl,rfl,⟨A1,c1,rfl,l1,g1⟩⟩
theorem k112_mkM (w:World) (base:Nat) (ok:Nat→Prop) (x:S112) {v1:Value} (g1:(Kd.int .i64).R 3 w base ok v1 x.f1):k112.M w base ok x [.int .i64 x.f0,v1]:=⟨[.int .i64 x.f0],[v1],rfl,rfl,⟨v1,rfl,g1⟩⟩
theorem k112_mkF (W:World) (ok:Nat→Prop) (x:S112) {A1:Option Addr} {c1:Nat} (l1:x.f1.length≤c1) (g1:Kd.F (Kd.int .i64) W ok A1 x.f1.length x.f1):Kd.FK k112 W ok x [.int .i64 x.f0,.slice A1 x.f1.length c1]:=fun W2 hW=>k112_mk W2 x l1 (g1 W2 hW)
def rd_T112 (xs:List S112) (i:Int):S112:=xs.getD i.toNat z112
theorem at_T112 {w:World} {A:Option Addr} {n:Nat} {xs:List S112} (h:Kd.C k112 w A n xs) (i:Int) (h0:0≤i) (h1:i<n): ∃ad A1 c1,A=some ad∧w.cell? (ad.add (i.toNat*2))=some (.int .i64 (rd_T112 xs i).f0)∧w.cell? ⟨(ad.add (i.toNat*2)).block,(ad.add (i.toNat*2)).off+1,none⟩=some (.slice A1 (rd_T112 xs i).f1.length c1)∧(rd_T112 xs i).f1.length≤c1∧(Kd.int .i64).C w A1 (rd_T112 xs i).f1.length (rd_T112 xs i).f1:=by
 obtain ⟨ad,c,e,_,hK,hc0⟩:=Kd.C_get h z112 i h0 h1;have hc: ∀j u,c[j]? =some u→w.cell? (ad.add (i.toNat*2+j))=some u:=hc0
 obtain ⟨A1,c1,rfl,l1,g1⟩:=k112_open hK;exact ⟨ad,A1,c1,e,hc 0 _ rfl,by rw [←add_field _ _ 1 (by omega)];exact hc 1 _ rfl,l1,g1⟩
structure S48 where
  f0:Bool
  f1:Int
def z48:S48:=⟨false,(0:Int)⟩
def k48:Kd S48:=Kd.iso (Kd.pair Kd.bool (Kd.int .i64)) (fun x:S48=>(x.f0,x.f1))
theorem k48_open {w:World} {x:S48} {cs:List Value} (h:k48.K w x cs):cs=[.bool x.f0,.int .i64 x.f1]:=by
  obtain ⟨_,_,rfl,rfl,rfl⟩:=h;exact rfl
theorem k48_mkM (w:World) (base:Nat) (ok:Nat→Prop) (x:S48):k48.M w base ok x [.bool x.f0,.int .i64 x.f1]:=⟨[.bool x.f0],[.int .i64 x.f1],rfl,rfl,rfl⟩
def rd_T48 (xs:List S48) (i:Int):S48:=xs.getD i.toNat z48
theorem at_T48 {w:World} {A:Option Addr} {n:Nat} {xs:List S48} (h:Kd.C k48 w A n xs) (i:Int) (h0:0≤i) (h1:i<n): ∃ad,A=some ad∧w.cell? (ad.add (i.toNat*2))=some (.bool (rd_T48 xs i).f0)∧w.cell? ⟨(ad.add (i.toNat*2)).block,(ad.add (i.toNat*2)).off+1,none⟩=some (.int .i64 (rd_T48 xs i).f1):=by
 obtain ⟨ad,c,e,_,hK,hc0⟩:=Kd.C_get h z48 i h0 h1;have hc: ∀j u,c[j]? =some u→w.cell? (ad.add (i.toNat*2+j))=some u:=hc0
 obtain rfl:=k48_open hK;exact ⟨ad,e,hc 0 _ rfl,by rw [←add_field _ _ 1 (by omega)];exact hc 1 _ rfl⟩
structure S46 where
  f0:Int
  f1:(List S48)
def z46:S46:=⟨(0:Int),([]:List S48)⟩
def k46:Kd S46:=Kd.iso (Kd.pair (Kd.int .i64) (Kd.slice 48 k48)) (fun x:S46=>(x.f0,x.f1))
theorem k46_open {w:World} {x:S46} {cs:List Value} (h:k46.K w x cs): ∃A1 c1,cs=[.int .i64 x.f0,.slice A1 x.f1.length c1]∧x.f1.length≤c1∧k48.C w A1 x.f1.length x.f1:=by
  obtain ⟨_,_,rfl,rfl,⟨A1,c1,rfl,l1,g1⟩⟩:=h;exact ⟨A1,c1,rfl,l1,g1⟩
theorem k46_mkM (w:World) (base:Nat) (ok:Nat→Prop) (x:S46) {v1:Value} (g1:k48.R 48 w base ok v1 x.f1):k46.M w base ok x [.int .i64 x.f0,v1]:=⟨[.int .i64 x.f0],[v1],rfl,rfl,⟨v1,rfl,g1⟩⟩
def rd_T46 (xs:List S46) (i:Int):S46:=xs.getD i.toNat z46
theorem at_T46 {w:World} {A:Option Addr} {n:Nat} {xs:List S46} (h:Kd.C k46 w A n xs) (i:Int) (h0:0≤i) (h1:i<n): ∃ad A1 c1,A=some ad∧w.cell? (ad.add (i.toNat*2))=some (.int .i64 (rd_T46 xs i).f0)∧w.cell? ⟨(ad.add (i.toNat*2)).block,(ad.add (i.toNat*2)).off+1,none⟩=some (.slice A1 (rd_T46 xs i).f1.length c1)∧(rd_T46 xs i).f1.length≤c1∧k48.C w A1 (rd_T46 xs i).f1.length (rd_T46 xs i).f1:=by
 obtain ⟨ad,c,e,_,hK,hc0⟩:=Kd.C_get h z46 i h0 h1;have hc: ∀j u,c[j]? =some u→w.cell? (ad.add (i.toNat*2+j))=some u:=hc0
 obtain ⟨A1,c1,rfl,l1,g1⟩:=k46_open hK;exact ⟨ad,A1,c1,e,hc 0 _ rfl,by rw [←add_field _ _ 1 (by omega)];exact hc 1 _ rfl,l1,g1⟩
theorem cb2 {w:World} {g:Nat} {t:TypeId} {a0 a1:Value} (h:Aside0 (w.heap[g]? =some (.cells #[a0,a1] t (0,0)))):w.cell? ⟨g,0,none⟩=some a0∧w.cell? ⟨g,1,none⟩=some a1:=⟨(blk_cell h.out 0).trans rfl,(blk_cell h.out 1).trans rfl⟩
theorem cbf2 {w:World} {g:Nat} {t:TypeId} {a0 a1:Value} (h:Aside0 (w.heap[g]? =some (.cells #[a0,a1] t (0,0)))):w.cell? ⟨g,0,none⟩=some a0∧w.cell? ⟨g,1,none⟩=some a1∧w.frozen? ⟨g,0,none⟩=false∧w.frozen? ⟨g,1,none⟩=false:=⟨(blk_cell h.out 0).trans rfl,(blk_cell h.out 1).trans rfl,blk_frozen h.out 0,blk_frozen h.out 1⟩
theorem cbf5 {w:World} {g:Nat} {t:TypeId} {a0 a1 a2 a3 a4:Value} (h:Aside0 (w.heap[g]? =some (.cells #[a0,a1,a2,a3,a4] t (0,0)))):w.cell? ⟨g,0,none⟩=some a0∧w.cell? ⟨g,1,none⟩=some a1∧w.cell? ⟨g,2,none⟩=some a2∧w.cell? ⟨g,3,none⟩=some a3∧w.cell? ⟨g,4,none⟩=some a4∧w.frozen? ⟨g,0,none⟩=false∧w.frozen? ⟨g,1,none⟩=false∧w.frozen? ⟨g,2,none⟩=false∧w.frozen? ⟨g,3,none⟩=false∧w.frozen? ⟨g,4,none⟩=false:=⟨(blk_cell h.out 0).trans rfl,(blk_cell h.out 1).trans rfl,(blk_cell h.out 2).trans rfl,(blk_cell h.out 3).trans rfl,(blk_cell h.out 4).trans rfl,blk_frozen h.out 0,blk_frozen h.out 1,blk_frozen h.out 2,blk_frozen h.out 3,blk_frozen h.out 4⟩
theorem aK {p:Prop} (h:p):Aside0 p:=Aside0.mk h
section
variable {P:Program} {ops:Array Oper} {Q:Exit→Act→World→Prop} {md:Region.Mode} {S:World→Prop} {ds:List Nat} {oi:Oper} {v:Value} {fuel:Nat} {l:Array Bool} {a a':Act} {w:World}
theorem pT {T:Bool×List (List Nat×List Nat)} (i:Nat) (n:Tmp) (l':Array Bool) (HT:Aside0 (rtab md ops=T)) (h:wpAnyLast P md ops Q S ds fuel l' a' w) (hi:ops[i]? =some oi:=by exact rfl) (hN:oi.dst=some n:=by exact rfl) (hc:anyT T l.toList l'.toList i=true:=by kernel_rfl) (hQ: ∀c a w,Q (.panic c) (a.put oi.dst v) w→Q (.panic c) a w:=by exact fun _ _ _ h=>h) (hw:Region.wanted oi (yielded ops a.tmps)=true:=by rfl) (hv: ∀w',(execOp a.eval oi).run P w'= .ok (.value v) w':=by intro w';go_simp;with_reducible rfl) (ha:a.put (some n) v=a':=by simp only [Act.put,List.setIfInBounds_toArray,List.set_cons_zero,List.set_cons_succ,i64_w,i32_w];rfl):wpAnyLast P md ops Q S ds (fuel+1) l a w:=pS i n l' h hi hN (any_of HT.out hc) hQ hw hv ha
theorem uT {T:Bool×List (List Nat×List Nat)} (i:Nat) (n:Tmp) (l':Array Bool) (HT:Aside0 (rtab md ops=T)) (h:wpAnyLast P md ops Q S ds fuel l' a' w) (hi:ops[i]? =some oi:=by exact rfl) (hN:oi.dst=some n:=by exact rfl) (hc:anyT T l.toList l'.toList i=true:=by kernel_rfl) (hQ: ∀c a w,Q (.panic c) (a.put oi.dst undef) w→Q (.panic c) a w:=by exact fun _ _ _ h=>h) (hw:Region.wanted oi (yielded ops a.tmps)=false:=by rfl) (ha:a.put (some n) undef=a':=by simp only [Act.put,List.setIfInBounds_toArray,List.set_cons_zero,List.set_cons_succ,i64_w,i32_w];rfl):wpAnyLast P md ops Q S ds (fuel+1) l a w:=pU i n l' h hi hN (any_of HT.out hc) hQ hw ha
theorem nS (n:Tmp) (h:wpAnyLast P md ops Q S ds fuel l a' w) (ha:a.put (some n) v=a':=by simp only [Act.put,List.setIfInBounds_toArray,List.set_cons_zero,List.set_cons_succ,i64_w,i32_w];rfl):wpAnyLast P md ops Q S ds fuel l (a.put (some n) v) w:=norm_ ha h
theorem oS (i:Nat) (n:Tmp) (l':Array Bool) (hi:ops[i]? =some oi) (hN:oi.dst=some n) (h: ∀K:Act→World→Prop,Shut (∀a' w',S w'→(S w'→wpAnyLast P md ops Q S ds fuel l' a' w')→K a' w')→if Region.wanted oi (yielded ops a.tmps)=true then Oper.wp P oi a w K Q else K (a.put (some n) undef) w) (hc:readyB md ops l l' i=true:=by kernel_rfl) (hd:i∉ds:=by decide):wpAnyLast P md ops Q S ds (fuel+1) l a w:=one_ l' hi hN hc hd h
end
theorem lA0 (n:Nat):Array.replicate n false=lA n 0:=by simp [lA,Array.ext_iff]
section
variable {P:Program} {ops:Array Oper} {Q:Exit→Act→World→Prop} {rest:List Oper} {oi:Oper} {a:Act} {w:World}
theorem sT {id:Nat} (n:Nat) {S:World→Prop} {ds:List Nat} (hS:S w.drew) (h:S w.drew→wpAnyLast P .any ops Q S ds n (lA n 0) a w.drew) (hm:P.follows .mixedOrders=true:=by kernel_rfl) (hn:ops.size=n:=by rfl):(Code.region id ops true).wp P Q a w:=start_ (lA n 0) hm hn (lA0 n) hS h
theorem gL (n : Tmp) {f : FuncId} {fn : Func} {xs : Array Operand} {ts : Array TypeId} (hf : P.funcs[f]? = some fn) (args : Array Value) (h : Calls P f args w fun e w' => ∃ v, e = .returned v ∧ wpList P ops Q rest (a.put (some n) v) w') (hd : oi.dst = some n := by exact rfl) (hg : oi.guard = none := by exact rfl) (hname : (fn.name == "runtime.NumGoroutine") = false := by kernel_rfl) (hb : fn.body.isSome = true := by exact rfl) (hop : oi.op = .call { callee := .value (.func f), args := xs, argTypes := ts } := by exact rfl) (hargs : xs.map a.eval = args := by simp only [List.map_toArray, List.map_cons, List.map_nil]; rfl) : wpList P ops Q (oi :: rest) a w := goesL_ (some n) hd hg hf hname hb args hop hargs h
theorem gO {N : Option Tmp} {K : Act → World → Prop} {f : FuncId} {fn : Func} {xs : Array Operand} {ts : Array TypeId} (hf : P.funcs[f]? = some fn) (args : Array Value) (h : Calls P f args w fun e w' => ∃ v, e = .returned v ∧ K (a.put N v) w') (hname : (fn.name == "runtime.NumGoroutine") = false := by kernel_rfl) (hb : fn.body.isSome = true := by exact rfl) (hw : Region.wanted oi (yielded ops a.tmps) = true := by rfl) (hN : oi.dst = N := by exact rfl) (hop : oi.op = .call { callee := .value (.func f), args := xs, argTypes := ts } := by exact rfl) (hargs : xs.map a.eval = args := by simp only [List.map_toArray, List.map_cons, List.map_nil]; rfl) : if Region.wanted oi (yielded ops a.tmps) = true then Oper.wp P oi a w K Q else K (a.put N undef) w := goes_ hf hname hb args hw hN hop hargs h
end
theorem zz1 {p:Prop} (h:p:=by repeat (first|(with_reducible first|exact HB.out|apply below_alloc|apply pw_below_drewN|apply below_drew1)|exact HB.out)):p:=h
theorem zz2 {p:Prop} (h:p:=by (try simp only [List.map_toArray,List.map_cons,List.map_nil]);first|done|rfl|(simp only [List.length_drop,List.length_take];rfl)):p:=h
theorem zz3 {p:Prop} (h:p:=by first|(with_reducible assumption)|assumption):p:=h
theorem zz4 {p:Prop} (h:p:=by rintro w' ⟨s0,s1,s2,s3,s4,s5⟩;go_simp;with_reducible rfl):p:=h
theorem zz5 {p:Prop} (h:p:=by repeat (first|exact (Kd.C_below HR0.out HB.out)|(with_reducible refine Kd.C_alloc ?_ _)|(with_reducible refine Kd.C_drewN ?_ _)|(with_reducible refine Kd.C_drew ?_))):p:=h
theorem zz6 {p:Prop} (h:p:=by first|rfl|(simp;done)|(simp [*];done)):p:=h
theorem zz7 {p:Prop} (h:p:=by first|rfl|(simp [errW_none,errW_some]<;>rfl)|(simp [*,errW_none,errW_some]<;>rfl)):p:=h
theorem zz8 {p:Prop} (h:p:=by first|exact Nat.ne_of_lt (Nat.lt_of_lt_of_le (by have:=World.block_lt_of_cell? _ _ hw411_0;first|rwa [add_block] at this|exact this) GW412.out)|(rw [add_block];exact Nat.ne_of_lt (Nat.lt_of_lt_of_le (by have:=World.block_lt_of_cell? _ _ hw411_0;first|rwa [add_block] at this|exact this) GW412.out))|(show (Addr.add _ _).block≠_;rw [add_block];exact Nat.ne_of_lt (Nat.lt_of_lt_of_le (by have:=World.block_lt_of_cell? _ _ hw411_0;first|rwa [add_block] at this|exact this) GW412.out))|(dsimp only;exact Nat.ne_of_lt (Nat.lt_of_lt_of_le (by have:=World.block_lt_of_cell? _ _ hw411_0;first|rwa [add_block] at this|exact this) GW412.out))):p:=h
theorem zz9 {p:Prop} (h:p:=by repeat (first|(with_reducible first|exact HB.out|apply below_alloc|apply pw_below_drewN|apply below_drew1|refine below_set ?_ GE167.out)|exact HB.out)):p:=h
theorem zz10 {p:Prop} (h:p:=by repeat (first|exact (Kd.C_below HR1_0.out HB.out)|(with_reducible refine Kd.C_alloc ?_ _)|(with_reducible refine Kd.C_drewN ?_ _)|(with_reducible refine Kd.C_drew ?_))):p:=h
theorem zz11 {p:Prop} (h:p:=by repeat (first|(with_reducible first|exact HB.out|apply below_alloc|apply pw_below_drewN|apply below_drew1|refine below_set ?_ GE292.out)|exact HB.out)):p:=h
theorem zz12 {p:Prop} (h:p:=by repeat (first|exact Drawn0.refl _|apply Drawn0.step)):p:=h
theorem zz13 {p:Prop} (h:p:=by repeat (first|exact (Kd.C_below HR1_4.out HB.out)|(with_reducible refine Kd.C_alloc ?_ _)|(with_reducible refine Kd.C_drewN ?_ _)|(with_reducible refine Kd.C_drew ?_))):p:=h
theorem zz14 {p:Prop} (h:p:=by (with_reducible repeat (first|refine blk_drewN ?_ _|refine blk_drew ?_|refine blk_alloc ?_ _));exact BK399.out):p:=h
theorem zz15 {p:Prop} (h:p:=by rintro w' ⟨s0,s1,s2,s3,s4⟩;go_simp;with_reducible rfl):p:=h
theorem zz16 {p:Prop} (h:p:=by repeat (first|(with_reducible first|exact HB.out|apply below_alloc|apply pw_below_drewN|apply below_drew1|refine below_set ?_ GE399.out|refine below_set ?_ GE400.out|refine below_set ?_ GE408.out)|exact HB.out)):p:=h
theorem zz17 {p:Prop} (h:p:=by repeat (first|(with_reducible first|exact HB.out|apply below_alloc|apply pw_below_drewN|apply below_drew1|refine below_set ?_ GE238.out)|exact HB.out)):p:=h
theorem zz18 {p:Prop} (h:p:=by rintro w' ⟨s0,s1,s2,s3,s4,s5,s6,s7,s8,s9,s10⟩;go_simp;with_reducible rfl):p:=h
theorem zz19 {p:Prop} (h:p:=by first|exact Kd.own_blk (Kd.R_ne HO_9.out BK412.out (by decide))|(rw [add_block];exact Kd.own_blk (Kd.R_ne HO_9.out BK412.out (by decide)))|(show (Addr.add _ _).block≠_;rw [add_block];exact Kd.own_blk (Kd.R_ne HO_9.out BK412.out (by decide)))|(dsimp only;exact Kd.own_blk (Kd.R_ne HO_9.out BK412.out (by decide)))):p:=h
theorem zz20 {p:Prop} (h:p:=by (with_reducible repeat (first|refine blk_drewN ?_ _|refine blk_drew ?_|refine blk_alloc ?_ _));exact BK400.out):p:=h
theorem zz21 {p:Prop} (h:p:=by (with_reducible repeat (first|refine blk_drewN ?_ _|refine blk_drew ?_|refine blk_alloc ?_ _));exact BK167.out):p:=h
theorem zz22 {p:Prop} (h:p:=by repeat (first|(with_reducible first|exact HB.out|apply below_alloc|apply pw_below_drewN|apply below_drew1|refine below_set ?_ GE423.out)|exact HB.out)):p:=h
theorem zz23 {p:Prop} (h:p:=by repeat (first|(with_reducible first|exact HB.out|apply below_alloc|apply pw_below_drewN|apply below_drew1|refine below_set ?_ GE264.out)|exact HB.out)):p:=h
theorem zz24 {p:Prop} (h:p:=by repeat (first|(with_reducible first|exact HB.out|apply below_alloc|apply pw_below_drewN|apply below_drew1|refine below_set ?_ GE399.out|refine below_set ?_ GE400.out|refine below_set ?_ GE408.out|refine below_set ?_ GE412.out)|exact HB.out)):p:=h
theorem zz25 {p:Prop} (h:p:=by repeat (first|(with_reducible first|exact HB.out|apply below_alloc|apply pw_below_drewN|apply below_drew1|refine below_set ?_ GE399.out|refine below_set ?_ GE400.out)|exact HB.out)):p:=h
theorem zz26 {p:Prop} (h:p:=by repeat (first|(with_reducible first|exact HB.out|apply below_alloc|apply pw_below_drewN|apply below_drew1|refine below_set ?_ GE257.out)|exact HB.out)):p:=h
theorem zz27 {p:Prop} (h:p:=by have:=HGr.out;have:=HGW.out;omega):p:=h
theorem zz28 {p:Prop} (h:p:=by rintro w' ⟨s0,s1,s2,s3,s4,s5,s6⟩;go_simp;with_reducible rfl):p:=h
theorem zz29 {p:Prop} (h:p:=by repeat (first|(with_reducible first|exact HB.out|apply below_alloc|apply pw_below_drewN|apply below_drew1|refine below_set ?_ (IsS93.ge HI0.out))|exact HB.out)):p:=h
theorem zz30 {p:Prop} (h:p:=by repeat (first|(with_reducible first|exact HK.out|apply KeepBut.set_|apply keep_drewN|apply keep_drew|apply keep_alloc)|exact HK.out)):p:=h
theorem zz31 {p:Prop} (h:p:=by simp only [putAll,Act.put,List.setIfInBounds_toArray,List.set_cons_zero,List.set_cons_succ]):p:=h
theorem zz32 {p:Prop} (h:p:=by (with_reducible repeat (first|refine blk_drewN ?_ _|refine blk_drew ?_|refine blk_alloc ?_ _));exact BK408.out):p:=h
theorem zz33 {p:Prop} (h:p:=by repeat (first|(with_reducible first|exact HI0.out|apply IsS93.alloc|apply IsS93.drewN|apply IsS93.drew|apply IsS93.set_1)|exact HI0.out)):p:=h
theorem zz34 {p:Prop} (h:p:=by repeat (first|(with_reducible first|exact HB.out|apply below_alloc|apply pw_below_drewN|apply below_drew1|refine below_set ?_ GE442.out)|exact HB.out)):p:=h
theorem zz35 {p:Prop} (h:p:=by (with_reducible repeat (first|refine blk_drewN ?_ _|refine blk_drew ?_|refine blk_alloc ?_ _));exact BK292.out):p:=h
theorem zz36 {p:Prop} (h:p:=by repeat (first|exact HR392_1.out|(with_reducible refine Kd.C_alloc ?_ _)|(with_reducible refine Kd.C_drewN ?_ _)|(with_reducible refine Kd.C_drew ?_))):p:=h
theorem zz37 {p:Prop} (h:p:=by repeat (first|exact HR391_1.out|(with_reducible refine Kd.C_alloc ?_ _)|(with_reducible refine Kd.C_drewN ?_ _)|(with_reducible refine Kd.C_drew ?_))):p:=h
theorem zz38 {p:Prop} (h:p:=by rintro w' ⟨s0,s1,s2,s3⟩;go_simp;with_reducible rfl):p:=h
theorem zz39 {p:Prop} (h:p:=by repeat (first|(with_reducible first|exact HB.out|apply below_alloc|apply pw_below_drewN|apply below_drew1|refine below_set ?_ GE319.out)|exact HB.out)):p:=h
theorem zz40 {p:Prop} (h:p:=by repeat (first|(with_reducible first|exact HB.out|apply below_alloc|apply pw_below_drewN|apply below_drew1|refine below_set ?_ GE277.out)|exact HB.out)):p:=h
theorem zz41 {p:Prop} (h:p:=by have:=HGp.out;have:=HGW.out;omega):p:=h
theorem zz42 {p:Prop} (h:p:=by (with_reducible repeat (first|refine blk_drewN ?_ _|refine blk_drew ?_|refine blk_alloc ?_ _));exact BK264.out):p:=h
theorem zz43 {p:Prop} (h:p:=by (with_reducible repeat (first|refine blk_drewN ?_ _|refine blk_drew ?_|refine blk_alloc ?_ _));exact BK238.out):p:=h
theorem zz44 {p:Prop} (h:p:=by rintro w' ⟨s0,s1,s2,s3,s4,s5,s6,s7,s8,s9⟩;go_simp;with_reducible rfl):p:=h
theorem zz45 {p:Prop} (h:p:=by have:=HL.out;omega):p:=h
theorem zz46 {p:Prop} (h:p:=by (with_reducible repeat (first|refine blk_drewN ?_ _|refine blk_drew ?_|refine blk_alloc ?_ _));exact BK423.out):p:=h
theorem zz47 {p:Prop} (h:p:=by repeat (first|exact HR0.out|(with_reducible refine Kd.C_alloc ?_ _)|(with_reducible refine Kd.C_drewN ?_ _)|(with_reducible refine Kd.C_drew ?_))):p:=h
theorem zz48 {p:Prop} (h:p:=by have:=HM.out;omega):p:=h
theorem zz49 {p:Prop} (h:p:=by exact (by rw [hg];exact Nat.ne_of_lt (blk_lt (g:=gb399) (o:= .cells #[.slice (some ad404) l1_0.length c1_0,.int .i64 a1_1,.int .i64 a1_2,.int .i64 a1_3,.slice A1_4 l1_4.length c1_4] 27 (0,0)) zz14):gb399≠gb412)):p:=h
theorem zz50 {p:Prop} (h:p:=by exact (by rw [hg];exact Nat.ne_of_gt (blk_lt (g:=gb399) (o:= .cells #[.slice (some ad404) l1_0.length c1_0,.int .i64 a1_1,.int .i64 a1_2,.int .i64 a1_3,.slice A1_4 l1_4.length c1_4] 27 (0,0)) zz14):gb412≠gb399)):p:=h
theorem zz51 {p:Prop} (h:p:=by (with_reducible repeat (first|apply Kd.R_alloc|apply Kd.R_drewN|apply Kd.R_drew));exact HO172.out):p:=h
theorem zz52 {p:Prop} (h:p:=by (with_reducible repeat (first|apply Kd.R_alloc|apply Kd.R_drewN|apply Kd.R_drew));exact HO_7.out):p:=h
theorem zz53 {p:Prop} (h:p:=by repeat (first|(with_reducible first|exact HBW.out|apply below_alloc|apply pw_below_drewN|apply below_drew1)|exact HBW.out)):p:=h
theorem zz54 {p:Prop} (h:p:=by repeat (first|(with_reducible first|exact HB.out|apply below_alloc|apply pw_below_drewN|apply below_drew1|refine below_set ?_ GE319.out|refine below_set ?_ GE322.out)|exact HB.out)):p:=h
theorem zz55 {p:Prop} (h:p:=by have:=HM.out;have:=HX2.out;omega):p:=h
theorem zz56 {p:Prop} (h:p:=by have:=B1.out;unfold pOk at this;rw [HO.out];exact this):p:=h
theorem zz57 {p:Prop} (h:p:=by (with_reducible repeat (first|refine blk_drewN ?_ _|refine blk_drew ?_|refine blk_alloc ?_ _));exact BK442.out):p:=h
theorem zz58 {p:Prop} (h:p:=by repeat (first|exact (Kd.R_reads' HO_7.out).2.2|(with_reducible refine Kd.C_alloc ?_ _)|(with_reducible refine Kd.C_drewN ?_ _)|(with_reducible refine Kd.C_drew ?_))):p:=h
def spec_l6In.f (a0:Int) (a1:Int) (a2:Int):Option (Bool):=if a0≥a1 then (some (decide (a0≤a2))) else (some false)
set_option maxHeartbeats 8000000 in
set_option maxRecDepth 100000 in
theorem spec_l6In.calls (a0:Int) (a1:Int) (a2:Int) (r:Bool) (w:World) (h:spec_l6In.f a0 a1 a2=some r):
  Calls Try.prog 79 #[.int .i64 a0,.int .i64 a1,.int .i64 a2] w fun e w'=>e= .returned (.bool r)∧Drawn0 w w':=by
 have H:(if a0≥a1 then (some (decide (a0≤a2))) else (some false))=some r:=h
 clear h;by_cases c4:a0≥a1
 ·rw [if_pos c4] at H
  have c4b0:decide (a1≤a0)=true:=decide_eq_true c4
  clear c4;obtain rfl:=Option.some.inj H;go_enter Try.func79,Try.ntmps79;go_wp2;go_ret;exact ⟨zz6,zz12⟩
 ·rw [if_neg c4] at H
  have c4b0:decide (a1≤a0)=false:=decide_eq_false c4
  clear c4;obtain rfl:=Option.some.inj H;go_enter Try.func79,Try.ntmps79;go_wp2;go_ret;exact ⟨zz6,zz12⟩
def spec_l2Fields.f:Nat→List (S112)→Int→Option (List Int)
  |0,_,_=>none
  |k+1,l0,a1=>if a1=0 then (some (([]:List Int))) else (if 0≤a1 then (if a1<(l0.length:Int) then ((spec_l2Fields.f k l0 ((rd_T112 l0 a1).f0)).bind fun t125=>(if t125.length+((rd_T112 l0 a1).f1).length<17592186044416 then (some (t125++((rd_T112 l0 a1).f1))) else (none))) else (none)) else (none))
def spec_l2Fields.T3:Bool×List (List Nat×List Nat):=(true,[([],[]),([],[]),([],[]),([1,2],[1,2]),([3],[3]),([4],[4]),([0,5],[0,5]),([],[]),([],[]),([7,8],[7,8]),([9],[9]),([10],[10]),([6,11,6],[6,11]),([12,12,0,1,2,3,4,5,6,7,8,9,10,11,12],[12])])
def spec_l2Fields.B3:List Nat:=[0,0,0,6,14,30,63,0,0,384,896,1920,4095,8191]
theorem spec_l2Fields.tab3:rtab .any (opsOf Try.f81 3)=spec_l2Fields.T3:=by kernel_rfl
theorem spec_l2Fields.bits3:waitsOk spec_l2Fields.T3.2 spec_l2Fields.B3=true:=by kernel_rfl
set_option maxHeartbeats 8000000 in
set_option maxRecDepth 100000 in
theorem spec_l2Fields.calls (k:Nat): ∀(A0:Option Addr) (c0:Nat) (l0:List (S112)) (a1:Int) (r:List Int) (w:World) (hr0:Kd.C k112 w A0 l0.length l0) (hc0:l0.length≤c0) (h:spec_l2Fields.f k l0 a1=some r),
  Calls Try.prog 81 #[.slice A0 l0.length c0,.int .i64 a1] w fun e w'=> ∃v0_:Value,e= .returned (v0_)∧Kd.R (Kd.int .i64) 3 w' w.heap.size (fun _=>True) v0_ r∧Below w.heap.size w w':=by
 induction k using Nat.strongRecOn with
 |_ k ih=>
 intro A0 c0 l0 a1 r w hr0 hc0 h
 cases k with
 |zero=>exact absurd h (by simp [spec_l2Fields.f])
 |succ k=>
 simp only [spec_l2Fields.f] at h;have HR0:=aK hr0;have HC0:=aK hc0;clear hr0 hc0;have HB:=aK (Below.refl w.heap.size w);have H:(if a1=0 then (some (([]:List Int))) else (if 0≤a1 then (if a1<(l0.length:Int) then ((spec_l2Fields.f k l0 ((rd_T112 l0 a1).f0)).bind fun t125=>(if t125.length+((rd_T112 l0 a1).f1).length<17592186044416 then (some (t125++((rd_T112 l0 a1).f1))) else (none))) else (none)) else (none)))=some r:=h
 clear h;by_cases c3:a1=0
 ·rw [if_pos c3] at H
  have c3b0:(a1==0)=true:=beq_iff_eq.mpr c3
  have c3b1:(a1 !=0)=false:=bne_eq_false_iff_eq.mpr c3
  clear c3;obtain ⟨y121,hy121⟩: ∃y_:List Int,y_=(([]:List Int)):=⟨_,rfl⟩;replace H:(some y121)=some r:=by first|(rw [hy121];with_reducible exact H)|(have H2_:=(Option.bind_some _ _).symm.trans H;rw [hy121];with_reducible exact H2_)|(have H2_:=(Option.bind_some _ _).symm.trans H;with_reducible exact H2_)|with_reducible exact H|(rw [hy121];exact H)|exact H
  have Ny121:=aK hy121;clear hy121;obtain rfl:=Option.some.inj H;go_enter Try.func81,Try.ntmps81
  go_wp2_with (first|((with_reducible refine gate_dst (N:=7) rfl ?_);refine Kd.R_lit (Kd.int .i64) _ 3 ?hg (N:=7) ?hd (xs:=([]:List Int)) (inner:=[]) (ok:=fun _=>True) (okp:=fun _=>True) ?hr ?hp (fun _ hk=>hk) trivial (Below.refl _ _) (Nat.le_refl _) (by simp) ?_;(case hd=>rfl);(case hg=>rfl);(case hr=>first|(go_simp;done)|(go_simp;rfl));(case hp=>exact (Reps.none _ _));intro v122 w4 ho5 hb hg_ hnew_;clear hg_ hnew_;(first|rw [←Ny121.out] at ho5|(simp only [Int.reduceToNat] at ho5;rw [←Ny121.out] at ho5));have HO123:=aK (Kd.R_lower ho5 (below_size zz1));replace HB:=aK (below_step zz1 hb);clear hb ho5))
  go_ret;exact ⟨_,by first|rfl|(simp [errW_none,errW_some]<;>rfl)|(simp [*,errW_none,errW_some]<;>rfl),by (with_reducible repeat (first|apply Kd.R_alloc|apply Kd.R_drewN|apply Kd.R_drew));exact HO123.out,by repeat (first|(with_reducible first|exact HB.out|apply below_alloc|apply pw_below_drewN|apply below_drew1)|exact HB.out)⟩
 ·rw [if_neg c3] at H
  have c3b0:(a1==0)=false:=beq_eq_false_iff_ne.mpr c3
  have c3b1:(a1 !=0)=true:=bne_iff_ne.mpr c3
  by_cases c6:0≤a1
  ·rw [if_pos c6] at H
   have c6b0:decide (0≤a1)=true:=decide_eq_true c6
   clear c6;by_cases c7:a1<(l0.length:Int)
   ·rw [if_pos c7] at H
    have c7b0:decide (a1<(l0.length:Int))=true:=decide_eq_true c7
    clear c7;replace H:=Option.bind_eq_some_iff.mp H;obtain ⟨t125,A80,H⟩:=H;(try dsimp only at H);have A8:=aK A80;clear A80;by_cases c9:t125.length+((rd_T112 l0 a1).f1).length<17592186044416
    ·rw [if_pos c9] at H
     have LMc9:=aK c9;clear c9;obtain ⟨y129,hy129⟩: ∃y_:List Int,y_=(t125++((rd_T112 l0 a1).f1)):=⟨_,rfl⟩;replace H:(some y129)=some r:=by first|(rw [hy129];with_reducible exact H)|(have H2_:=(Option.bind_some _ _).symm.trans H;rw [hy129];with_reducible exact H2_)|(have H2_:=(Option.bind_some _ _).symm.trans H;with_reducible exact H2_)|with_reducible exact H|(rw [hy129];exact H)|exact H
     have Ny129:=aK hy129;clear hy129;obtain rfl:=Option.some.inj H;go_enter Try.func81,Try.ntmps81;try go_wp2
     have n0_:=aK (below_drew1 HB.out);clear HB;have HB:=n0_;clear n0_;have p124:0≤(a1:Int):=of_decide_eq_true zz3
     have q124:a1<(l0.length:Int):=of_decide_eq_true zz3
     obtain ⟨ad124,A124_1,c124_1,e124,hx124_0,hx124_1,hl124_1,hi124_1⟩:=at_T112 HR0.out a1 p124 q124;have hw124_1:=hx124_1;have hw124_0:=hx124_0
     cases e124
     replace hx124_0:=(HB.out.cell (World.block_lt_of_cell? w _ hx124_0)).trans hx124_0;replace hx124_1:=(HB.out.cell (World.block_lt_of_cell? w _ hx124_1)).trans hx124_1;have HR124_1:=aK hi124_1;have HC124_1:=aK hl124_1;clear hi124_1 hl124_1;replace p124:=eq_true p124;replace q124:=eq_true q124;have p128:0≤(a1:Int):=of_decide_eq_true zz3
     have q128:a1<(l0.length:Int):=of_decide_eq_true zz3
     obtain ⟨ad128,A128_1,c128_1,e128,hx128_0,hx128_1,hl128_1,hi128_1⟩:=at_T112 HR0.out a1 p128 q128;have hw128_1:=hx128_1;have hw128_0:=hx128_0;obtain rfl:ad124=ad128:=(by injection e128);replace hx128_0:=(HB.out.cell (World.block_lt_of_cell? w _ hx128_0)).trans hx128_0;replace hx128_1:=(HB.out.cell (World.block_lt_of_cell? w _ hx128_1)).trans hx128_1;have HR128_1:=aK hi128_1;have HC128_1:=aK hl128_1;clear hi128_1 hl128_1;replace p128:=eq_true p128;replace q128:=eq_true q128;have ea_:=Option.some.inj (hx124_1.symm.trans hx128_1);injection ea_ with ea_ en_ ec_;subst ea_;subst ec_;clear en_;refine sT 14 (S:=fun w'=>w'.cell? (ad124.add ((a1).toNat*2))=some (.int .i64 ((rd_T112 l0 a1).f0))∧w'.cell? ⟨(ad124.add ((a1).toNat*2)).block,(ad124.add ((a1).toNat*2)).off+1,none⟩=some (.slice A124_1 ((rd_T112 l0 a1).f1).length c124_1)∧w'.cell? (ad124.add ((a1).toNat*2))=some (.int .i64 ((rd_T112 l0 a1).f0))∧w'.cell? ⟨(ad124.add ((a1).toNat*2)).block,(ad124.add ((a1).toNat*2)).off+1,none⟩=some (.slice A124_1 ((rd_T112 l0 a1).f1).length c124_1)) (ds:=[]) ⟨((HB.out.cell (World.block_lt_of_cell? w _ hw124_0)).trans hw124_0),((HB.out.cell (World.block_lt_of_cell? w _ hw124_1)).trans hw124_1),((HB.out.cell (World.block_lt_of_cell? w _ hw128_0)).trans hw128_0),((HB.out.cell (World.block_lt_of_cell? w _ hw128_1)).trans hw128_1)⟩ (fun hHeld=>?_);refine with_tabW spec_l2Fields.tab3 spec_l2Fields.bits3 (fun HT_ HW_=>?_);generalize w.drew=w10 at HB HR124_1 HR128_1 hx124_0 hx124_1 hx128_0 hx128_1 hHeld ⊢;refine pT 0 8 (lA 14 1) HT_ ?_;refine pT 1 9 (lA 14 3) HT_ ?_;refine pT 2 10 (lA 14 7) HT_ ?_;refine pT 3 11 (lA 14 15) HT_ ?_;refine pT 4 12 (lA 14 31) HT_ ?_;refine pT 7 15 (lA 14 159) HT_ ?_;refine pT 8 16 (lA 14 415) HT_ ?_;refine pT 9 17 (lA 14 927) HT_ ?_;refine pT 10 18 (lA 14 1951) HT_ ?_;refine tS 5 13 (lA 14 1983) rfl rfl (take_ofW HT_.out HW_.out (by kernel_rfl)) hHeld zz38 ?_;refine tS 11 19 (lA 14 4031) rfl rfl (take_ofW HT_.out HW_.out (by kernel_rfl)) hHeld zz38 ?_;refine one_ (i:=6) (N:=some 14) (lA 14 4095) rfl rfl (one_of HT_.out (by kernel_rfl)) (by decide) (fun K hK=>?_);refine goes_ Try.func81 (by kernel_rfl) rfl #[.slice (some ad124) l0.length c0,.int .i64 ((rd_T112 l0 a1).f0)] (by rfl) rfl rfl zz2 ?_;(with_reducible refine (ih k (by omega) _ _ l0 ((rd_T112 l0 a1).f0) t125 _ ?side1 ?side2 A8.out).mono ?_)
     (case side1=>exact zz5)
     (case side2=>exact HC0.out)
     rintro e w11 ⟨v126,rfl,ho0,hb⟩;refine ⟨_,rfl,?_⟩;have n0_:=aK (Kd.R_lower ho0 (below_size zz1));have n1_:=aK (below_step zz1 hb);clear HB;have HO127:=n0_;have HB:=n1_;clear n0_ n1_;(try clear hb);(try clear hb2);(try clear hk);(try clear hi);(try clear ho0);refine hK.out _ _ ⟨((HB.out.cell (World.block_lt_of_cell? w _ hw124_0)).trans hw124_0),((HB.out.cell (World.block_lt_of_cell? w _ hw124_1)).trans hw124_1),((HB.out.cell (World.block_lt_of_cell? w _ hw128_0)).trans hw128_0),((HB.out.cell (World.block_lt_of_cell? w _ hw128_1)).trans hw128_1)⟩ (fun hHeld=>?_);clear hK K;refine nS 14 ?_;refine one_ (i:=12) (N:=some 20) (lA 14 8191) rfl rfl (one_of HT_.out (by kernel_rfl)) (by decide) (fun K hK=>?_);refine Kd.R_append_rows_step (Kd.int .i64) (w0:=w) w.heap.size (by rfl) (.tmp 14) (.tmp 19) 24 3 (.int .i64 0) 8 rfl Try.underlying24 info3 rfl (by decide) (by omega) v126 t125 ((rd_T112 l0 a1).f1) _ _ _ (fun _=>True) (fun _=>False) rfl rfl ?aO ?aR (fun _ _ h=>h) (fun _ h=>h.elim) ?aF ?aB ?aS ?aL ?_
     (case aR=>repeat (first|exact (Kd.C_below HR128_1.out HB.out)|(with_reducible refine Kd.C_alloc ?_ _)|(with_reducible refine Kd.C_drewN ?_ _)|(with_reducible refine Kd.C_drew ?_)))
     (case aB=>exact zz1)
     (case aF=>exact (fun _ _=>trivial))
     (case aO=>exact (by (with_reducible repeat (first|apply Kd.R_alloc|apply Kd.R_drewN|apply Kd.R_drew));exact HO127.out))
     (case aS=>exact (below_size zz1))
     (case aL=>have:=LMc9.out;omega)
     intro v130 w12 ho hb hg hat;rw [←Ny129.out] at ho;have n0_:=aK (hb);have n1_:=aK (ho);clear HB;clear HO127;have HB:=n0_;have HO131:=n1_;clear n0_ n1_;clear ho hb hg hat;refine hK.out _ _ ⟨((HB.out.cell (World.block_lt_of_cell? w _ hw124_0)).trans hw124_0),((HB.out.cell (World.block_lt_of_cell? w _ hw124_1)).trans hw124_1),((HB.out.cell (World.block_lt_of_cell? w _ hw128_0)).trans hw128_0),((HB.out.cell (World.block_lt_of_cell? w _ hw128_1)).trans hw128_1)⟩ (fun hHeld=>?_);clear hK K;refine nS 20 ?_;refine pT 13 4 (lA 14 16383) HT_ ?_;refine done_ (done_of HT_.out (by kernel_rfl)) ?_;try go_wp2
     go_ret;exact ⟨_,by first|rfl|(simp [errW_none,errW_some]<;>rfl)|(simp [*,errW_none,errW_some]<;>rfl),by (with_reducible repeat (first|apply Kd.R_alloc|apply Kd.R_drewN|apply Kd.R_drew));exact HO131.out,by repeat (first|(with_reducible first|exact HB.out|apply below_alloc|apply pw_below_drewN|apply below_drew1)|exact HB.out)⟩
    ·rw [if_neg c9] at H
     exact absurd H (by simp)
   ·rw [if_neg c7] at H
    exact absurd H (by simp)
  ·rw [if_neg c6] at H
   exact absurd H (by simp)
mutual
def spec_l21Size.j0:Nat→List Int→Int→Int→Int→Bool→Option (Int)
 |0,_,_,_,_,_=>none
 |k+1,x1,x2,x3,x9,x30=>if x30=true then (if (wrap64 (x2+1))≥x3 then (spec_l21Size.j1 k x1 x2 x3 true) else (if 0≤(wrap64 (x2+1)) then (if (wrap64 (x2+1))<(x1.length:Int) then ((spec_l6In.f (rd x1 (wrap64 (x2+1))) 0 6).bind fun t186=>(spec_l21Size.j1 k x1 x2 x3 (!t186))) else (none)) else (none))) else (if (wrap64 (x2+x9))>x3 then (some 0) else (some x9))
def spec_l21Size.j1:Nat→List Int→Int→Int→Bool→Option (Int)
 |0,_,_,_,_=>none
 |k+1,x1,x2,x3,x55=>if x55=true then (some 0) else (if 0≤(wrap64 (x2+1)) then (if (wrap64 (x2+1))<(x1.length:Int) then (if (wrap64 (x2+(wrap64 (2+(rd x1 (wrap64 (x2+1)))))))>x3 then (some 0) else (some (wrap64 (2+(rd x1 (wrap64 (x2+1))))))) else (none)) else (none))
end
def spec_l21Size.f (k:Nat) (l0:List (S112)) (l1:List Int) (a2:Int) (a3:Int):Option (Int):=if a2≥a3 then (some 0) else (if 0≤a2 then (if a2<(l1.length:Int) then ((spec_l6In.f (rd l1 a2) 0 (wrap64 ((l0.length:Int) - 1))).bind fun t178=>(if t178=true then ((spec_l2Fields.f k l0 (rd l1 a2)).bind fun t180=>(if (wrap64 (a2+(wrap64 (1+(t180.length:Int)))))>a3 then (some 0) else (some (wrap64 (1+(t180.length:Int)))))) else (if (rd l1 a2)=(-1) then (spec_l21Size.j0 k l1 a2 a3 0 true) else (spec_l21Size.j0 k l1 a2 a3 0 ((rd l1 a2)==(-2)))))) else (none)) else (none))
set_option maxHeartbeats 8000000 in
set_option maxRecDepth 100000 in
theorem spec_l21Size.calls (k : Nat) (A0 : Option Addr) (c0 : Nat) (l0 : List (S112)) (A1 : Option Addr) (c1 : Nat) (l1 : List Int) (a2 : Int) (a3 : Int) (r : Int) (w : World) (hr0 : Kd.C k112 w A0 l0.length l0) (hc0 : l0.length ≤ c0) (hr1 : Kd.C (Kd.int .i64) w A1 l1.length l1) (hc1 : l1.length ≤ c1) (h : spec_l21Size.f k l0 l1 a2 a3 = some r) :
  Calls Try.prog 80 #[.slice A0 l0.length c0,.slice A1 l1.length c1,.int .i64 a2,.int .i64 a3] w fun e w'=>e= .returned (.int .i64 r)∧Below w.heap.size w w':=by
 have HR0:=aK hr0;have HC0:=aK hc0;clear hr0 hc0;have HR1:=aK hr1;have HC1:=aK hc1;clear hr1 hc1;have HB:=aK (Below.refl w.heap.size w);have H:(if a2≥a3 then (some 0) else (if 0≤a2 then (if a2<(l1.length:Int) then ((spec_l6In.f (rd l1 a2) 0 (wrap64 ((l0.length:Int) - 1))).bind fun t178=>(if t178=true then ((spec_l2Fields.f k l0 (rd l1 a2)).bind fun t180=>(if (wrap64 (a2+(wrap64 (1+(t180.length:Int)))))>a3 then (some 0) else (some (wrap64 (1+(t180.length:Int)))))) else (if (rd l1 a2)=(-1) then (spec_l21Size.j0 k l1 a2 a3 0 true) else (spec_l21Size.j0 k l1 a2 a3 0 ((rd l1 a2)==(-2)))))) else (none)) else (none)))=some r:=h
 clear h;by_cases c5:a2≥a3
 ·rw [if_pos c5] at H
  have c5b0:decide (a3≤a2)=true:=decide_eq_true c5
  clear c5;obtain rfl:=Option.some.inj H;go_enter Try.func80,Try.ntmps80;go_wp2;go_ret;exact ⟨zz7,zz1⟩
 ·rw [if_neg c5] at H
  have c5b0:decide (a3≤a2)=false:=decide_eq_false c5
  clear c5;by_cases c6:0≤a2
  ·rw [if_pos c6] at H
   have c6b0:decide (0≤a2)=true:=decide_eq_true c6
   clear c6;by_cases c7:a2<(l1.length:Int)
   ·rw [if_pos c7] at H
    have c7b0:decide (a2<(l1.length:Int))=true:=decide_eq_true c7
    clear c7;replace H:=Option.bind_eq_some_iff.mp H;obtain ⟨t178,A80,H⟩:=H;(try dsimp only at H);have A8:=aK A80;clear A80;by_cases c9:t178=true
    ·subst c9
     rw [if_pos rfl] at H;replace H:=Option.bind_eq_some_iff.mp H;obtain ⟨t180,A100,H⟩:=H;(try dsimp only at H);have A10:=aK A100;clear A100;by_cases c11:(wrap64 (a2+(wrap64 (1+(t180.length:Int)))))>a3
     ·rw [if_pos c11] at H
      have c11b0:decide (a3<(wrap64 (a2+(wrap64 (1+(t180.length:Int))))))=true:=decide_eq_true c11
      clear c11;obtain rfl:=Option.some.inj H;have p177:0≤(a2:Int):=of_decide_eq_true zz3
      have q177:a2<(l1.length:Int):=of_decide_eq_true zz3
      obtain ⟨ad177,e177,hx177_0⟩:=Kd.at_int HR1.out a2 p177 q177
      cases e177
      replace p177:=eq_true p177;replace q177:=eq_true q177;go_enter Try.func80,Try.ntmps80
      go_wp2_with (first|((with_reducible refine gate_callee (f:=79) rfl ?_);refine goesL_ (some 21) rfl rfl Try.func79 (by kernel_rfl) rfl #[.int .i64 (rd l1 a2),.int .i64 0,.int .i64 (wrap64 ((l0.length:Int) - 1))] rfl zz2 ?_;(with_reducible refine (spec_l6In.calls (rd l1 a2) 0 (wrap64 ((l0.length:Int) - 1)) true _ A8.out).mono ?_);rintro e w' ⟨rfl,⟨nd,rfl⟩⟩;refine ⟨_,rfl,?_⟩;have p179:0≤(a2:Int):=of_decide_eq_true zz3;have q179:a2<(l1.length:Int):=of_decide_eq_true zz3;obtain ⟨ad179,e179,hx179_0⟩:=Kd.at_int HR1.out a2 p179 q179;obtain rfl:ad177=ad179:=(by injection e179);replace p179:=eq_true p179;replace q179:=eq_true q179)|((with_reducible refine gate_callee (f:=81) rfl ?_);refine goesL_ (some 27) rfl rfl Try.func81 (by kernel_rfl) rfl #[.slice A0 l0.length c0,.int .i64 (rd l1 a2)] rfl zz2 ?_;(with_reducible refine (spec_l2Fields.calls k _ _ l0 (rd l1 a2) t180 _ ?side1 ?side2 A10.out).mono ?_);(case side1=>exact zz47);(case side2=>exact HC0.out);rintro e w12 ⟨v181,rfl,ho0,hb⟩;refine ⟨_,rfl,?_⟩;have HO182:=aK (Kd.R_lower ho0 (below_size zz1));replace HB:=aK (below_step zz1 hb);(try clear hb);(try clear hb2);(try clear hk);(try clear hi);(try clear ho0);obtain ⟨Ao13,co13,eo13⟩:=Kd.R_slice HO182.out;subst eo13))
      go_ret;exact ⟨zz7,zz1⟩
     ·rw [if_neg c11] at H
      have c11b0:decide (a3<(wrap64 (a2+(wrap64 (1+(t180.length:Int))))))=false:=decide_eq_false c11
      clear c11;obtain rfl:=Option.some.inj H;have p177:0≤(a2:Int):=of_decide_eq_true zz3
      have q177:a2<(l1.length:Int):=of_decide_eq_true zz3
      obtain ⟨ad177,e177,hx177_0⟩:=Kd.at_int HR1.out a2 p177 q177
      cases e177
      replace p177:=eq_true p177;replace q177:=eq_true q177;go_enter Try.func80,Try.ntmps80
      go_wp2_with (first|((with_reducible refine gate_callee (f:=79) rfl ?_);refine goesL_ (some 21) rfl rfl Try.func79 (by kernel_rfl) rfl #[.int .i64 (rd l1 a2),.int .i64 0,.int .i64 (wrap64 ((l0.length:Int) - 1))] rfl zz2 ?_;(with_reducible refine (spec_l6In.calls (rd l1 a2) 0 (wrap64 ((l0.length:Int) - 1)) true _ A8.out).mono ?_);rintro e w' ⟨rfl,⟨nd,rfl⟩⟩;refine ⟨_,rfl,?_⟩;have p179:0≤(a2:Int):=of_decide_eq_true zz3;have q179:a2<(l1.length:Int):=of_decide_eq_true zz3;obtain ⟨ad179,e179,hx179_0⟩:=Kd.at_int HR1.out a2 p179 q179;obtain rfl:ad177=ad179:=(by injection e179);replace p179:=eq_true p179;replace q179:=eq_true q179)|((with_reducible refine gate_callee (f:=81) rfl ?_);refine goesL_ (some 27) rfl rfl Try.func81 (by kernel_rfl) rfl #[.slice A0 l0.length c0,.int .i64 (rd l1 a2)] rfl zz2 ?_;(with_reducible refine (spec_l2Fields.calls k _ _ l0 (rd l1 a2) t180 _ ?side1 ?side2 A10.out).mono ?_);(case side1=>exact zz47);(case side2=>exact HC0.out);rintro e w14 ⟨v181,rfl,ho0,hb⟩;refine ⟨_,rfl,?_⟩;have HO182:=aK (Kd.R_lower ho0 (below_size zz1));replace HB:=aK (below_step zz1 hb);(try clear hb);(try clear hb2);(try clear hk);(try clear hi);(try clear ho0);obtain ⟨Ao15,co15,eo15⟩:=Kd.R_slice HO182.out;subst eo15))
      go_ret;exact ⟨zz7,zz1⟩
    ·replace c9 := Bool.eq_false_iff.mpr c9
     subst c9;rw [if_neg (show¬(false=true) by decide)] at H;have HC16:=aK H;clear H;have p177:0≤(a2:Int):=of_decide_eq_true zz3
     have q177:a2<(l1.length:Int):=of_decide_eq_true zz3
     obtain ⟨ad177,e177,hx177_0⟩:=Kd.at_int HR1.out a2 p177 q177
     cases e177
     replace p177:=eq_true p177;replace q177:=eq_true q177;go_enter Try.func80,Try.ntmps80
     go_upto_region 6 with (first|((with_reducible refine gate_callee (f:=79) rfl ?_);refine goesL_ (some 21) rfl rfl Try.func79 (by kernel_rfl) rfl #[.int .i64 (rd l1 a2),.int .i64 0,.int .i64 (wrap64 ((l0.length:Int) - 1))] rfl zz2 ?_;(with_reducible refine (spec_l6In.calls (rd l1 a2) 0 (wrap64 ((l0.length:Int) - 1)) false _ A8.out).mono ?_);rintro e w' ⟨rfl,⟨nd,rfl⟩⟩;refine ⟨_,rfl,?_⟩))
     (try simp only [Act.put,List.setIfInBounds_toArray,List.set_cons_zero,List.set_cons_succ])
     go_cut [30] (fun v30 wc=> ∃(kq:Nat) (x30_15:Bool),v30= .bool x30_15∧Aside0 (spec_l21Size.j0 kq l1 a2 a3 0 x30_15=some r)∧Aside0 (kq≤k)∧Aside0 (Below w.heap.size w wc))
     case first=>
      have H:=HC16.out;clear HC16;by_cases c17:(rd l1 a2)=(-1)
      ·rw [if_pos c17] at H
       have c17b0:((rd l1 a2)==(-1))=true:=beq_iff_eq.mpr c17
       have c17b1:((rd l1 a2) !=(-1))=false:=bne_eq_false_iff_eq.mpr c17
       clear c17
       (first|rw [c17b0]|(simp only [i64_w,i32_w];rw [c17b0])|skip)
       have H':=aK H;clear H;have p183:0≤(a2:Int):=of_decide_eq_true zz3
       have q183:a2<(l1.length:Int):=of_decide_eq_true zz3
       obtain ⟨ad183,e183,hx183_0⟩:=Kd.at_int HR1.out a2 p183 q183;obtain rfl:ad177=ad183:=(by injection e183);replace hx183_0:=(HB.out.cell (World.block_lt_of_cell? w _ hx183_0)).trans hx183_0;replace p183:=eq_true p183;replace q183:=eq_true q183;go_wp2;go_meet
       case rel=>exact ⟨_,(true),zz6,H',⟨by first|omega|exact Nat.le_refl _⟩,⟨by repeat (first|(with_reducible first|exact HB.out|apply below_alloc|apply pw_below_drewN|apply below_drew1)|exact HB.out)⟩⟩
      ·rw [if_neg c17] at H
       have c17b0:((rd l1 a2)==(-1))=false:=beq_eq_false_iff_ne.mpr c17
       have c17b1:((rd l1 a2) !=(-1))=true:=bne_iff_ne.mpr c17
       (first|rw [c17b0]|(simp only [i64_w,i32_w];rw [c17b0])|skip)
       have H':=aK H;clear H;have p183:0≤(a2:Int):=of_decide_eq_true zz3
       have q183:a2<(l1.length:Int):=of_decide_eq_true zz3
       obtain ⟨ad183,e183,hx183_0⟩:=Kd.at_int HR1.out a2 p183 q183;obtain rfl:ad177=ad183:=(by injection e183);replace hx183_0:=(HB.out.cell (World.block_lt_of_cell? w _ hx183_0)).trans hx183_0;replace p183:=eq_true p183;replace q183:=eq_true q183;have p184:0≤(a2:Int):=of_decide_eq_true zz3
       have q184:a2<(l1.length:Int):=of_decide_eq_true zz3
       obtain ⟨ad184,e184,hx184_0⟩:=Kd.at_int HR1.out a2 p184 q184;obtain rfl:ad177=ad184:=(by injection e184);replace hx184_0:=(HB.out.cell (World.block_lt_of_cell? w _ hx184_0)).trans hx184_0;replace p184:=eq_true p184;replace q184:=eq_true q184;go_wp2;go_meet
       case rel=>exact ⟨_,(((rd l1 a2)==(-2))),zz6,H',⟨by first|omega|exact Nat.le_refl _⟩,⟨by repeat (first|(with_reducible first|exact HB.out|apply below_alloc|apply pw_below_drewN|apply below_drew1)|exact HB.out)⟩⟩
     case rest =>
      clear HC16;(try clear c1);(try clear p1);(try clear q1);(try clear hx1);(try clear p2);(try clear c5);(try clear c5b0);(try clear c6);(try clear c6b0);(try clear p6);(try clear c7);(try clear c7b0);(try clear c8);(try clear c9);(try clear c11);(try clear c11b0);(try clear c17);(try clear c17b0);(try clear c17b1);(try clear p17);(try clear q17);(try clear hx17);(try clear hx177_0);(try clear hx179_0);(try clear hx183_0);(try clear hx184_0);(try clear p177);(try clear p179);(try clear p183);(try clear p184);(try clear q177);(try clear q179);(try clear q183);(try clear q184);obtain ⟨kq,x30_15,rfl,HA,HJ15,HB⟩:=hcut
      cases kq with
      |zero=>exact absurd HA.out (by simp [spec_l21Size.j0])
      | succ kj15 =>
       have H:=HA.out;clear HA;simp only [spec_l21Size.j0] at H;by_cases c18:x30_15=true
       ·subst c18
        rw [if_pos rfl] at H;have HC19:=aK H;clear H
        go_upto_region 7 with (fail)
        go_cut [55] (fun v55 wc=> ∃(kq:Nat) (x55_18:Bool),v55= .bool x55_18∧Aside0 (spec_l21Size.j1 kq l1 a2 a3 x55_18=some r)∧Aside0 (kq≤kj15)∧Aside0 (Below w.heap.size w wc))
        case first=>
         have H:=HC19.out;clear HC19;by_cases c20:(wrap64 (a2+1))≥a3
         ·rw [if_pos c20] at H
          have c20b0:decide (a3≤(wrap64 (a2+1)))=true:=decide_eq_true c20
          clear c20
          (first|rw [c20b0]|(simp only [i64_w,i32_w];rw [c20b0])|skip)
          have H':=aK H;clear H;go_wp2;go_meet
          case rel=>exact ⟨_,(true),zz6,H',⟨by have:=HJ15.out;first|omega|exact Nat.le_refl _⟩,⟨by repeat (first|(with_reducible first|exact HB.out|apply below_alloc|apply pw_below_drewN|apply below_drew1)|exact HB.out)⟩⟩
         ·rw [if_neg c20] at H
          have c20b0:decide (a3≤(wrap64 (a2+1)))=false:=decide_eq_false c20
          clear c20
          (first|rw [c20b0]|(simp only [i64_w,i32_w];rw [c20b0])|skip)
          obtain ⟨ji21,hji21⟩: ∃j_:Int,(wrap64 (a2+1))=j_:=⟨_,rfl⟩;replace H:(if 0≤(ji21) then (if (ji21)<(l1.length:Int) then ((spec_l6In.f (rd l1 (ji21)) 0 6).bind fun t186=>(spec_l21Size.j1 kj15 l1 a2 a3 (!t186))) else (none)) else (none))=some r:=by first|(rw [hji21] at H;exact H)|(simp only [hji21] at H ⊢;exact H)
          (try rw [hji21] at c20b0)
          have hji21w:(IntKind.i64.wrap (a2+1))=ji21:=(i64_w _).trans hji21
          by_cases c22:0≤(ji21)
          ·rw [if_pos c22] at H
           have c22b0:decide (0≤(ji21))=true:=decide_eq_true c22
           clear c22;by_cases c23:(ji21)<(l1.length:Int)
           ·rw [if_pos c23] at H
            have c23b0:decide ((ji21)<(l1.length:Int))=true:=decide_eq_true c23
            clear c23;replace H:=Option.bind_eq_some_iff.mp H;obtain ⟨t186,A240,H⟩:=H;(try dsimp only at H);have A24:=aK A240;clear A240;have H':=aK H;clear H;have p185:0≤((ji21):Int):=of_decide_eq_true zz3
            have q185:(ji21)<(l1.length:Int):=of_decide_eq_true zz3
            obtain ⟨ad185,e185,hx185_0⟩:=Kd.at_int HR1.out (ji21) p185 q185;obtain rfl:ad177=ad185:=(by injection e185);replace hx185_0:=(HB.out.cell (World.block_lt_of_cell? w _ hx185_0)).trans hx185_0;replace p185:=eq_true p185;replace q185:=eq_true q185
            go_wp2_with (first|(go_at_call 79;(with_reducible refine (spec_l6In.calls (rd l1 (ji21)) 0 6 t186 _ A24.out).mono ?_);rintro e w' ⟨rfl,⟨nd,rfl⟩⟩))
            go_meet
            case rel=>exact ⟨_,(!t186),zz6,H',⟨by have:=HJ15.out;first|omega|exact Nat.le_refl _⟩,⟨by repeat (first|(with_reducible first|exact HB.out|apply below_alloc|apply pw_below_drewN|apply below_drew1)|exact HB.out)⟩⟩
           ·rw [if_neg c23] at H
            exact absurd H (by simp)
          ·rw [if_neg c22] at H
           exact absurd H (by simp)
        case rest =>
         clear HC19;(try clear c1);(try clear p1);(try clear q1);(try clear hx1);(try clear c2);(try clear p2);(try clear c5);(try clear c5b0);(try clear c6);(try clear c6b0);(try clear p6);(try clear c7);(try clear c7b0);(try clear c8);(try clear c9);(try clear c11);(try clear c11b0);(try clear c17);(try clear c17b0);(try clear c17b1);(try clear p17);(try clear q17);(try clear hx17);(try clear c18);(try clear p18);(try clear q18);(try clear hx18);(try clear c20);(try clear c20b0);(try clear c22);(try clear c22b0);(try clear c23);(try clear c23b0);(try clear hx177_0);(try clear hx179_0);(try clear hx183_0);(try clear hx184_0);(try clear hx185_0);(try clear p1);(try clear p17);(try clear p177);(try clear p179);(try clear p183);(try clear p184);(try clear p185);(try clear p2);(try clear p6);(try clear q1);(try clear q17);(try clear q177);(try clear q179);(try clear q183);(try clear q184);(try clear q185);obtain ⟨kq,x55_18,rfl,HA,HJ18,HB⟩:=hcut
         cases kq with
         |zero=>exact absurd HA.out (by simp [spec_l21Size.j1])
         | succ kj18 =>
          have H:=HA.out;clear HA;simp only [spec_l21Size.j1] at H;by_cases c25:x55_18=true
          ·subst c25
           rw [if_pos rfl] at H;obtain rfl:=Option.some.inj H;go_wp2;go_ret;exact ⟨zz7,zz1⟩
          ·replace c25 := Bool.eq_false_iff.mpr c25
           subst c25;rw [if_neg (show¬(false=true) by decide)] at H;obtain ⟨ji26,hji26⟩: ∃j_:Int,(wrap64 (a2+1))=j_:=⟨_,rfl⟩;replace H:(if 0≤(ji26) then (if (ji26)<(l1.length:Int) then (if (wrap64 (a2+(wrap64 (2+(rd l1 (ji26))))))>a3 then (some 0) else (some (wrap64 (2+(rd l1 (ji26)))))) else (none)) else (none))=some r:=by first|(rw [hji26] at H;exact H)|(simp only [hji26] at H ⊢;exact H)
           have hji26w:(IntKind.i64.wrap (a2+1))=ji26:=(i64_w _).trans hji26
           by_cases c27:0≤(ji26)
           ·rw [if_pos c27] at H
            have c27b0:decide (0≤(ji26))=true:=decide_eq_true c27
            clear c27;by_cases c28:(ji26)<(l1.length:Int)
            ·rw [if_pos c28] at H
             have c28b0:decide ((ji26)<(l1.length:Int))=true:=decide_eq_true c28
             clear c28;by_cases c29:(wrap64 (a2+(wrap64 (2+(rd l1 (ji26))))))>a3
             ·rw [if_pos c29] at H
              have c29b0:decide (a3<(wrap64 (a2+(wrap64 (2+(rd l1 (ji26)))))))=true:=decide_eq_true c29
              clear c29;obtain rfl:=Option.some.inj H;have p187:0≤((ji26):Int):=of_decide_eq_true zz3
              have q187:(ji26)<(l1.length:Int):=of_decide_eq_true zz3
              obtain ⟨ad187,e187,hx187_0⟩:=Kd.at_int HR1.out (ji26) p187 q187;obtain rfl:ad177=ad187:=(by injection e187);replace hx187_0:=(HB.out.cell (World.block_lt_of_cell? w _ hx187_0)).trans hx187_0;replace p187:=eq_true p187;replace q187:=eq_true q187;go_wp2;go_ret;exact ⟨(by first|rfl|(simp [errW_none,errW_some]<;>rfl)|(simp only [←hji26];first|rfl|(simp [errW_none,errW_some]<;>rfl))|(simp [*,errW_none,errW_some]<;>rfl)),zz1⟩
             ·rw [if_neg c29] at H
              have c29b0:decide (a3<(wrap64 (a2+(wrap64 (2+(rd l1 (ji26)))))))=false:=decide_eq_false c29
              clear c29;obtain rfl:=Option.some.inj H;have p187:0≤((ji26):Int):=of_decide_eq_true zz3
              have q187:(ji26)<(l1.length:Int):=of_decide_eq_true zz3
              obtain ⟨ad187,e187,hx187_0⟩:=Kd.at_int HR1.out (ji26) p187 q187;obtain rfl:ad177=ad187:=(by injection e187);replace hx187_0:=(HB.out.cell (World.block_lt_of_cell? w _ hx187_0)).trans hx187_0;replace p187:=eq_true p187;replace q187:=eq_true q187;go_wp2;go_ret;exact ⟨(by first|rfl|(simp [errW_none,errW_some]<;>rfl)|(simp only [←hji26];first|rfl|(simp [errW_none,errW_some]<;>rfl))|(simp [*,errW_none,errW_some]<;>rfl)),zz1⟩
            ·rw [if_neg c28] at H
             exact absurd H (by simp)
           ·rw [if_neg c27] at H
            exact absurd H (by simp)
       ·replace c18 := Bool.eq_false_iff.mpr c18
        subst c18;rw [if_neg (show¬(false=true) by decide)] at H;by_cases c30:(wrap64 (a2+0))>a3
        ·rw [if_pos c30] at H
         have c30b0:decide (a3<(wrap64 (a2+0)))=true:=decide_eq_true c30
         simp only [Int.add_zero] at c30b0;clear c30;obtain rfl:=Option.some.inj H;go_wp2;go_ret;exact ⟨zz7,zz1⟩
        ·rw [if_neg c30] at H
         have c30b0:decide (a3<(wrap64 (a2+0)))=false:=decide_eq_false c30
         simp only [Int.add_zero] at c30b0;clear c30;obtain rfl:=Option.some.inj H;go_wp2;go_ret;exact ⟨zz7,zz1⟩
   ·rw [if_neg c7] at H
    exact absurd H (by simp)
  ·rw [if_neg c6] at H
   exact absurd H (by simp)
end Go.Proofs.Ytnlieahdakafbaa.K
namespace Go.Proofs.Ytnlieahdakafbaa.K
open Go.RowKit Go.Proofs.YtnlieahdakafbaaW.PrintWords Go.Proofs.YtnlieahdakafbaaW.PrintLast Go.Proofs.YtnlieahdakafbaaW.PrintMore
attribute [local go_sem] max2_int min2_int max_two min_two max_three min_three max_four min_four
set_option linter.unusedVariables false
set_option linter.unusedSimpArgs false
def spec_l21Part.l0:Nat→List (S112)→List Int→Int→Int→List Int→Option (List Int×Bool)
  |0,_,_,_,_,_=>none
  |k+1,x0,x1,x2,x3,x10=>if x2<x3 then ((spec_l21Size.f k x0 x1 x2 x3).bind fun t234=>(if t234=0 then (some (x10,false)) else (if x10.length<17592186044416 then (spec_l21Part.l0 k x0 x1 (wrap64 (x2+t234)) x3 (x10++[x2])) else (none)))) else (some (x10,true))
def spec_l21Part.f (k:Nat) (l0:List (S112)) (l1:List Int) (a2:Int) (a3:Int):Option (List Int×Bool):=spec_l21Part.l0 k l0 l1 a2 a3 (([]:List Int))
set_option maxHeartbeats 8000000 in
set_option maxRecDepth 100000 in
theorem spec_l21Part.calls (k:Nat) (A0:Option Addr) (c0:Nat) (l0:List (S112)) (A1:Option Addr) (c1:Nat) (l1:List Int) (a2:Int) (a3:Int) (r1:List Int) (r2:Bool) (w:World) (hr0:Kd.C k112 w A0 l0.length l0) (hc0:l0.length≤c0) (hr1:Kd.C (Kd.int .i64) w A1 l1.length l1) (hc1:l1.length≤c1) (h:spec_l21Part.f k l0 l1 a2 a3=some (r1,r2)):
  Calls Try.prog 82 #[.slice A0 l0.length c0,.slice A1 l1.length c1,.int .i64 a2,.int .i64 a3] w fun e w'=> ∃v0_:Value,e= .returned (.tuple #[v0_,.bool r2])∧Kd.R (Kd.int .i64) 3 w' w.heap.size (fun _=>True) v0_ r1∧Below w.heap.size w w':=by
 have HR0:=aK hr0;have HC0:=aK hc0;clear hr0 hc0;have HR1:=aK hr1;have HC1:=aK hc1;clear hr1 hc1;have HB:=aK (Below.refl w.heap.size w);have H:(spec_l21Part.l0 k l0 l1 a2 a3 (([]:List Int)))=some (r1,r2):=h
 clear h;obtain ⟨y231,hy231⟩: ∃y_:List Int,y_=(([]:List Int)):=⟨_,rfl⟩;replace H:(spec_l21Part.l0 k l0 l1 a2 a3 y231)=some (r1,r2):=by first|(rw [hy231];with_reducible exact H)|(have H2_:=(Option.bind_some _ _).symm.trans H;rw [hy231];with_reducible exact H2_)|(have H2_:=(Option.bind_some _ _).symm.trans H;with_reducible exact H2_)|with_reducible exact H|(rw [hy231];exact H)|exact H
 have Ny231:=aK hy231;clear hy231;have H':=aK H;clear H;go_enter Try.func82,Try.ntmps82
 go_wp2_with (first|((with_reducible refine gate_dst (N:=12) rfl ?_);refine Kd.R_lit (Kd.int .i64) _ 3 ?hg (N:=12) ?hd (xs:=([]:List Int)) (inner:=[]) (ok:=fun _=>True) (okp:=fun _=>True) ?hr ?hp (fun _ hk=>hk) trivial (Below.refl _ _) (Nat.le_refl _) (by simp) ?_;(case hd=>rfl);(case hg=>rfl);(case hr=>first|(go_simp;done)|(go_simp;rfl));(case hp=>exact (Reps.none _ _));intro v232 w5 ho6 hb hg_ hnew_;clear hg_ hnew_;(first|rw [←Ny231.out] at ho6|(simp only [Int.reduceToNat] at ho6;rw [←Ny231.out] at ho6));have HO233:=aK (Kd.R_lower ho6 (below_size zz1));replace HB:=aK (below_step zz1 hb);clear hb ho6))
 go_loopg [2,10] k (fun kq v2 v10 w'=> ∃(x2_1:Int) (x10_1:List Int),v2= .int .i64 x2_1∧Aside0 (spec_l21Part.l0 kq l0 l1 x2_1 a3 x10_1=some (r1,r2))∧Aside0 (kq≤k)∧Aside0 (Kd.R (Kd.int .i64) 3 w' w.heap.size (fun _=>True) v10 x10_1)∧Aside0 (Below w.heap.size w w'))
 case atStart=>exact ⟨(a2),(y231),zz6,H',⟨Nat.le_refl _⟩,⟨by (with_reducible repeat (first|apply Kd.R_alloc|apply Kd.R_drewN|apply Kd.R_drew));exact HO233.out⟩,⟨by repeat (first|(with_reducible first|exact HB.out|apply below_alloc|apply pw_below_drewN|apply below_drew1)|exact HB.out)⟩⟩
 case round =>
  clear H';(try clear c1);(try clear p2);obtain ⟨x2_1,x10_1,rfl,HA,HK1,HO_10,HB⟩:=hrel
  cases gk with
  |zero=>exact absurd HA.out (by simp [spec_l21Part.l0])
  | succ k1 =>
   have H:=HA.out;clear HA;simp only [spec_l21Part.l0] at H;by_cases c7:x2_1<a3
   ·rw [if_pos c7] at H
    have c7b0:decide (x2_1<a3)=true:=decide_eq_true c7
    clear c7;replace H:=Option.bind_eq_some_iff.mp H;obtain ⟨t234,A80,H⟩:=H;(try dsimp only at H);have A8:=aK A80;clear A80;by_cases c9:t234=0
    ·rw [if_pos c9] at H
     have c9b0:(t234==0)=true:=beq_iff_eq.mpr c9
     have c9b1:(t234 !=0)=false:=bne_eq_false_iff_eq.mpr c9
     clear c9;simp only [Option.some.injEq,Prod.mk.injEq] at H;obtain ⟨rfl,rfl⟩:=H
     go_wp2_with (first|((with_reducible refine gate_callee (f:=80) rfl ?_);refine goesL_ (some 20) rfl rfl Try.func80 (by kernel_rfl) rfl #[.slice A0 l0.length c0,.slice A1 l1.length c1,.int .i64 x2_1,.int .i64 a3] rfl zz2 ?_;(with_reducible refine (spec_l21Size.calls k1 _ _ l0 _ _ l1 x2_1 a3 t234 _ ?side1 ?side2 ?side3 ?side4 A8.out).mono ?_);(case side1=>exact zz5);(case side2=>exact HC0.out);(case side3=>exact (by repeat (first|exact (Kd.C_below HR1.out HB.out)|(with_reducible refine Kd.C_alloc ?_ _)|(with_reducible refine Kd.C_drewN ?_ _)|(with_reducible refine Kd.C_drew ?_))));(case side4=>exact HC1.out);rintro e w10 ⟨rfl,hb⟩;refine ⟨_,rfl,?_⟩;replace HO_10:=aK (Kd.R_below (by (with_reducible repeat (first|apply Kd.R_alloc|apply Kd.R_drewN|apply Kd.R_drew));exact HO_10.out) hb);replace HB:=aK (below_step zz1 hb);(try clear hb);(try clear hb2);(try clear hk);(try clear hi)))
     go_ret2
     exact ⟨_,by first|rfl|(simp [errW_none,errW_some]<;>rfl)|(simp [*,errW_none,errW_some]<;>rfl),by (with_reducible repeat (first|apply Kd.R_alloc|apply Kd.R_drewN|apply Kd.R_drew));exact HO_10.out,by repeat (first|(with_reducible first|exact HB.out|apply below_alloc|apply pw_below_drewN|apply below_drew1)|exact HB.out)⟩
    ·rw [if_neg c9] at H
     have c9b0:(t234==0)=false:=beq_eq_false_iff_ne.mpr c9
     have c9b1:(t234 !=0)=true:=bne_iff_ne.mpr c9
     by_cases c11:x10_1.length<17592186044416
     ·rw [if_pos c11] at H
      have LMc11:=aK c11;clear c11;obtain ⟨y235,hy235⟩: ∃y_:List Int,y_=(x10_1++[x2_1]):=⟨_,rfl⟩;replace H:(spec_l21Part.l0 k1 l0 l1 (wrap64 (x2_1+t234)) a3 y235)=some (r1,r2):=by first|(rw [hy235];with_reducible exact H)|(have H2_:=(Option.bind_some _ _).symm.trans H;rw [hy235];with_reducible exact H2_)|(have H2_:=(Option.bind_some _ _).symm.trans H;with_reducible exact H2_)|with_reducible exact H|(rw [hy235];exact H)|exact H
      have Ny235:=aK hy235;clear hy235;have H':=aK H;clear H
      go_wp2_with (first|((with_reducible refine gate_callee (f:=80) rfl ?_);refine goesL_ (some 20) rfl rfl Try.func80 (by kernel_rfl) rfl #[.slice A0 l0.length c0,.slice A1 l1.length c1,.int .i64 x2_1,.int .i64 a3] rfl zz2 ?_;(with_reducible refine (spec_l21Size.calls k1 _ _ l0 _ _ l1 x2_1 a3 t234 _ ?side1 ?side2 ?side3 ?side4 A8.out).mono ?_);(case side1=>exact zz5);(case side2=>exact HC0.out);(case side3=>exact (by repeat (first|exact (Kd.C_below HR1.out HB.out)|(with_reducible refine Kd.C_alloc ?_ _)|(with_reducible refine Kd.C_drewN ?_ _)|(with_reducible refine Kd.C_drew ?_))));(case side4=>exact HC1.out);rintro e w12 ⟨rfl,hb⟩;refine ⟨_,rfl,?_⟩;replace HO_10:=aK (Kd.R_below (by (with_reducible repeat (first|apply Kd.R_alloc|apply Kd.R_drewN|apply Kd.R_drew));exact HO_10.out) hb);replace HB:=aK (below_step zz1 hb);(try clear hb);(try clear hb2);(try clear hk);(try clear hi))|((with_reducible refine gate_builtin (b:= .append) (xs:= #[.tmp 24,.tmp 26]) rfl ?_);at_builtin;refine Kd.R_append (Kd.int .i64) (w0:=w) w.heap.size rfl (.tmp 24) (.tmp 26) 24 3 (.int .i64 0) 8 rfl Try.underlying24 info3 rfl (by decide) (by omega) u10 x10_1 x2_1 [.int .i64 x2_1] (fun _=>True) (fun _=>False) rfl rfl ?aP (fun _ hk=>hk.elim) ?aF ?aO ?aB ?aS ?aL ?_;(case aP=>exact rfl);(case aB=>exact zz1);(case aF=>exact (fun _ _=>trivial));(case aO=>exact (by (with_reducible repeat (first|apply Kd.R_alloc|apply Kd.R_drewN|apply Kd.R_drew));exact HO_10.out));(case aS=>exact (below_size zz1));(case aL=>have:=LMc11.out;omega);intro v236 w13 ho hb hg hat;rw [←Ny235.out] at ho;have n0_:=aK (hb);have n1_:=aK (ho);clear HB;clear HO_10;have HB:=n0_;have HO237:=n1_;clear n0_ n1_;clear ho hb hg hat))
      go_roundg k1
      case measure=>have:=HK1.out;omega
      case rel=>exact ⟨(wrap64 (x2_1+t234)),(y235),zz6,H',⟨by have:=HK1.out;omega⟩,⟨by (with_reducible repeat (first|apply Kd.R_alloc|apply Kd.R_drewN|apply Kd.R_drew));exact HO237.out⟩,⟨by repeat (first|(with_reducible first|exact HB.out|apply below_alloc|apply pw_below_drewN|apply below_drew1)|exact HB.out)⟩⟩
     ·rw [if_neg c11] at H
      exact absurd H (by simp)
   ·rw [if_neg c7] at H
    have c7b0:decide (x2_1<a3)=false:=decide_eq_false c7
    clear c7;simp only [Option.some.injEq,Prod.mk.injEq] at H;obtain ⟨rfl,rfl⟩:=H;go_wp2
    go_ret2
    exact ⟨_,by first|rfl|(simp [errW_none,errW_some]<;>rfl)|(simp [*,errW_none,errW_some]<;>rfl),by (with_reducible repeat (first|apply Kd.R_alloc|apply Kd.R_drewN|apply Kd.R_drew));exact HO_10.out,by repeat (first|(with_reducible first|exact HB.out|apply below_alloc|apply pw_below_drewN|apply below_drew1)|exact HB.out)⟩
end Go.Proofs.Ytnlieahdakafbaa.K
namespace Go.Proofs.Ytnlieahdakafbaa.K
open Go.RowKit Go.Proofs.YtnlieahdakafbaaW.PrintWords Go.Proofs.YtnlieahdakafbaaW.PrintLast Go.Proofs.YtnlieahdakafbaaW.PrintMore
attribute [local go_sem] max2_int min2_int max_two min_two max_three min_three max_four min_four
set_option linter.unusedVariables false
set_option linter.unusedSimpArgs false
def spec_l21Walk.f (k:Nat) (l0:List (S112)) (l1_0:List Int) (a1_1:Int) (a1_2:Int) (a1_3:Int) (l1_4:List Bool):Option (List Int×Bool):=(spec_l21Part.f k l0 l1_0 0 a1_2).bind fun bt239=>((spec_l21Part.f k l0 l1_0 a1_1 a1_3).bind fun bt243=>(if bt239.1.length+bt243.1.length<17592186044416 then ((some (bt239.1++bt243.1:List Int)).bind fun y247=>(if bt239.2=true then (some (y247,bt243.2)) else (some (y247,false)))) else (none)))
set_option maxHeartbeats 8000000 in
set_option maxRecDepth 100000 in
theorem spec_l21Walk.calls (k:Nat) (A0:Option Addr) (c0:Nat) (l0:List (S112)) (A1_0:Option Addr) (c1_0:Nat) (l1_0:List Int) (a1_1:Int) (a1_2:Int) (a1_3:Int) (A1_4:Option Addr) (c1_4:Nat) (l1_4:List Bool) (r1:List Int) (r2:Bool) (w:World) (hr0:Kd.C k112 w A0 l0.length l0) (hc0:l0.length≤c0) (hr1_0:Kd.C (Kd.int .i64) w A1_0 l1_0.length l1_0) (hc1_0:l1_0.length≤c1_0) (hr1_4:Kd.C Kd.bool w A1_4 l1_4.length l1_4) (hc1_4:l1_4.length≤c1_4) (h:spec_l21Walk.f k l0 l1_0 a1_1 a1_2 a1_3 l1_4=some (r1,r2)):
  Calls Try.prog 40 #[.slice A0 l0.length c0,.agg #[.slice A1_0 l1_0.length c1_0,.int .i64 a1_1,.int .i64 a1_2,.int .i64 a1_3,.slice A1_4 l1_4.length c1_4]] w fun e w'=> ∃v0_:Value,e= .returned (.tuple #[v0_,.bool r2])∧Kd.R (Kd.int .i64) 3 w' w.heap.size (fun _=>True) v0_ r1∧Below w.heap.size w w':=by
 have hu27:=Try.underlying27;have HR0:=aK hr0;have HC0:=aK hc0;clear hr0 hc0;have HR1_0:=aK hr1_0;have HC1_0:=aK hc1_0;clear hr1_0 hc1_0;have HR1_4:=aK hr1_4;have HC1_4:=aK hc1_4;clear hr1_4 hc1_4;have HB:=aK (Below.refl w.heap.size w);have H:((spec_l21Part.f k l0 l1_0 0 a1_2).bind fun bt239=>((spec_l21Part.f k l0 l1_0 a1_1 a1_3).bind fun bt243=>(if bt239.1.length+bt243.1.length<17592186044416 then ((some (bt239.1++bt243.1:List Int)).bind fun y247=>(if bt239.2=true then (some (y247,bt243.2)) else (some (y247,false)))) else (none))))=some (r1,r2):=h
 clear h;replace H:=Option.bind_eq_some_iff.mp H;obtain ⟨⟨t239,t240⟩,A30,H⟩:=H;(try dsimp only at H);have A3:=aK A30;clear A30;replace H:=Option.bind_eq_some_iff.mp H;obtain ⟨⟨t243,t244⟩,A40,H⟩:=H;(try dsimp only at H);have A4:=aK A40;clear A40;by_cases c5:t239.length+t243.length<17592186044416
 ·rw [if_pos c5] at H
  have LMc5:=aK c5;clear c5;obtain ⟨y247,hy247⟩: ∃y_:List Int,y_=(t239++t243):=⟨_,rfl⟩;replace H:(if t240=true then (some (y247,t244)) else (some (y247,false)))=some (r1,r2):=by first|(rw [hy247];with_reducible exact H)|(have H2_:=(Option.bind_some _ _).symm.trans H;rw [hy247];with_reducible exact H2_)|(have H2_:=(Option.bind_some _ _).symm.trans H;with_reducible exact H2_)|with_reducible exact H|(rw [hy247];exact H)|exact H
  have Ny247:=aK hy247;clear hy247;by_cases c6:t240=true
  ·subst c6
   rw [if_pos rfl] at H;simp only [Option.some.injEq,Prod.mk.injEq] at H;obtain ⟨rfl,rfl⟩:=H;go_enter Try.func40,Try.ntmps40
   go_wp2_with (first|((with_reducible refine gate_dst (N:=3) rfl ?_);refine box_event ?hg (N:=3) ?hd (cs:= #[.slice A1_0 l1_0.length c1_0,.int .i64 a1_1,.int .i64 a1_2,.int .i64 a1_3,.slice A1_4 l1_4.length c1_4]) (t:=27) ?hr ?_;(case hd=>rfl);(case hg=>rfl);(case hr=>first|(go_simp;done)|(go_simp;rfl));intro gb238 hg w7 hbox hb;have BK238:=aK (hbox);have GW238:=aK ((by rw [hg];exact (below_size zz1):w.heap.size≤gb238));have GE238:=aK ((by rw [hg];exact (below_size zz1):w.heap.size≤gb238));replace HB:=aK (below_step zz1 hb);clear hb hbox hg;obtain ⟨hcz8_0,hcz8_1,hcz8_2,hcz8_3,hcz8_4,hfz8_0,hfz8_1,hfz8_2,hfz8_3,hfz8_4⟩:=cbf5 BK238)|((with_reducible refine gate_callee (f:=82) rfl ?_);refine goesL_ (some 16) rfl rfl Try.func82 (by kernel_rfl) rfl #[.slice A0 l0.length c0,.slice A1_0 l1_0.length c1_0,.int .i64 0,.int .i64 a1_2] rfl zz2 ?_;(with_reducible refine (spec_l21Part.calls k _ _ l0 _ _ l1_0 0 a1_2 t239 true _ ?side1 ?side2 ?side3 ?side4 A3.out).mono ?_);(case side1=>exact zz5);(case side2=>exact HC0.out);(case side3=>exact zz10);(case side4=>exact HC1_0.out);rintro e w9 ⟨v241,rfl,ho0,hb⟩;refine ⟨_,rfl,?_⟩;have HO242:=aK (Kd.R_lower ho0 (below_size zz17));replace BK238:=aK (blk_below (g:=gb238) (o:= .cells #[.slice A1_0 l1_0.length c1_0,.int .i64 a1_1,.int .i64 a1_2,.int .i64 a1_3,.slice A1_4 l1_4.length c1_4] 27 (0,0)) zz43 hb);replace HB:=aK (below_step zz17 hb);(try clear hb);(try clear hb2);(try clear hk);(try clear hi);(try clear ho0);obtain ⟨hcz10_0,hcz10_1,hcz10_2,hcz10_3,hcz10_4,hfz10_0,hfz10_1,hfz10_2,hfz10_3,hfz10_4⟩:=cbf5 BK238)|((with_reducible refine gate_callee (f:=82) rfl ?_);refine goesL_ (some 27) rfl rfl Try.func82 (by kernel_rfl) rfl #[.slice A0 l0.length c0,.slice A1_0 l1_0.length c1_0,.int .i64 a1_1,.int .i64 a1_3] rfl zz2 ?_;(with_reducible refine (spec_l21Part.calls k _ _ l0 _ _ l1_0 a1_1 a1_3 t243 t244 _ ?side1 ?side2 ?side3 ?side4 A4.out).mono ?_);(case side1=>exact zz5);(case side2=>exact HC0.out);(case side3=>exact zz10);(case side4=>exact HC1_0.out);rintro e w11 ⟨v245,rfl,ho0,hb⟩;refine ⟨_,rfl,?_⟩;have HO246:=aK (Kd.R_lower (Kd.R_new' ho0 (Kd.R_lt (by (with_reducible repeat (first|apply Kd.R_alloc|apply Kd.R_drewN|apply Kd.R_drew));exact HO242.out))) (below_size zz17));replace HO242:=aK (Kd.R_elder' (by (with_reducible repeat (first|apply Kd.R_alloc|apply Kd.R_drewN|apply Kd.R_drew));exact HO242.out) (Kd.R_base ho0) hb);replace BK238:=aK (blk_below (g:=gb238) (o:= .cells #[.slice A1_0 l1_0.length c1_0,.int .i64 a1_1,.int .i64 a1_2,.int .i64 a1_3,.slice A1_4 l1_4.length c1_4] 27 (0,0)) zz43 hb);replace HB:=aK (below_step zz17 hb);(try clear hb);(try clear hb2);(try clear hk);(try clear hi);(try clear ho0);obtain ⟨Ao13,co13,eo13⟩:=Kd.R_slice HO246.out;subst eo13)|((with_reducible refine gate_builtin (b:= .append) (xs:= #[.tmp 30,.tmp 31]) rfl ?_);at_builtin;refine Kd.R_append_rows (Kd.int .i64) (w0:=w) w.heap.size rfl (.tmp 30) (.tmp 31) 24 3 (.int .i64 0) 8 rfl Try.underlying24 info3 rfl (by decide) (by omega) v241 t239 t243 _ _ _ (fun k_=>some k_≠(.slice Ao13 t243.length co13:Value).ownBlock) (fun _=>False) rfl rfl ?aO ?aR (fun _ _ h=>h) (fun _ h=>h.elim) ?aF ?aB ?aS ?aL ?_;(case aR=>repeat (first|exact (Kd.R_reads' HO246.out).2.2|(with_reducible refine Kd.C_alloc ?_ _)|(with_reducible refine Kd.C_drewN ?_ _)|(with_reducible refine Kd.C_drew ?_)));(case aB=>exact zz17);(case aF=>exact (fun k_ hk=>Kd.fresh' (Kd.R_lt (by (with_reducible repeat (first|apply Kd.R_alloc|apply Kd.R_drewN|apply Kd.R_drew));exact HO246.out)) k_ hk));(case aO=>exact (by (with_reducible repeat (first|apply Kd.R_alloc|apply Kd.R_drewN|apply Kd.R_drew));exact Kd.R_mono HO242.out (fun _ hk=>hk.2)));(case aS=>exact (below_size zz17));(case aL=>have:=LMc5.out;omega);intro v248 w12 ho hb hg hat;rw [←Ny247.out] at ho;have n0_:=aK (blk_grown (g:=gb238) (o:= .cells #[.slice A1_0 l1_0.length c1_0,.int .i64 a1_1,.int .i64 a1_2,.int .i64 a1_3,.slice A1_4 l1_4.length c1_4] 27 (0,0)) zz43 hg (Kd.R_ne HO242.out BK238.out (by decide)));have n1_:=aK (Kd.R_after (ok:=(fun _=>True)) (by (with_reducible repeat (first|apply Kd.R_alloc|apply Kd.R_drewN|apply Kd.R_drew));exact HO246.out) hg hat);have n2_:=aK (hb);have n3_:=aK (ho);clear BK238;clear HO246;clear HB;clear HO242;have BK238:=n0_;have HO246:=n1_;have HB:=n2_;have HO249:=n3_;clear n0_ n1_ n2_ n3_;clear ho hb hg hat))
   go_ret2
   exact ⟨_,by first|rfl|(simp [errW_none,errW_some]<;>rfl)|(simp [*,errW_none,errW_some]<;>rfl),by (with_reducible repeat (first|apply Kd.R_alloc|apply Kd.R_drewN|apply Kd.R_drew));exact Kd.R_mono HO249.out (fun _ hk=>trivial),by repeat (first|(with_reducible first|exact HB.out|apply below_alloc|apply pw_below_drewN|apply below_drew1|refine below_set ?_ GE238.out)|exact HB.out)⟩
  ·replace c6 := Bool.eq_false_iff.mpr c6
   subst c6;rw [if_neg (show¬(false=true) by decide)] at H;simp only [Option.some.injEq,Prod.mk.injEq] at H;obtain ⟨rfl,rfl⟩:=H;go_enter Try.func40,Try.ntmps40
   go_wp2_with (first|((with_reducible refine gate_dst (N:=3) rfl ?_);refine box_event ?hg (N:=3) ?hd (cs:= #[.slice A1_0 l1_0.length c1_0,.int .i64 a1_1,.int .i64 a1_2,.int .i64 a1_3,.slice A1_4 l1_4.length c1_4]) (t:=27) ?hr ?_;(case hd=>rfl);(case hg=>rfl);(case hr=>first|(go_simp;done)|(go_simp;rfl));intro gb238 hg w14 hbox hb;have BK238:=aK (hbox);have GW238:=aK ((by rw [hg];exact (below_size zz1):w.heap.size≤gb238));have GE238:=aK ((by rw [hg];exact (below_size zz1):w.heap.size≤gb238));replace HB:=aK (below_step zz1 hb);clear hb hbox hg;obtain ⟨hcz15_0,hcz15_1,hcz15_2,hcz15_3,hcz15_4,hfz15_0,hfz15_1,hfz15_2,hfz15_3,hfz15_4⟩:=cbf5 BK238)|((with_reducible refine gate_callee (f:=82) rfl ?_);refine goesL_ (some 16) rfl rfl Try.func82 (by kernel_rfl) rfl #[.slice A0 l0.length c0,.slice A1_0 l1_0.length c1_0,.int .i64 0,.int .i64 a1_2] rfl zz2 ?_;(with_reducible refine (spec_l21Part.calls k _ _ l0 _ _ l1_0 0 a1_2 t239 false _ ?side1 ?side2 ?side3 ?side4 A3.out).mono ?_);(case side1=>exact zz5);(case side2=>exact HC0.out);(case side3=>exact zz10);(case side4=>exact HC1_0.out);rintro e w16 ⟨v241,rfl,ho0,hb⟩;refine ⟨_,rfl,?_⟩;have HO242:=aK (Kd.R_lower ho0 (below_size zz17));replace BK238:=aK (blk_below (g:=gb238) (o:= .cells #[.slice A1_0 l1_0.length c1_0,.int .i64 a1_1,.int .i64 a1_2,.int .i64 a1_3,.slice A1_4 l1_4.length c1_4] 27 (0,0)) zz43 hb);replace HB:=aK (below_step zz17 hb);(try clear hb);(try clear hb2);(try clear hk);(try clear hi);(try clear ho0);obtain ⟨hcz17_0,hcz17_1,hcz17_2,hcz17_3,hcz17_4,hfz17_0,hfz17_1,hfz17_2,hfz17_3,hfz17_4⟩:=cbf5 BK238)|((with_reducible refine gate_callee (f:=82) rfl ?_);refine goesL_ (some 27) rfl rfl Try.func82 (by kernel_rfl) rfl #[.slice A0 l0.length c0,.slice A1_0 l1_0.length c1_0,.int .i64 a1_1,.int .i64 a1_3] rfl zz2 ?_;(with_reducible refine (spec_l21Part.calls k _ _ l0 _ _ l1_0 a1_1 a1_3 t243 t244 _ ?side1 ?side2 ?side3 ?side4 A4.out).mono ?_);(case side1=>exact zz5);(case side2=>exact HC0.out);(case side3=>exact zz10);(case side4=>exact HC1_0.out);rintro e w18 ⟨v245,rfl,ho0,hb⟩;refine ⟨_,rfl,?_⟩;have HO246:=aK (Kd.R_lower (Kd.R_new' ho0 (Kd.R_lt (by (with_reducible repeat (first|apply Kd.R_alloc|apply Kd.R_drewN|apply Kd.R_drew));exact HO242.out))) (below_size zz17));replace HO242:=aK (Kd.R_elder' (by (with_reducible repeat (first|apply Kd.R_alloc|apply Kd.R_drewN|apply Kd.R_drew));exact HO242.out) (Kd.R_base ho0) hb);replace BK238:=aK (blk_below (g:=gb238) (o:= .cells #[.slice A1_0 l1_0.length c1_0,.int .i64 a1_1,.int .i64 a1_2,.int .i64 a1_3,.slice A1_4 l1_4.length c1_4] 27 (0,0)) zz43 hb);replace HB:=aK (below_step zz17 hb);(try clear hb);(try clear hb2);(try clear hk);(try clear hi);(try clear ho0);obtain ⟨Ao20,co20,eo20⟩:=Kd.R_slice HO246.out;subst eo20)|((with_reducible refine gate_builtin (b:= .append) (xs:= #[.tmp 30,.tmp 31]) rfl ?_);at_builtin;refine Kd.R_append_rows (Kd.int .i64) (w0:=w) w.heap.size rfl (.tmp 30) (.tmp 31) 24 3 (.int .i64 0) 8 rfl Try.underlying24 info3 rfl (by decide) (by omega) v241 t239 t243 _ _ _ (fun k_=>some k_≠(.slice Ao20 t243.length co20:Value).ownBlock) (fun _=>False) rfl rfl ?aO ?aR (fun _ _ h=>h) (fun _ h=>h.elim) ?aF ?aB ?aS ?aL ?_;(case aR=>repeat (first|exact (Kd.R_reads' HO246.out).2.2|(with_reducible refine Kd.C_alloc ?_ _)|(with_reducible refine Kd.C_drewN ?_ _)|(with_reducible refine Kd.C_drew ?_)));(case aB=>exact zz17);(case aF=>exact (fun k_ hk=>Kd.fresh' (Kd.R_lt (by (with_reducible repeat (first|apply Kd.R_alloc|apply Kd.R_drewN|apply Kd.R_drew));exact HO246.out)) k_ hk));(case aO=>exact (by (with_reducible repeat (first|apply Kd.R_alloc|apply Kd.R_drewN|apply Kd.R_drew));exact Kd.R_mono HO242.out (fun _ hk=>hk.2)));(case aS=>exact (below_size zz17));(case aL=>have:=LMc5.out;omega);intro v248 w19 ho hb hg hat;rw [←Ny247.out] at ho;have n0_:=aK (blk_grown (g:=gb238) (o:= .cells #[.slice A1_0 l1_0.length c1_0,.int .i64 a1_1,.int .i64 a1_2,.int .i64 a1_3,.slice A1_4 l1_4.length c1_4] 27 (0,0)) zz43 hg (Kd.R_ne HO242.out BK238.out (by decide)));have n1_:=aK (Kd.R_after (ok:=(fun _=>True)) (by (with_reducible repeat (first|apply Kd.R_alloc|apply Kd.R_drewN|apply Kd.R_drew));exact HO246.out) hg hat);have n2_:=aK (hb);have n3_:=aK (ho);clear BK238;clear HO246;clear HB;clear HO242;have BK238:=n0_;have HO246:=n1_;have HB:=n2_;have HO249:=n3_;clear n0_ n1_ n2_ n3_;clear ho hb hg hat))
   go_ret2
   exact ⟨_,by first|rfl|(simp [errW_none,errW_some]<;>rfl)|(simp [*,errW_none,errW_some]<;>rfl),by (with_reducible repeat (first|apply Kd.R_alloc|apply Kd.R_drewN|apply Kd.R_drew));exact Kd.R_mono HO249.out (fun _ hk=>trivial),by repeat (first|(with_reducible first|exact HB.out|apply below_alloc|apply pw_below_drewN|apply below_drew1|refine below_set ?_ GE238.out)|exact HB.out)⟩
 ·rw [if_neg c5] at H
  exact absurd H (by simp)
end Go.Proofs.Ytnlieahdakafbaa.K
namespace Go.Proofs.Ytnlieahdakafbaa.K
open Go.RowKit Go.Proofs.YtnlieahdakafbaaW.PrintWords Go.Proofs.YtnlieahdakafbaaW.PrintLast Go.Proofs.YtnlieahdakafbaaW.PrintMore
attribute [local go_sem] max2_int min2_int max_two min_two max_three min_three max_four min_four
set_option linter.unusedVariables false
set_option linter.unusedSimpArgs false
def spec_l21Starts.l0:Nat→List Int→List Bool→Int→Option (List Bool)
  |0,_,_,_=>none
  |k+1,x1,x5,x6=>if x6<(x1.length:Int) then (if 0≤x6 then (if 0≤(rd x1 x6) then (if (rd x1 x6)<(x5.length:Int) then (spec_l21Starts.l0 k x1 (x5.set ((rd x1 x6):Int).toNat true) (wrap64 (x6+1))) else (none)) else (none)) else (none)) else (some x5)
def spec_l21Starts.f (k:Nat) (a0:Int) (l1:List Int):Option (List Bool):=if 0≤a0 then (if (a0:Int).toNat≤281474976710656 then (spec_l21Starts.l0 k l1 (List.replicate (a0:Int).toNat false) 0) else (none)) else (none)
set_option maxHeartbeats 8000000 in
set_option maxRecDepth 100000 in
theorem spec_l21Starts.calls (k : Nat) (a0 : Int) (A1 : Option Addr) (c1 : Nat) (l1 : List Int) (r : List Bool) (w : World) (hr1 : Kd.C (Kd.int .i64) w A1 l1.length l1) (hc1 : l1.length ≤ c1) (h : spec_l21Starts.f k a0 l1 = some r) :
  Calls Try.prog 42 #[.int .i64 a0,.slice A1 l1.length c1] w fun e w'=> ∃v0_:Value,e= .returned (v0_)∧Kd.R Kd.bool 4 w' w.heap.size (fun _=>True) v0_ r∧Below w.heap.size w w':=by
 have HR1:=aK hr1;have HC1:=aK hc1;clear hr1 hc1;have HB:=aK (Below.refl w.heap.size w);have H:(if 0≤a0 then (if (a0:Int).toNat≤281474976710656 then (spec_l21Starts.l0 k l1 (List.replicate (a0:Int).toNat false) 0) else (none)) else (none))=some r:=h
 clear h;by_cases c3:0≤a0
 ·rw [if_pos c3] at H
  have c3b0:=eq_true c3;have c3b1:decide (0≤a0)=true:=decide_eq_true c3
  clear c3;by_cases c4:(a0:Int).toNat≤281474976710656
  ·rw [if_pos c4] at H
   have c4b0:=eq_true c4;have c4b1:decide ((a0:Int).toNat≤281474976710656)=true:=decide_eq_true c4
   clear c4;obtain ⟨y250,hy250⟩: ∃y_:List Bool,y_=(List.replicate (a0:Int).toNat false):=⟨_,rfl⟩;replace H:(spec_l21Starts.l0 k l1 y250 0)=some r:=by first|(rw [hy250];with_reducible exact H)|(have H2_:=(Option.bind_some _ _).symm.trans H;rw [hy250];with_reducible exact H2_)|(have H2_:=(Option.bind_some _ _).symm.trans H;with_reducible exact H2_)|with_reducible exact H|(rw [hy250];exact H)|exact H
   have Ny250:=aK hy250;clear hy250;have H':=aK H;clear H;go_enter Try.func42,Try.ntmps42
   go_wp2_with (first|((with_reducible refine gate_dst (N:=8) rfl ?_);refine Kd.R_make Kd.bool _ 4 rfl (N:=8) rfl 25 _ _ rfl a0 rfl rfl Try.underlying25 (.bool false) 1 info4 rfl (by decide) (by omega) false (ok:=fun _=>True) (okp:=fun _=>True) rfl (fun _ hk=>hk) trivial (of_decide_eq_true zz3) (Nat.le_trans (Nat.mul_le_mul_right _ (of_decide_eq_true zz3:a0.toNat≤281474976710656)) (by omega)) (Below.refl _ _) (Nat.le_refl _) ?_;intro v251 w5 ho6 hb hg_ hnew_;clear hg_ hnew_;(first|rw [←Ny250.out] at ho6|(simp only [Int.reduceToNat] at ho6;rw [←Ny250.out] at ho6));have HO252:=aK (Kd.R_lower ho6 (below_size zz1));replace HB:=aK (below_step zz1 hb);clear hb ho6))
   go_loopg [6] k (fun kq v6 w'=> ∃(x5_1:List Bool) (x6_1:Int),v6= .int .i64 x6_1∧Aside0 (spec_l21Starts.l0 kq l1 x5_1 x6_1=some r)∧Aside0 (kq≤k)∧Aside0 (Kd.R Kd.bool 4 w' w.heap.size (fun _=>True) v251 x5_1)∧Aside0 (Below w.heap.size w w'))
   case atStart=>exact ⟨(y250),(0),zz6,H',⟨Nat.le_refl _⟩,⟨by (with_reducible repeat (first|apply Kd.R_alloc|apply Kd.R_drewN|apply Kd.R_drew));exact HO252.out⟩,⟨by repeat (first|(with_reducible first|exact HB.out|apply below_alloc|apply pw_below_drewN|apply below_drew1)|exact HB.out)⟩⟩
   case round =>
    clear H';(try clear c1);(try clear p2);(try clear c3);(try clear c3b0);(try clear c3b1);(try clear c4);(try clear c4b0);(try clear c4b1);obtain ⟨x5_1,x6_1,rfl,HA,HK1,HO_5,HB⟩:=hrel
    cases gk with
    |zero=>exact absurd HA.out (by simp [spec_l21Starts.l0])
    | succ k1 =>
     have H:=HA.out;clear HA;simp only [spec_l21Starts.l0] at H;by_cases c7:x6_1<(l1.length:Int)
     ·rw [if_pos c7] at H
      have c7b0:decide (x6_1<(l1.length:Int))=true:=decide_eq_true c7
      clear c7;by_cases c8:0≤x6_1
      ·rw [if_pos c8] at H
       have c8b0:decide (0≤x6_1)=true:=decide_eq_true c8
       clear c8;by_cases c9:0≤(rd l1 x6_1)
       ·rw [if_pos c9] at H
        have c9b0:decide (0≤(rd l1 x6_1))=true:=decide_eq_true c9
        clear c9;by_cases c10:(rd l1 x6_1)<(x5_1.length:Int)
        ·rw [if_pos c10] at H
         have c10b0:decide ((rd l1 x6_1)<(x5_1.length:Int))=true:=decide_eq_true c10
         clear c10;obtain ⟨y254,hy254⟩: ∃y_:List Bool,y_=(x5_1.set ((rd l1 x6_1):Int).toNat true):=⟨_,rfl⟩;replace H:(spec_l21Starts.l0 k1 l1 y254 (wrap64 (x6_1+1)))=some r:=by first|(rw [hy254];with_reducible exact H)|(have H2_:=(Option.bind_some _ _).symm.trans H;rw [hy254];with_reducible exact H2_)|(have H2_:=(Option.bind_some _ _).symm.trans H;with_reducible exact H2_)|with_reducible exact H|(rw [hy254];exact H)|exact H
         have Ny254:=aK hy254;clear hy254;have H':=aK H;clear H;have p253:0≤(x6_1:Int):=of_decide_eq_true zz3
         have q253:x6_1<(l1.length:Int):=of_decide_eq_true zz3
         obtain ⟨ad253,e253,hx253_0⟩:=Kd.at_int HR1.out x6_1 p253 q253
         cases e253
         replace hx253_0:=(HB.out.cell (World.block_lt_of_cell? w _ hx253_0)).trans hx253_0;replace p253:=eq_true p253;replace q253:=eq_true q253;have p11:0≤((rd l1 x6_1):Int):=of_decide_eq_true zz3
         have q11:((rd l1 x6_1):Int)<((x5_1.length:Int):Int):=of_decide_eq_true zz3
         obtain ⟨go11,co11,eo11,gb11,gl11,cl11,HG11⟩:=Kd.R_form HO_5.out (by omega)
         (first|cases eo11|(injection eo11 with ea_ en_ ec_;(first|subst ea_|(injection ea_ with ea_;subst ea_));subst ec_;clear en_))
         have GB11:=aK gb11;have GG11:=aK HG11;clear gb11 gl11 HG11;obtain ⟨hx11_0,hf11_0⟩:=Kd.R_celln false HO_5.out ((rd l1 x6_1):Int) p11 q11;replace p11:=eq_true p11;replace q11:=eq_true q11;have HP12:=Kd.R_putg HO_5.out ((rd l1 x6_1):Int) true
         go_wp2_with (first|((with_reducible refine gate_store (t:=4) (p:=20) rfl ?_);refine store_event (t:=4) (p:=20) (v:=?vo_w13) (w1:=(wr.setCell ⟨go11,((rd l1 x6_1):Int).toNat,none⟩ (.bool true))) ?hg ?ho ?hn ?hr ?_;(case ho=>rfl);(case hg=>rfl);(case hn=>rfl);(case hr=>first|(go_simp;done)|(go_simp;rfl)|((try (first|(obtain ⟨_,_,rfl⟩:=Kd.R_slice HO_5.out)|(obtain ⟨_,_,rfl⟩:=Kd.S_slice HO_5.out)));first|(go_simp;done)|(go_simp;rfl)));intro w13 hw;have hg:wr.grownBy w13 (some go11):=(by rw [hw];exact HP12.2);have hp_:Kd.R Kd.bool 4 w13 w.heap.size (fun _=>True) (.slice (some ⟨go11,0,none⟩) x5_1.length co11) y254:=(by rw [hw,Ny254.out];exact HP12.1);clear HP12;replace HO_5:=aK (hp_);replace HB:=aK ((by rw [hw];exact below_set (HB.out) GB11.out:Below w.heap.size w w13));clear hg hw hp_))
         go_roundg k1
         case measure=>have:=HK1.out;omega
         case rel=>exact ⟨(y254),(wrap64 (x6_1+1)),zz6,H',⟨by have:=HK1.out;omega⟩,⟨by (with_reducible repeat (first|apply Kd.R_alloc|apply Kd.R_drewN|apply Kd.R_drew));exact HO_5.out⟩,⟨by repeat (first|(with_reducible first|exact HB.out|apply below_alloc|apply pw_below_drewN|apply below_drew1)|exact HB.out)⟩⟩
        ·rw [if_neg c10] at H
         exact absurd H (by simp)
       ·rw [if_neg c9] at H
        exact absurd H (by simp)
      ·rw [if_neg c8] at H
       exact absurd H (by simp)
     ·rw [if_neg c7] at H
      have c7b0:decide (x6_1<(l1.length:Int))=false:=decide_eq_false c7
      clear c7;obtain rfl:=Option.some.inj H;go_wp2;go_ret;exact ⟨_,by first|rfl|(simp [errW_none,errW_some]<;>rfl)|(simp [*,errW_none,errW_some]<;>rfl),by (with_reducible repeat (first|apply Kd.R_alloc|apply Kd.R_drewN|apply Kd.R_drew));exact HO_5.out,by repeat (first|(with_reducible first|exact HB.out|apply below_alloc|apply pw_below_drewN|apply below_drew1)|exact HB.out)⟩
  ·rw [if_neg c4] at H
   exact absurd H (by simp)
 ·rw [if_neg c3] at H
  exact absurd H (by simp)
end Go.Proofs.Ytnlieahdakafbaa.K
namespace Go.Proofs.Ytnlieahdakafbaa.K
open Go.RowKit Go.Proofs.YtnlieahdakafbaaW.PrintWords Go.Proofs.YtnlieahdakafbaaW.PrintLast Go.Proofs.YtnlieahdakafbaaW.PrintMore
attribute [local go_sem] max2_int min2_int max_two min_two max_three min_three max_four min_four
set_option linter.unusedVariables false
set_option linter.unusedSimpArgs false
def spec_l2Field.f (l0:List (S112)) (a1:Int):Option (Bool):=if a1=1 then (some true) else (if a1=3 then (some true) else (if a1=4 then (some true) else ((spec_l6In.f a1 8 (wrap64 ((wrap64 (8+(l0.length:Int))) - 1))).bind fun t255=>(some t255))))
set_option maxHeartbeats 8000000 in
set_option maxRecDepth 100000 in
theorem spec_l2Field.calls (A0:Option Addr) (c0:Nat) (l0:List (S112)) (a1:Int) (r:Bool) (w:World) (hr0:Kd.C k112 w A0 l0.length l0) (hc0:l0.length≤c0) (h:spec_l2Field.f l0 a1=some r):
  Calls Try.prog 112 #[.slice A0 l0.length c0,.int .i64 a1] w fun e w'=>e= .returned (.bool r)∧Drawn0 w w':=by
 have HR0:=aK hr0;have HC0:=aK hc0;clear hr0 hc0;have H:(if a1=1 then (some true) else (if a1=3 then (some true) else (if a1=4 then (some true) else ((spec_l6In.f a1 8 (wrap64 ((wrap64 (8+(l0.length:Int))) - 1))).bind fun t255=>(some t255)))))=some r:=h
 clear h;by_cases c3:a1=1
 ·rw [if_pos c3] at H
  have c3b0:(a1==1)=true:=beq_iff_eq.mpr c3
  have c3b1:(a1 !=1)=false:=bne_eq_false_iff_eq.mpr c3
  clear c3;obtain rfl:=Option.some.inj H;go_enter Try.func112,Try.ntmps112;go_wp2;go_ret;exact ⟨zz6,zz12⟩
 ·rw [if_neg c3] at H
  have c3b0:(a1==1)=false:=beq_eq_false_iff_ne.mpr c3
  have c3b1:(a1 !=1)=true:=bne_iff_ne.mpr c3
  by_cases c4:a1=3
  ·rw [if_pos c4] at H
   have c4b0:(a1==3)=true:=beq_iff_eq.mpr c4
   have c4b1:(a1 !=3)=false:=bne_eq_false_iff_eq.mpr c4
   clear c4;obtain rfl:=Option.some.inj H;go_enter Try.func112,Try.ntmps112;go_wp2;go_ret;exact ⟨zz6,zz12⟩
  ·rw [if_neg c4] at H
   have c4b0:(a1==3)=false:=beq_eq_false_iff_ne.mpr c4
   have c4b1:(a1 !=3)=true:=bne_iff_ne.mpr c4
   by_cases c5:a1=4
   ·rw [if_pos c5] at H
    have c5b0:(a1==4)=true:=beq_iff_eq.mpr c5
    have c5b1:(a1 !=4)=false:=bne_eq_false_iff_eq.mpr c5
    clear c5;obtain rfl:=Option.some.inj H;go_enter Try.func112,Try.ntmps112;go_wp2;go_ret;exact ⟨zz6,zz12⟩
   ·rw [if_neg c5] at H
    have c5b0:(a1==4)=false:=beq_eq_false_iff_ne.mpr c5
    have c5b1:(a1 !=4)=true:=bne_iff_ne.mpr c5
    replace H:=Option.bind_eq_some_iff.mp H;obtain ⟨t255,A60,H⟩:=H;(try dsimp only at H);have A6:=aK A60;clear A60;obtain rfl:=Option.some.inj H;go_enter Try.func112,Try.ntmps112
    go_wp2_with (first|(go_at_call 79;(with_reducible refine (spec_l6In.calls a1 8 (wrap64 ((wrap64 (8+(l0.length:Int))) - 1)) t255 _ A6.out).mono ?_);rintro e w' ⟨rfl,⟨nd,rfl⟩⟩))
    go_ret;exact ⟨zz6,zz12⟩
end Go.Proofs.Ytnlieahdakafbaa.K
