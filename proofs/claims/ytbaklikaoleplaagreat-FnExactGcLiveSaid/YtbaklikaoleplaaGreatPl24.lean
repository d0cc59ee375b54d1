import Derived.Test.YtbaklikaoleplaaGreatProg
import Derived.Below
import Derived.Deep.Draws
import Derived.Deep.AppendLies
import Derived.Maps.AppendAt
import Derived.OwnWalk
import Derived.Laws.BytesArg
import Derived.Laws.MakeOwn
import Derived.Laws.OwnMore
import Derived.Deep.OwnRows
import Derived.Tactics
import Derived.Lib.ConvBytes
import Derived.Laws.Slices
import Derived.WalkKit
import Derived.KernelRfl
import Derived.RowKit3
import Derived.Deep.LoopGhost
import Derived.Deep.QuietTactic
import Derived.BigQuiet
import Derived.WideLaws
import Derived.Deep.DeepCutAuto
import Derived.Deep.CutBlock
import Derived.Deep.RegionHeld3
import Derived.Laws.Rows
import Derived.Lib.AppendStr
import Derived.ArgAppend
import Derived.Laws.IdiomCopy
import Derived.OrdersHeld
import Derived.Laws.BitsLemmas
import Derived.RowKit
import Derived.Test.YtbaklikaoleplaaGreatPl3
import Derived.Test.YtbaklikaoleplaaGreatPl4
import Derived.Test.YtbaklikaoleplaaGreatPl5
import Derived.Test.YtbaklikaoleplaaGreatPl6
import Derived.Test.YtbaklikaoleplaaGreatPl7
import Derived.Test.YtbaklikaoleplaaGreatPl8
import Derived.Test.YtbaklikaoleplaaGreatPl9
import Derived.Test.YtbaklikaoleplaaGreatPl10
import Derived.Test.YtbaklikaoleplaaGreatPl11
import Derived.Test.YtbaklikaoleplaaGreatPl12
import Derived.Test.YtbaklikaoleplaaGreatPl13
import Derived.Test.YtbaklikaoleplaaGreatPl14
import Derived.Test.YtbaklikaoleplaaGreatPl15
import Derived.Test.YtbaklikaoleplaaGreatPl16
import Derived.Test.YtbaklikaoleplaaGreatPl17
import Derived.Test.YtbaklikaoleplaaGreatPl18
import Derived.Test.YtbaklikaoleplaaGreatPl19
import Derived.Test.YtbaklikaoleplaaGreatPl20
import Derived.Test.YtbaklikaoleplaaGreatPl21
import Derived.Test.YtbaklikaoleplaaGreatPl22
import Derived.Test.YtbaklikaoleplaaGreatPl23
set_option maxHeartbeats 8000000
set_option maxRecDepth 100000
namespace Go.Proofs.YtbaklikaoleplaaGreat.K
open Go.RowKit Go.Proofs.YtbaklikaoleplaaGreatW.PrintWords Go.Proofs.YtbaklikaoleplaaGreatW.PrintLast Go.Proofs.YtbaklikaoleplaaGreatW.PrintMore
attribute [local go_sem] gV gT jT jS fY fX gU gR
set_option linter.unusedVariables false
set_option linter.unusedSimpArgs false
def errW:Option Int→Value
  |none=> .nilIface
  |some c=> .iface 0 (.int .i64 c)
theorem dF:errW none= .nilIface:=rfl
theorem dE (c:Int):errW (some c)= .iface 0 (.int .i64 c):=rfl
def lA (n m:Nat):Array Bool:=((List.range n).map (Nat.testBit m)).toArray
theorem lA1 {α:Type} (l:List α) (i:Nat) (a:α):l.toArray.setIfInBounds i a=(l.set i a).toArray:=List.setIfInBounds_toArray l i a
theorem lA2 {α:Type} {x a:α} {l:List α}:(x::l).set 0 a=a::l:=List.set_cons_zero
theorem lA3 {α:Type} {x a:α} {l:List α} {n:Nat}:(x::l).set (n+1) a=x::l.set n a:=List.set_cons_succ
section
open Go.Proofs.YtbaklikaoleplaaGreatW.PrintLast
variable {P:Program} {ops:Array Oper} {Q:Exit→Act→World→Prop} {md:Region.Mode} {S:World→Prop} {ds:List Nat} {oi:Oper} {v:Value} {fuel:Nat} {l:Array Bool} {a a':Act} {w:World}
theorem pS (i:Nat) (n:Tmp) (l':Array Bool) (h:dM P md ops Q S ds fuel l' a' w) (hi:ops[i]? =some oi:=by exact rfl) (hN:oi.dst=some n:=by exact rfl) (hc:bHr md ops l l' i=true:=by as_aux_lemma=>kernel_rfl) (hQ: ∀c a w,Q (.panic c) (a.put oi.dst v) w→Q (.panic c) a w:=by exact fun _ _ _ h=>h) (hw:Region.wanted oi (yielded ops a.tmps)=true:=by rfl) (hv: ∀w',(execOp a.eval oi).run P w'= .ok (.value v) w':=by intro w';go_simp;with_reducible rfl) (ha:a.put (some n) v=a':=by simp only [Act.put,lA1,lA2,lA3,mC,qF];rfl):dM P md ops Q S ds (fuel+1) l a w:=
  pure_ l' hi hN hc hQ (Or.inl ⟨hw,hv⟩) ha h
theorem pU (i:Nat) (n:Tmp) (l':Array Bool) (h:dM P md ops Q S ds fuel l' a' w) (hi:ops[i]? =some oi:=by exact rfl) (hN:oi.dst=some n:=by exact rfl) (hc:bHr md ops l l' i=true:=by as_aux_lemma=>kernel_rfl) (hQ: ∀c a w,Q (.panic c) (a.put oi.dst undef) w→Q (.panic c) a w:=by exact fun _ _ _ h=>h) (hw:Region.wanted oi (yielded ops a.tmps)=false:=by rfl) (ha:a.put (some n) undef=a':=by simp only [Act.put,lA1,lA2,lA3,mC,qF];rfl):dM P md ops Q S ds (fuel+1) l a w:=
  pure_ l' hi hN hc hQ (Or.inr ⟨hw,rfl⟩) ha h
theorem tS (i:Nat) (n:Tmp) (l':Array Bool) (hi:ops[i]? =some oi) (hN:oi.dst=some n) (hc:bFc md ops ds l l' i=true) (hS:S w) (hv: ∀w',S w'→(execOp a.eval oi).run P w'= .ok (.value v) w') (h:dM P md ops Q S ds fuel l' a' w) (hQ: ∀c a w,Q (.panic c) (a.put oi.dst v) w→Q (.panic c) a w:=by exact fun _ _ _ h=>h) (hw:Region.wanted oi (yielded ops a.tmps)=true:=by rfl) (ha:a.put (some n) v=a':=by simp only [Act.put,lA1,lA2,lA3,mC,qF];rfl):dM P md ops Q S ds (fuel+1) l a w:=
  take_ l' hi hN hc hQ (Or.inl ⟨hw,hv⟩) hS ha h
end
theorem tB:(Tryz.prog.info? 3).map (fun i=>(i.zero,i.size,i.bytes))=some (some (.int .i64 0),1,8):=by kernel_rfl
theorem bFi:(Tryz.prog.info? 4).map (fun i=>(i.zero,i.size,i.bytes))=some (some (.bool false),1,1):=by kernel_rfl
theorem info24:(Tryz.prog.info? 24).map (fun i=>(i.zero,i.size,i.bytes))=some (some (.slice none 0 0),1,24):=by kernel_rfl
theorem info78:(Tryz.prog.info? 78).map (fun i=>(i.zero,i.size,i.bytes))=some (some (.agg #[(.int .i64 0),(.slice none 0 0)]),2,32):=by kernel_rfl
def bGz (xs:List (List Int)) (i:Int):(List Int):=xs.getD i.toNat ([]:List Int)
theorem at_L1 {w:World} {A:Option Addr} {n:Nat} {xs:List (List Int)} (h:Kd.C (Kd.slice 3 (Kd.int .i64)) w A n xs) (i:Int) (h0:0≤i) (h1:i<n): ∃ad A0 c0,A=some ad∧w.cell? (ad.add i.toNat)=some (.slice A0 (bGz xs i).length c0)∧(bGz xs i).length≤c0∧(Kd.int .i64).C w A0 (bGz xs i).length (bGz xs i):=by
 obtain ⟨ad,c,e,_,hK,hc0⟩:=Kd.C_get h ([]:List Int) i h0 h1;have hc: ∀j u,c[j]? =some u→w.cell? (ad.add (i.toNat*1+j))=some u:=hc0
 obtain ⟨A0,c0,rfl,l0,g0⟩:=hK;exact ⟨ad,A0,c0,e,by have hq:=hc 0 _ rfl;rwa [Nat.mul_one,Nat.add_zero] at hq,l0,g0⟩
structure S75 where
  f0:Int
  f1:(List Int)
def z75:S75:=⟨(0:Int),([]:List Int)⟩
def k75:Kd S75:=Kd.iso (Kd.pair (Kd.int .i64) (Kd.slice 3 (Kd.int .i64))) (fun x:S75=>(x.f0,x.f1))
theorem bMe {w:World} {x:S75} {cs:List Value} (h:k75.K w x cs): ∃A1 c1,cs=[.int .i64 x.f0,.slice A1 x.f1.length c1]∧x.f1.length≤c1∧(Kd.int .i64).C w A1 x.f1.length x.f1:=by
  obtain ⟨_,_,rfl,rfl,⟨A1,c1,rfl,l1,g1⟩⟩:=h;exact ⟨A1,c1,rfl,l1,g1⟩
def mT (xs:List S75) (i:Int):S75:=xs.getD i.toNat z75
theorem bIz {w:World} {A:Option Addr} {n:Nat} {xs:List S75} (h:Kd.C k75 w A n xs) (i:Int) (h0:0≤i) (h1:i<n): ∃ad A1 c1,A=some ad∧w.cell? (ad.add (i.toNat*2))=some (.int .i64 (mT xs i).f0)∧w.cell? ⟨(ad.add (i.toNat*2)).block,(ad.add (i.toNat*2)).off+1,none⟩=some (.slice A1 (mT xs i).f1.length c1)∧(mT xs i).f1.length≤c1∧(Kd.int .i64).C w A1 (mT xs i).f1.length (mT xs i).f1:=by
 obtain ⟨ad,c,e,_,hK,hc0⟩:=Kd.C_get h z75 i h0 h1;have hc: ∀j u,c[j]? =some u→w.cell? (ad.add (i.toNat*2+j))=some u:=hc0
 obtain ⟨A1,c1,rfl,l1,g1⟩:=bMe hK;exact ⟨ad,A1,c1,e,hc 0 _ rfl,by rw [←bFn _ _ 1 (by omega)];exact hc 1 _ rfl,l1,g1⟩
structure S78 where
  f0:Int
  f1:(List Int)
def bHy:S78:=⟨(0:Int),([]:List Int)⟩
def yD:Kd S78:=Kd.iso (Kd.pair (Kd.int .i64) (Kd.slice 3 (Kd.int .i64))) (fun x:S78=>(x.f0,x.f1))
theorem bMd {w:World} {x:S78} {cs:List Value} (h:yD.K w x cs): ∃A1 c1,cs=[.int .i64 x.f0,.slice A1 x.f1.length c1]∧x.f1.length≤c1∧(Kd.int .i64).C w A1 x.f1.length x.f1:=by
  obtain ⟨_,_,rfl,rfl,⟨A1,c1,rfl,l1,g1⟩⟩:=h;exact ⟨A1,c1,rfl,l1,g1⟩
theorem bAa {w:World} {base:Nat} {ok:Nat→Prop} {x:S78} {cs:List Value} (h:yD.M w base ok x cs): ∃v1,cs=[.int .i64 x.f0,v1]∧(Kd.int .i64).R 3 w base ok v1 x.f1:=by
  obtain ⟨_,_,rfl,rfl,⟨v1,rfl,g1⟩⟩:=h;exact ⟨v1,rfl,g1⟩
theorem bDi (w:World) (base:Nat) (ok:Nat→Prop) (x:S78) {v1:Value} (g1:(Kd.int .i64).R 3 w base ok v1 x.f1):yD.M w base ok x [.int .i64 x.f0,v1]:=⟨[.int .i64 x.f0],[v1],rfl,rfl,⟨v1,rfl,g1⟩⟩
def bX (xs:List S78) (i:Int):S78:=xs.getD i.toNat bHy
theorem sF {w:World} {A:Option Addr} {n:Nat} {xs:List S78} (h:Kd.C yD w A n xs) (i:Int) (h0:0≤i) (h1:i<n): ∃ad A1 c1,A=some ad∧w.cell? (ad.add (i.toNat*2))=some (.int .i64 (bX xs i).f0)∧w.cell? ⟨(ad.add (i.toNat*2)).block,(ad.add (i.toNat*2)).off+1,none⟩=some (.slice A1 (bX xs i).f1.length c1)∧(bX xs i).f1.length≤c1∧(Kd.int .i64).C w A1 (bX xs i).f1.length (bX xs i).f1:=by
 obtain ⟨ad,c,e,_,hK,hc0⟩:=Kd.C_get h bHy i h0 h1;have hc: ∀j u,c[j]? =some u→w.cell? (ad.add (i.toNat*2+j))=some u:=hc0
 obtain ⟨A1,c1,rfl,l1,g1⟩:=bMd hK;exact ⟨ad,A1,c1,e,hc 0 _ rfl,by rw [←bFn _ _ 1 (by omega)];exact hc 1 _ rfl,l1,g1⟩
structure S43 where
 f0:(List Int)
 f1:Int
 f2:Int
 f3:Int
 f4:(List Bool)
def k43:Kd S43:=Kd.iso (Kd.pair (Kd.slice 3 (Kd.int .i64)) (Kd.pair (Kd.int .i64) (Kd.pair (Kd.int .i64) (Kd.pair (Kd.int .i64) (Kd.slice 4 Kd.bool))))) (fun x:S43=>(x.f0,x.f1,x.f2,x.f3,x.f4))
theorem bMf {w:World} {x:S43} {cs:List Value} (h:k43.K w x cs): ∃A0 c0 A4 c4,cs=[.slice A0 x.f0.length c0,.int .i64 x.f1,.int .i64 x.f2,.int .i64 x.f3,.slice A4 x.f4.length c4]∧x.f0.length≤c0∧(Kd.int .i64).C w A0 x.f0.length x.f0∧x.f4.length≤c4∧Kd.bool.C w A4 x.f4.length x.f4:=by
  obtain ⟨_,_,rfl,⟨A0,c0,rfl,l0,g0⟩,⟨_,_,rfl,rfl,⟨_,_,rfl,rfl,⟨_,_,rfl,rfl,⟨A4,c4,rfl,l4,g4⟩⟩⟩⟩⟩:=h;exact ⟨A0,c0,A4,c4,rfl,l0,g0,l4,g4⟩
theorem rL {w:World} {g:Nat} {t:TypeId} {a0 a1:Value} (h:Aside0 (w.heap[g]? =some (.cells #[a0,a1] t (0,0)))):w.cell? ⟨g,0,none⟩=some a0∧w.cell? ⟨g,1,none⟩=some a1∧w.frozen? ⟨g,0,none⟩=false∧w.frozen? ⟨g,1,none⟩=false:=⟨(bK h.out 0).trans rfl,(bK h.out 1).trans rfl,fK h.out 0,fK h.out 1⟩
theorem mG {w:World} {g:Nat} {t:TypeId} {a0 a1 a2 a3 a4:Value} (h:Aside0 (w.heap[g]? =some (.cells #[a0,a1,a2,a3,a4] t (0,0)))):w.cell? ⟨g,0,none⟩=some a0∧w.cell? ⟨g,1,none⟩=some a1∧w.cell? ⟨g,2,none⟩=some a2∧w.cell? ⟨g,3,none⟩=some a3∧w.cell? ⟨g,4,none⟩=some a4∧w.frozen? ⟨g,0,none⟩=false∧w.frozen? ⟨g,1,none⟩=false∧w.frozen? ⟨g,2,none⟩=false∧w.frozen? ⟨g,3,none⟩=false∧w.frozen? ⟨g,4,none⟩=false:=⟨(bK h.out 0).trans rfl,(bK h.out 1).trans rfl,(bK h.out 2).trans rfl,(bK h.out 3).trans rfl,(bK h.out 4).trans rfl,fK h.out 0,fK h.out 1,fK h.out 2,fK h.out 3,fK h.out 4⟩
abbrev bA:=@of_decide_eq_true
abbrev bB:=@decide_eq_true
abbrev bC:=@Option.some.inj
abbrev bD:=@Option.bind_some
abbrev bE:=@World.block_lt_of_cell?
abbrev bJ:=@decide_eq_false
abbrev bL:=@eq_true
abbrev bM:=@List.getD_eq_getElem?_getD
abbrev bO:=@List.getElem?_eq_getElem
abbrev bQ:=@Below.refl
abbrev bR:=@Kd.R_reads'
abbrev bS:=@Kd.C_below
abbrev bV:=@Nat.le_refl
abbrev bZ:=@Kd.R_drewN
abbrev cA:=@Kd.R_below
abbrev cE:=@Kd.R_drew
abbrev cG:=@List.length_append
abbrev cH:=@Kd.R_slice
abbrev cL:=@Classical.byContradiction
abbrev dA:=@Kd.at_int
abbrev dD:=@List.length_drop
abbrev dH:=@List.length_take
abbrev dJ:=@decide_eq_true_eq
abbrev dK:=@Int.toNat_natCast
abbrev dP:=@List.length_cons
abbrev dQ:=@List.getElem?_take
abbrev dR:=@Kd.R_lower
abbrev dS:=@Bool.and_eq_true
abbrev dU:=@Nat.mul_le_mul_right
abbrev dW:=@Nat.le_trans
abbrev dY:=@congrArg
abbrev dZ:=@List.getElem?_eq_some_iff
abbrev fE:=@Option.some.injEq
abbrev fG:=@Kd.R_mono
abbrev fI:=@List.length_set
abbrev fL:=@List.setIfInBounds_toArray
abbrev fM:=@List.length_zipIdx
abbrev fO:=@List.drop_eq_getElem_cons
abbrev fT:=@List.getElem?_drop
abbrev fZ:=@List.mem_cons_of_mem
abbrev gD:=@List.length_singleton
abbrev gE:=@List.mem_cons_self
abbrev gF:=@Below.heap_setCell
abbrev gG:=@trivial
abbrev gN:=@List.length_map
abbrev gQ:=@Kd.at_bool
abbrev gW:=@List.eq_nil_of_length_eq_zero
abbrev hY:=@Option.map_eq_some_iff
abbrev hZ:=@IntWalk.i64_in
abbrev jB:=@List.set_cons_zero
abbrev jC:=@List.set_cons_succ
abbrev jD:=@Bool.true_and
abbrev jX:=@Kd.S_slice
abbrev kH:=@List.map_toArray
abbrev kK:=@List.take_succ_eq_append_getElem
abbrev kL:=@List.length_range
abbrev kM:=@List.getElem?_map
abbrev kW:=@List.drop_eq_nil_of_le
abbrev mK:=@List.mem_append_left
abbrev mL:=@Kd.R_far
abbrev mR:=@List.map_cons
abbrev mV:=@Nat.succ_mul
abbrev mW:=@Nat.ne_of_lt
abbrev nB:=@List.getElem?_append_left
abbrev nH:=@List.all_eq_true
abbrev nI:=@Bool.false_eq_true
abbrev nJ:=@Nat.ne_of_gt
abbrev nK:=@List.map_nil
abbrev nL:=@Nat.mul_one
abbrev nM:=@List.drop_zero
abbrev nY:=@List.length_nil
abbrev nZ:=@Bool.or_eq_true
abbrev pC:=@List.getElem_of_mem
abbrev pL:=@List.getElem?_set_self
abbrev pN:=@List.getElem_mem
abbrev pZ:=@List.mem_singleton
abbrev qA:=@List.getElem?_append_right
abbrev qB:=@Int.tdiv_eq_ediv_of_nonneg
abbrev qC:=@List.getElem?_eq_none
abbrev qK:=@List.nil_append
abbrev qL:=@if_true
abbrev qM:=@Kd.own_of_R
abbrev qN:=@Kd.R_of_own
abbrev qT:=@Kd.R_bound
abbrev qZ:=@Nat.le_mul_of_pos_right
abbrev rF:=@Nat.add_mul
abbrev rK:=@decide_eq_true_iff
abbrev rM:=@Nat.lt_of_lt_of_le
abbrev rN:=@Kd.R_lt
abbrev rR:=@List.mem_append
abbrev rS:=@Kd.R_kept
abbrev rT:=@Kd.R_form
abbrev rU:=@Kd.R_base
abbrev sI:=@List.mem_append_right
abbrev sJ:=@List.append_assoc
abbrev sQ:=@List.getElem?_zipIdx
abbrev sR:=@List.getElem?_set_ne
abbrev sS:=@Kd.S_below
abbrev sU:=@Kd.R_types
abbrev sV:=@Kd.R_celln
abbrev tD:=@bodyPost_ret
abbrev tE:=@Nat.zero_add
abbrev tF:=@Nat.lt_or_ge
abbrev tG:=@Nat.add_zero
abbrev tH:=@List.take_length
abbrev tI:=@List.foldlM_cons
abbrev tP:=@beq_eq_false_iff_ne
abbrev tQ:=@List.getElem?_range
abbrev tR:=@Int.toNat_of_nonneg
abbrev vI:=@List.foldlM_nil
abbrev vJ:=@Bool.eq_iff_iff
abbrev xD:=@Nat.zero_le
theorem aK {p:Prop} (h:p):Aside0 p:=Aside0.mk h
section
variable {P:Program} {ops:Array Oper} {Q:Exit→Act→World→Prop} {md:Region.Mode} {S:World→Prop} {ds:List Nat} {oi:Oper} {v:Value} {fuel:Nat} {l:Array Bool} {a a':Act} {w:World}
theorem pT {T:Bool×List (List Nat×List Nat)} (i:Nat) (n:Tmp) (l':Array Bool) (HT:Aside0 (sK md ops=T)) (h:dM P md ops Q S ds fuel l' a' w) (hi:ops[i]? =some oi:=by exact rfl) (hN:oi.dst=some n:=by exact rfl) (hc:bMm T l.toList l'.toList i=true:=by kernel_rfl) (hQ: ∀c a w,Q (.panic c) (a.put oi.dst v) w→Q (.panic c) a w:=by exact fun _ _ _ h=>h) (hw:Region.wanted oi (yielded ops a.tmps)=true:=by rfl) (hv: ∀w',(execOp a.eval oi).run P w'= .ok (.value v) w':=by intro w';go_simp;with_reducible rfl) (ha:a.put (some n) v=a':=by simp only [Act.put,fL,jB,jC,mC,qF];rfl):dM P md ops Q S ds (fuel+1) l a w:=pS i n l' h hi hN (bJa HT.out hc) hQ hw hv ha
theorem nS (n:Tmp) (h:dM P md ops Q S ds fuel l a' w) (ha:a.put (some n) v=a':=by simp only [Act.put,fL,jB,jC,mC,qF];rfl):dM P md ops Q S ds fuel l (a.put (some n) v) w:=norm_ ha h
theorem oS (i:Nat) (n:Tmp) (l':Array Bool) (hi:ops[i]? =some oi) (hN:oi.dst=some n) (h: ∀K:Act→World→Prop,Shut (∀a' w',S w'→(S w'→dM P md ops Q S ds fuel l' a' w')→K a' w')→if Region.wanted oi (yielded ops a.tmps)=true then Oper.wp P oi a w K Q else K (a.put (some n) undef) w) (hc:bAt md ops l l' i=true:=by kernel_rfl) (hd:i∉ds:=by decide):dM P md ops Q S ds (fuel+1) l a w:=rQ l' hi hN hc hd h
end
theorem lA0 (n:Nat):Array.replicate n false=lA n 0:=by simp [lA,Array.ext_iff]
section
variable {P:Program} {ops:Array Oper} {Q:Exit→Act→World→Prop} {rest:List Oper} {oi:Oper} {a:Act} {w:World}
theorem sT {id:Nat} (n:Nat) {S:World→Prop} {ds:List Nat} (hS:S w.drew) (h:S w.drew→dM P .any ops Q S ds n (lA n 0) a w.drew) (hm:P.follows .mixedOrders=true:=by kernel_rfl) (hn:ops.size=n:=by rfl):(Code.region id ops true).wp P Q a w:=start_ (lA n 0) hm hn (lA0 n) hS h
theorem gL (n : Tmp) {f : FuncId} {fn : Func} {xs : Array Operand} {ts : Array TypeId} (hf : P.funcs[f]? = some fn) (args : Array Value) (h : Calls P f args w fun e w' => ∃ v, e = .returned v ∧ wpList P ops Q rest (a.put (some n) v) w') (hd : oi.dst = some n := by exact rfl) (hg : oi.guard = none := by exact rfl) (hname : (fn.name == "runtime.NumGoroutine") = false := by kernel_rfl) (hb : fn.body.isSome = true := by exact rfl) (hop : oi.op = .call { callee := .value (.func f), args := xs, argTypes := ts } := by exact rfl) (hargs : xs.map a.eval = args := by simp only [kH, mR, nK]; rfl) : wpList P ops Q (oi :: rest) a w := dT (some n) hd hg hf hname hb args hop hargs h
theorem gO {N : Option Tmp} {K : Act → World → Prop} {f : FuncId} {fn : Func} {xs : Array Operand} {ts : Array TypeId} (hf : P.funcs[f]? = some fn) (args : Array Value) (h : Calls P f args w fun e w' => ∃ v, e = .returned v ∧ K (a.put N v) w') (hname : (fn.name == "runtime.NumGoroutine") = false := by kernel_rfl) (hb : fn.body.isSome = true := by exact rfl) (hw : Region.wanted oi (yielded ops a.tmps) = true := by rfl) (hN : oi.dst = N := by exact rfl) (hop : oi.op = .call { callee := .value (.func f), args := xs, argTypes := ts } := by exact rfl) (hargs : xs.map a.eval = args := by simp only [kH, mR, nK]; rfl) : if Region.wanted oi (yielded ops a.tmps) = true then Oper.wp P oi a w K Q else K (a.put N undef) w := pA hf hname hb args hw hN hop hargs h
end
section
variable {P:Program} {ops:Array Oper} {Q:Exit→Act→World→Prop} {md:Region.Mode} {S:World→Prop} {ds:List Nat} {oi:Oper} {v:Value} {fuel:Nat} {l:Array Bool} {a a':Act} {w:World} {T:Bool×List (List Nat×List Nat)} {n m m':Nat} {N:Tmp}
theorem dL (i:Nat) (h:dM P md ops Q S ds fuel (lA n m') a' w) (hi:ops[i]? =some oi:=by exact rfl) (hN:oi.dst=some N:=by exact rfl) (hm:m ||| 2 ^ i=m':=by simp only [Nat.reducePow,Nat.reduceOr];exact rfl) (hc:bHr md ops (lA n m) (lA n m') i=true:=by as_aux_lemma=>kernel_rfl) (hQ: ∀c a w,Q (.panic c) (a.put oi.dst v) w→Q (.panic c) a w:=by exact fun _ _ _ h=>h) (hw:Region.wanted oi (yielded ops a.tmps)=true:=by rfl) (hv: ∀w',(execOp a.eval oi).run P w'= .ok (.value v) w':=by intro w';go_simp;with_reducible rfl) (ha:a.put (some N) v=a':=by simp only [Act.put,fL,jB,jC,mC,qF];rfl):dM P md ops Q S ds (fuel+1) (lA n m) a w:=pS i N (lA n m') h hi hN hc hQ hw hv ha
theorem fN (i:Nat) (h:dM P md ops Q S ds fuel (lA n m') a' w) (hi:ops[i]? =some oi:=by exact rfl) (hN:oi.dst=some N:=by exact rfl) (hm:m ||| 2 ^ i=m':=by simp only [Nat.reducePow,Nat.reduceOr];exact rfl) (hc:bHr md ops (lA n m) (lA n m') i=true:=by as_aux_lemma=>kernel_rfl) (hQ: ∀c a w,Q (.panic c) (a.put oi.dst undef) w→Q (.panic c) a w:=by exact fun _ _ _ h=>h) (hw:Region.wanted oi (yielded ops a.tmps)=false:=by rfl) (ha:a.put (some N) undef=a':=by simp only [Act.put,fL,jB,jC,mC,qF];rfl):dM P md ops Q S ds (fuel+1) (lA n m) a w:=pU i N (lA n m') h hi hN hc hQ hw ha
theorem kC (i:Nat) (h:dM P md ops Q S ds fuel (lA n m') a' w) (hi:ops[i]? =some oi:=by exact rfl) (hN:oi.dst=some N:=by exact rfl) (hm:m ||| 2 ^ i=m':=by simp only [Nat.reducePow,Nat.reduceOr];exact rfl) (HT:Aside0 (sK md ops=T):=by exact HT_) (hc:bMm T (lA n m).toList (lA n m').toList i=true:=by kernel_rfl) (hQ: ∀c a w,Q (.panic c) (a.put oi.dst v) w→Q (.panic c) a w:=by exact fun _ _ _ h=>h) (hw:Region.wanted oi (yielded ops a.tmps)=true:=by rfl) (hv: ∀w',(execOp a.eval oi).run P w'= .ok (.value v) w':=by intro w';go_simp;with_reducible rfl) (ha:a.put (some N) v=a':=by simp only [Act.put,fL,jB,jC,mC,qF];rfl):dM P md ops Q S ds (fuel+1) (lA n m) a w:=pS i N (lA n m') h hi hN (bJa HT.out hc) hQ hw hv ha
theorem mM (i:Nat) (h:dM P md ops Q S ds fuel (lA n m') a' w) (hi:ops[i]? =some oi:=by exact rfl) (hN:oi.dst=some N:=by exact rfl) (hm:m ||| 2 ^ i=m':=by simp only [Nat.reducePow,Nat.reduceOr];exact rfl) (HT:Aside0 (sK md ops=T):=by exact HT_) (hc:bMm T (lA n m).toList (lA n m').toList i=true:=by kernel_rfl) (hQ: ∀c a w,Q (.panic c) (a.put oi.dst undef) w→Q (.panic c) a w:=by exact fun _ _ _ h=>h) (hw:Region.wanted oi (yielded ops a.tmps)=false:=by rfl) (ha:a.put (some N) undef=a':=by simp only [Act.put,fL,jB,jC,mC,qF];rfl):dM P md ops Q S ds (fuel+1) (lA n m) a w:=pU i N (lA n m') h hi hN (bJa HT.out hc) hQ hw ha
end
section
variable {w w1:World} {g:Nat} {t:TypeId} {p0 p1 p2 p3 p4 p5 p6 p7:Addr} {v0 v1 v2 v3 v4 v5 v6 v7:Value}
theorem tO (h:w.heap[g]? =some (.cells #[v0,v1,v2,v3,v4] t (0,0))):w.cell? ⟨g,0,none⟩=some v0∧w.cell? ⟨g,1,none⟩=some v1∧w.cell? ⟨g,2,none⟩=some v2∧w.cell? ⟨g,3,none⟩=some v3∧w.cell? ⟨g,4,none⟩=some v4:=⟨(bK h 0).trans rfl,(bK h 1).trans rfl,(bK h 2).trans rfl,(bK h 3).trans rfl,(bK h 4).trans rfl⟩
theorem bIy (hb:Below w.heap.size w w1) (h:w.cell? p0=some v0∧w.cell? p1=some v1∧w.cell? p2=some v2∧w.cell? p3=some v3):w1.cell? p0=some v0∧w1.cell? p1=some v1∧w1.cell? p2=some v2∧w1.cell? p3=some v3:=⟨bP hb h.1,bP hb h.2.1,bP hb h.2.2.1,bP hb h.2.2.2⟩
theorem yW (hb:Below w.heap.size w w1) (h:w.cell? p0=some v0∧w.cell? p1=some v1∧w.cell? p2=some v2∧w.cell? p3=some v3∧w.cell? p4=some v4):w1.cell? p0=some v0∧w1.cell? p1=some v1∧w1.cell? p2=some v2∧w1.cell? p3=some v3∧w1.cell? p4=some v4:=⟨bP hb h.1,bP hb h.2.1,bP hb h.2.2.1,bP hb h.2.2.2.1,bP hb h.2.2.2.2⟩
theorem b7_7 (hb:Below w.heap.size w w1) (h:w.cell? p0=some v0∧w.cell? p1=some v1∧w.cell? p2=some v2∧w.cell? p3=some v3∧w.cell? p4=some v4∧w.cell? p5=some v5∧w.cell? p6=some v6):w1.cell? p0=some v0∧w1.cell? p1=some v1∧w1.cell? p2=some v2∧w1.cell? p3=some v3∧w1.cell? p4=some v4∧w1.cell? p5=some v5∧w1.cell? p6=some v6:=⟨bP hb h.1,bP hb h.2.1,bP hb h.2.2.1,bP hb h.2.2.2.1,bP hb h.2.2.2.2.1,bP hb h.2.2.2.2.2.1,bP hb h.2.2.2.2.2.2⟩
end
theorem jR {p:Prop} (h:p:=by repeat (first|(with_reducible first|exact HB.out|apply bI|apply bF|apply bH)|exact HB.out)):p:=h
theorem mO {p:Prop} (h:p:=by (try simp only [kH,mR,nK]);first|done|rfl|(simp only [dD,dH];rfl)):p:=h
theorem fU {p:Prop} (h:p:=by first|(with_reducible assumption)|assumption):p:=h
theorem kG {p:Prop} (h:p:=by first|rfl|(simp;done)|(simp [*];done)):p:=h
theorem zF {p:Prop} (h:p:=by repeat (first|exact (bS HR0.out HB.out)|(with_reducible refine Kd.C_alloc ?_ _)|(with_reducible refine Kd.C_drewN ?_ _)|(with_reducible refine Kd.C_drew ?_))):p:=h
theorem pD {p:Prop} (h:p:=by rintro w' ⟨s0,s1,s2,s3,s4,s5⟩;go_simp;with_reducible rfl):p:=h
theorem sL {p:Prop} (h:p:=by first|rfl|(simp [dF,dE]<;>rfl)|(simp [*,dF,dE]<;>rfl)):p:=h
theorem bCx {p:Prop} (h:p:=by repeat (first|exact (bS HR1_0.out HB.out)|(with_reducible refine Kd.C_alloc ?_ _)|(with_reducible refine Kd.C_drewN ?_ _)|(with_reducible refine Kd.C_drew ?_))):p:=h
theorem zz9 {p:Prop} (h:p:=by repeat (first|(with_reducible first|exact HB.out|apply bI|apply bF|apply bH|refine bY ?_ GE457.out)|exact HB.out)):p:=h
theorem nP {p:Prop} (h:p:=by repeat (first|exact Drawn0.refl _|apply Drawn0.step)):p:=h
theorem bAq {p:Prop} (h:p:=by repeat (first|(with_reducible first|exact HB.out|apply bI|apply bF|apply bH|refine bY ?_ GE204.out)|exact HB.out)):p:=h
theorem bBx {p:Prop} (h:p:=by repeat (first|exact (bS HR1_4.out HB.out)|(with_reducible refine Kd.C_alloc ?_ _)|(with_reducible refine Kd.C_drewN ?_ _)|(with_reducible refine Kd.C_drew ?_))):p:=h
theorem bGp {p:Prop} (h:p:=by (with_reducible repeat (first|refine bU ?_ _|refine bW ?_|refine bT ?_ _));exact BK457.out):p:=h
theorem xE {p:Prop} (h:p:=by rintro w' ⟨s0,s1,s2,s3,s4,s5,s6,s7,s8,s9,s10⟩;go_simp;with_reducible rfl):p:=h
theorem bDa {p:Prop} (h:p:=by repeat (first|(with_reducible first|exact HB.out|apply bI|apply bF|apply bH|refine bY ?_ GE137.out)|exact HB.out)):p:=h
theorem bEu {p:Prop} (h:p:=by repeat (first|(with_reducible first|exact HB.out|apply bI|apply bF|apply bH|refine bY ?_ GE457.out|refine bY ?_ GE458.out)|exact HB.out)):p:=h
theorem bEt {p:Prop} (h:p:=by repeat (first|exact (bS HR0_0.out HB.out)|(with_reducible refine Kd.C_alloc ?_ _)|(with_reducible refine Kd.C_drewN ?_ _)|(with_reducible refine Kd.C_drew ?_))):p:=h
theorem bEs {p:Prop} (h:p:=by repeat (first|(with_reducible first|exact HB.out|apply bI|apply bF|apply bH|refine bY ?_ GE250.out)|exact HB.out)):p:=h
theorem bEr {p:Prop} (h:p:=by repeat (first|(with_reducible first|exact HB.out|apply bI|apply bF|apply bH|refine bY ?_ GE226.out)|exact HB.out)):p:=h
theorem bEq {p:Prop} (h:p:=by repeat (first|(with_reducible first|exact HB.out|apply bI|apply bF|apply bH|refine bY ?_ GE163.out)|exact HB.out)):p:=h
theorem bFt {p:Prop} (h:p:=by repeat (first|(with_reducible first|exact HB.out|apply bI|apply bF|apply bH|refine bY ?_ GE449.out)|exact HB.out)):p:=h
theorem bFs {p:Prop} (h:p:=by repeat (first|(with_reducible first|exact HB.out|apply bI|apply bF|apply bH|refine bY ?_ GE215.out)|exact HB.out)):p:=h
theorem xS {p:Prop} (h:p:=by rintro w' ⟨s0,s1,s2,s3,s4⟩;go_simp;with_reducible rfl):p:=h
theorem bGo {p:Prop} (h:p:=by repeat (first|(with_reducible first|exact HB.out|apply bI|apply bF|apply bH|refine bY ?_ GE156.out)|exact HB.out)):p:=h
theorem yL {p:Prop} (h:p:=by rintro w' ⟨s0,s1,s2,s3⟩;go_simp;with_reducible rfl):p:=h
theorem bKf {p:Prop} (h:p:=by exact (by rw [hg];exact mW (cK (g:=gb457) (o:= .cells #[.slice A0_0 l0_0.length c0_0,.int .i64 a0_1,.int .i64 a0_2,.int .i64 a0_3,.slice A0_4 l0_4.length c0_4] 27 (0,0)) bGp):gb457≠gb458)):p:=h
theorem bKe {p:Prop} (h:p:=by exact (by rw [hg];exact nJ (cK (g:=gb457) (o:= .cells #[.slice A0_0 l0_0.length c0_0,.int .i64 a0_1,.int .i64 a0_2,.int .i64 a0_3,.slice A0_4 l0_4.length c0_4] 27 (0,0)) bGp):gb458≠gb457)):p:=h
theorem bFr {p:Prop} (h:p:=by (with_reducible repeat (first|refine bU ?_ _|refine bW ?_|refine bT ?_ _));exact BK449.out):p:=h
theorem bLg {p:Prop} (h:p:=by repeat (first|(with_reducible first|exact HB.out|apply bI|apply bF|apply bH|refine bY ?_ GE287.out|refine bY ?_ GE288.out|refine bY ?_ GE289.out)|exact HB.out)):p:=h
theorem bGn {p:Prop} (h:p:=by (with_reducible repeat (first|refine bU ?_ _|refine bW ?_|refine bT ?_ _));exact BK204.out):p:=h
theorem bGm {p:Prop} (h:p:=by (with_reducible repeat (first|apply Kd.R_alloc|apply bZ|apply cE));exact HO_7.out):p:=h
theorem bHx {p:Prop} (h:p:=by (with_reducible repeat (first|refine bU ?_ _|refine bW ?_|refine bT ?_ _));exact BK287.out):p:=h
theorem bLf {p:Prop} (h:p:=by repeat (first|exact (bS HR2.out HB.out)|(with_reducible refine Kd.C_alloc ?_ _)|(with_reducible refine Kd.C_drewN ?_ _)|(with_reducible refine Kd.C_drew ?_))):p:=h
theorem bLe {p:Prop} (h:p:=by repeat (first|(with_reducible first|exact HB.out|apply bI|apply bF|apply bH|refine bY ?_ GE299.out)|exact HB.out)):p:=h
theorem bLd {p:Prop} (h:p:=by repeat (first|(with_reducible first|exact HB.out|apply bI|apply bF|apply bH|refine bY ?_ GE189.out)|exact HB.out)):p:=h
theorem bLc {p:Prop} (h:p:=by repeat (first|(with_reducible first|exact HB.out|apply bI|apply bF|apply bH|refine bY ?_ GE105.out)|exact HB.out)):p:=h
theorem bCz {p:Prop} (h:p:=by exact (by rw [hg];exact (bN zz9):w.heap.size≤gb458)):p:=h
theorem bCy {p:Prop} (h:p:=by exact (by rw [hg];exact (bN jR):w.heap.size≤gb457)):p:=h
theorem bKd {p:Prop} (h:p:=by (with_reducible repeat (first|refine bU ?_ _|refine bW ?_|refine bT ?_ _));exact BK267.out):p:=h
theorem bKc {p:Prop} (h:p:=by (with_reducible repeat (first|refine bU ?_ _|refine bW ?_|refine bT ?_ _));exact BK250.out):p:=h
theorem bKb {p:Prop} (h:p:=by (with_reducible repeat (first|refine bU ?_ _|refine bW ?_|refine bT ?_ _));exact BK226.out):p:=h
theorem bKa {p:Prop} (h:p:=by (with_reducible repeat (first|refine bU ?_ _|refine bW ?_|refine bT ?_ _));exact BK163.out):p:=h
theorem bJz {p:Prop} (h:p:=by (with_reducible repeat (first|refine bU ?_ _|refine bW ?_|refine bT ?_ _));exact BK137.out):p:=h
theorem bGl {p:Prop} (h:p:=by rintro w' ⟨s0,s1,s2,s3,s4,s5,s6,s7,s8,s9⟩;go_simp;with_reducible rfl):p:=h
theorem zz45 {p:Prop} (h:p:=by repeat (first|exact (bS HR0_1.out HB.out)|(with_reducible refine Kd.C_alloc ?_ _)|(with_reducible refine Kd.C_drewN ?_ _)|(with_reducible refine Kd.C_drew ?_))):p:=h
theorem zz46 {p:Prop} (h:p:=by repeat (first|(with_reducible first|exact HB.out|apply bI|apply bF|apply bH|refine bY ?_ GE267.out|refine bY ?_ GE268.out|refine bY ?_ GE269.out)|exact HB.out)):p:=h
theorem bLb {p:Prop} (h:p:=by (with_reducible repeat (first|apply Kd.Q_alloc|apply Kd.Q_drewN|apply Kd.Q_drew));exact HO_8.out):p:=h
theorem zz48 {p:Prop} (h:p:=by repeat (first|(with_reducible first|exact HB.out|apply bI|apply bF|apply bH|refine bY ?_ GE449.out|refine bY ?_ GE450.out)|exact HB.out)):p:=h
theorem zz49 {p:Prop} (h:p:=by repeat (first|(with_reducible first|exact HB.out|apply bI|apply bF|apply bH|refine bY ?_ GE299.out|refine bY ?_ GE302.out)|exact HB.out)):p:=h
theorem zz50 {p:Prop} (h:p:=by repeat (first|(with_reducible first|exact HB.out|apply bI|apply bF|apply bH|refine bY ?_ GE287.out|refine bY ?_ GE288.out)|exact HB.out)):p:=h
theorem zz51 {p:Prop} (h:p:=by repeat (first|(with_reducible first|exact HB.out|apply bI|apply bF|apply bH|refine bY ?_ GE267.out|refine bY ?_ GE268.out)|exact HB.out)):p:=h
theorem bHw {p:Prop} (h:p:=by have:=B1.out;unfold pV at this;rw [HO.out];exact this):p:=h
theorem zz53 {p:Prop} (h:p:=by (with_reducible repeat (first|refine bU ?_ _|refine bW ?_|refine bT ?_ _));exact BK288.out):p:=h
theorem zz54 {p:Prop} (h:p:=by (with_reducible repeat (first|refine bU ?_ _|refine bW ?_|refine bT ?_ _));exact BK215.out):p:=h
def nW (l0:List Int) (a1:Int):Option (Int):=if (wrap64 (a1 - (l0.length:Int)))<0 then (some (-1)) else (some (wrap64 (a1 - (l0.length:Int))))
theorem nT (A0:Option Addr) (c0:Nat) (l0:List Int) (a1:Int) (r:Int) (w:World) (hr0:Kd.C (Kd.int .i64) w A0 l0.length l0) (hc0:l0.length≤c0) (h:nW l0 a1=some r):
  Calls Tryz.prog 48 #[.slice A0 l0.length c0,.int .i64 a1] w fun e w'=>e= .returned (.int .i64 r)∧Drawn0 w w':=by
 have HR0:=aK hr0;have HC0:=aK hc0;clear hr0 hc0;have H:(if (wrap64 (a1 - (l0.length:Int)))<0 then (some (-1)) else (some (wrap64 (a1 - (l0.length:Int)))))=some r:=h
 clear h;by_cases c3:(wrap64 (a1 - (l0.length:Int)))<0
 ·rw [if_pos c3] at H
  have c3b0:decide ((wrap64 (a1 - (l0.length:Int)))<0)=true:=bB c3
  clear c3;obtain rfl:=bC H;go_enter Tryz.func48,Tryz.ntmps48;go_wp2;go_ret;exact ⟨kG,nP⟩
 ·rw [if_neg c3] at H
  have c3b0:decide ((wrap64 (a1 - (l0.length:Int)))<0)=false:=bJ c3
  clear c3;obtain rfl:=bC H;go_enter Tryz.func48,Tryz.ntmps48;go_wp2;go_ret;exact ⟨kG,nP⟩
def sA (a0_0:Int) (l0_1:List Int) (a1:Int):Option (Int):=(nW l0_1 a1).bind fun t102=>(if t102<0 then (some (-1)) else (some t102))
theorem vR (a0_0:Int) (A0_1:Option Addr) (c0_1:Nat) (l0_1:List Int) (a1:Int) (r:Int) (w:World) (hr0_1:Kd.C (Kd.int .i64) w A0_1 l0_1.length l0_1) (hc0_1:l0_1.length≤c0_1) (h:sA a0_0 l0_1 a1=some r):
  Calls Tryz.prog 47 #[.agg #[.int .i64 a0_0,.slice A0_1 l0_1.length c0_1],.int .i64 a1] w fun e w'=>e= .returned (.int .i64 r)∧Below w.heap.size w w':=by
 have hu75:=Tryz.underlying75;have HR0_1:=aK hr0_1;have HC0_1:=aK hc0_1;clear hr0_1 hc0_1;have HB:=aK (bQ w.heap.size w);have H:((nW l0_1 a1).bind fun t102=>(if t102<0 then (some (-1)) else (some t102)))=some r:=h
 clear h;replace H:=Option.bind_eq_some_iff.mp H;obtain ⟨t102,A30,H⟩:=H;(try dsimp only at H);have A3:=aK A30;clear A30;by_cases c4:t102<0
 ·rw [if_pos c4] at H
  have c4b0:decide (t102<0)=true:=bB c4
  clear c4;obtain rfl:=bC H;go_enter Tryz.func47,Tryz.ntmps47
  go_wp2_with (first|((with_reducible refine dG (N:=2) rfl ?_);refine dN ?hg (N:=2) ?hd (cs:= #[.int .i64 a0_0,.slice A0_1 l0_1.length c0_1]) (t:=75) ?hr ?_;(case hd=>rfl);(case hg=>rfl);(case hr=>first|(go_simp;done)|(go_simp;rfl));intro gb101 hg w5 hbox hb;have BK101:=aK (hbox);have GW101:=aK ((by rw [hg];exact (bN jR):w.heap.size≤gb101));have GE101:=aK ((by rw [hg];exact (bN jR):w.heap.size≤gb101));replace HB:=aK (bG jR hb);clear hb hbox hg;obtain ⟨hcz6_0,hcz6_1,hfz6_0,hfz6_1⟩:=rL BK101)|((with_reducible refine cD (f:=48) rfl ?_);refine dT (some 8) rfl rfl Tryz.func48 (by kernel_rfl) rfl #[.slice A0_1 l0_1.length c0_1,.int .i64 a1] rfl mO ?_;(with_reducible refine (nT _ _ l0_1 a1 t102 _ ?side1 ?side2 A3.out).mono ?_);(case side1=>exact zz45);(case side2=>exact HC0_1.out);rintro e w' ⟨rfl,⟨nd,rfl⟩⟩;refine ⟨_,rfl,?_⟩))
  go_ret;exact ⟨sL,(by repeat (first|(with_reducible first|exact HB.out|apply bI|apply bF|apply bH|refine bY ?_ GE101.out)|exact HB.out))⟩
 ·rw [if_neg c4] at H
  have c4b0:decide (t102<0)=false:=bJ c4
  clear c4;obtain rfl:=bC H;go_enter Tryz.func47,Tryz.ntmps47
  go_wp2_with (first|((with_reducible refine dG (N:=2) rfl ?_);refine dN ?hg (N:=2) ?hd (cs:= #[.int .i64 a0_0,.slice A0_1 l0_1.length c0_1]) (t:=75) ?hr ?_;(case hd=>rfl);(case hg=>rfl);(case hr=>first|(go_simp;done)|(go_simp;rfl));intro gb101 hg w7 hbox hb;have BK101:=aK (hbox);have GW101:=aK ((by rw [hg];exact (bN jR):w.heap.size≤gb101));have GE101:=aK ((by rw [hg];exact (bN jR):w.heap.size≤gb101));replace HB:=aK (bG jR hb);clear hb hbox hg;obtain ⟨hcz8_0,hcz8_1,hfz8_0,hfz8_1⟩:=rL BK101)|((with_reducible refine cD (f:=48) rfl ?_);refine dT (some 8) rfl rfl Tryz.func48 (by kernel_rfl) rfl #[.slice A0_1 l0_1.length c0_1,.int .i64 a1] rfl mO ?_;(with_reducible refine (nT _ _ l0_1 a1 t102 _ ?side1 ?side2 A3.out).mono ?_);(case side1=>exact zz45);(case side2=>exact HC0_1.out);rintro e w' ⟨rfl,⟨nd,rfl⟩⟩;refine ⟨_,rfl,?_⟩))
  go_ret;exact ⟨sL,(by repeat (first|(with_reducible first|exact HB.out|apply bI|apply bF|apply bH|refine bY ?_ GE101.out)|exact HB.out))⟩
def gA:Nat→List (S75)→Int→Int→Option (Int)
  |0,_,_,_=>none
  |k+1,x0,x1,x5=>if x5<(x0.length:Int) then (if 0≤x5 then ((sA ((mT x0 x5).f0) ((mT x0 x5).f1) x1).bind fun t104=>(if t104<0 then (some (-1)) else (gA k x0 t104 (wrap64 (x5+1))))) else (none)) else (some x1)
def kA (k:Nat) (l0:List (S75)) (a1:Int):Option (Int):=if (wrap64 (a1 - (l0.length:Int)))<0 then (some (-1)) else (gA k l0 (wrap64 (a1 - (l0.length:Int))) 0)
theorem sY: ∀k,(∀y0 y1 y2,bBf (gA k y0 y1 y2) (gA (k+1) y0 y1 y2))
 |0=>fun _ _ _ r h=>by simp [gA] at h
 | k + 1 => by
  have ih0:=sY k
  ·intro y0 y1 y2
   unfold gA;repeat' first
   |(with_reducible exact ih0 _ _ _)
   |(with_reducible exact bBf.refl _)
   |(with_reducible exact bBf.none _)
   |(with_reducible refine bBf.ite ?_ ?_)
   |(with_reducible refine bBf.bind ?_ (fun _=>?_))
   |exact ih0 _ _ _
   |exact bBf.none _
   |refine bBf.ite ?_ ?_
   |refine bBf.bind ?_ (fun _=>?_)
theorem bAy: ∀a0 a1 k,bBf (kA k a0 a1) (kA (k+1) a0 a1):=by
  intro a0 a1 k;have ih0:=sY k;unfold kA
  repeat' first
      |(with_reducible exact ih0 _ _ _)
      |(with_reducible exact bBf.refl _)
      |(with_reducible exact bBf.none _)
      |(with_reducible refine bBf.ite ?_ ?_)
      |(with_reducible refine bBf.bind ?_ (fun _=>?_))
      |exact ih0 _ _ _
      |exact bBf.none _
      |refine bBf.ite ?_ ?_
      |refine bBf.bind ?_ (fun _=>?_)
theorem tX (k:Nat) (A0:Option Addr) (c0:Nat) (l0:List (S75)) (a1:Int) (r:Int) (w:World) (hr0:Kd.C k75 w A0 l0.length l0) (hc0:l0.length≤c0) (h:kA k l0 a1=some r):
  Calls Tryz.prog 16 #[.slice A0 l0.length c0,.int .i64 a1] w fun e w'=>e= .returned (.int .i64 r)∧Below w.heap.size w w':=by
 have hu75:=Tryz.underlying75;have HR0:=aK hr0;have HC0:=aK hc0;clear hr0 hc0;have HB:=aK (bQ w.heap.size w);have H:(if (wrap64 (a1 - (l0.length:Int)))<0 then (some (-1)) else (gA k l0 (wrap64 (a1 - (l0.length:Int))) 0))=some r:=h
 clear h;by_cases c3:(wrap64 (a1 - (l0.length:Int)))<0
 ·rw [if_pos c3] at H
  have c3b0:decide ((wrap64 (a1 - (l0.length:Int)))<0)=true:=bB c3
  clear c3;obtain rfl:=bC H;go_enter Tryz.func16,Tryz.ntmps16;go_wp2;go_ret;exact ⟨sL,jR⟩
 ·rw [if_neg c3] at H
  have c3b0:decide ((wrap64 (a1 - (l0.length:Int)))<0)=false:=bJ c3
  clear c3;have H':=aK H;clear H;go_enter Tryz.func16,Tryz.ntmps16;go_wp2
  go_loopg [1,5] k (fun kq v1 v5 w'=> ∃(x1_1:Int) (x5_1:Int),v1= .int .i64 x1_1∧v5= .int .i64 x5_1∧Aside0 (gA kq l0 x1_1 x5_1=some r)∧Aside0 (kq≤k)∧Aside0 (Below w.heap.size w w'))
  case atStart=>exact ⟨(wrap64 (a1 - (l0.length:Int))),(0),kG,kG,H',⟨bV _⟩,⟨by repeat (first|(with_reducible first|exact HB.out|apply bI|apply bF|apply bH)|exact HB.out)⟩⟩
  case round =>
   clear H';(try clear c1);(try clear p2);(try clear c3);(try clear c3b0);obtain ⟨x1_1,x5_1,rfl,rfl,HA,HK1,HB⟩:=hrel
   cases gk with
   |zero=>exact absurd HA.out (by simp [gA])
   | succ k1 =>
    have H:=HA.out;clear HA;simp only [gA] at H;by_cases c4:x5_1<(l0.length:Int)
    ·rw [if_pos c4] at H
     have c4b0:decide (x5_1<(l0.length:Int))=true:=bB c4
     clear c4;by_cases c5:0≤x5_1
     ·rw [if_pos c5] at H
      have c5b0:decide (0≤x5_1)=true:=bB c5
      clear c5;replace H:=Option.bind_eq_some_iff.mp H;obtain ⟨t104,A60,H⟩:=H;(try dsimp only at H);have A6:=aK A60;clear A60;by_cases c7:t104<0
      ·rw [if_pos c7] at H
       have c7b0:decide (t104<0)=true:=bB c7
       clear c7;obtain rfl:=bC H;have p103:0≤(x5_1:Int):=bA fU
       have q103:x5_1<(l0.length:Int):=bA fU
       obtain ⟨ad103,A103_1,c103_1,e103,hx103_0,hx103_1,hl103_1,hi103_1⟩:=bIz HR0.out x5_1 p103 q103
       cases e103
       replace hx103_0:=(HB.out.cell (bE w _ hx103_0)).trans hx103_0;replace hx103_1:=(HB.out.cell (bE w _ hx103_1)).trans hx103_1;have HR103_1:=aK hi103_1;have HC103_1:=aK hl103_1;clear hi103_1 hl103_1;replace p103:=bL p103;replace q103:=bL q103
       go_wp2_with (first|((with_reducible refine cD (f:=47) rfl ?_);refine dT (some 23) rfl rfl Tryz.func47 (by kernel_rfl) rfl #[.agg #[.int .i64 ((mT l0 x5_1).f0),.slice A103_1 ((mT l0 x5_1).f1).length c103_1],.int .i64 x1_1] rfl mO ?_;(with_reducible refine (vR ((mT l0 x5_1).f0) _ _ ((mT l0 x5_1).f1) x1_1 t104 _ ?side1 ?side2 A6.out).mono ?_);(case side1=>exact (by repeat (first|exact (bS HR103_1.out HB.out)|(with_reducible refine Kd.C_alloc ?_ _)|(with_reducible refine Kd.C_drewN ?_ _)|(with_reducible refine Kd.C_drew ?_))));(case side2=>exact HC103_1.out);rintro e w8 ⟨rfl,hb⟩;refine ⟨_,rfl,?_⟩;replace HB:=aK (bG jR hb);(try clear hb);(try clear hb2);(try clear hk);(try clear hi)))
       go_ret;exact ⟨sL,jR⟩
      ·rw [if_neg c7] at H
       have c7b0:decide (t104<0)=false:=bJ c7
       clear c7;have H':=aK H;clear H;have p103:0≤(x5_1:Int):=bA fU
       have q103:x5_1<(l0.length:Int):=bA fU
       obtain ⟨ad103,A103_1,c103_1,e103,hx103_0,hx103_1,hl103_1,hi103_1⟩:=bIz HR0.out x5_1 p103 q103
       cases e103
       replace hx103_0:=(HB.out.cell (bE w _ hx103_0)).trans hx103_0;replace hx103_1:=(HB.out.cell (bE w _ hx103_1)).trans hx103_1;have HR103_1:=aK hi103_1;have HC103_1:=aK hl103_1;clear hi103_1 hl103_1;replace p103:=bL p103;replace q103:=bL q103
       go_wp2_with (first|((with_reducible refine cD (f:=47) rfl ?_);refine dT (some 23) rfl rfl Tryz.func47 (by kernel_rfl) rfl #[.agg #[.int .i64 ((mT l0 x5_1).f0),.slice A103_1 ((mT l0 x5_1).f1).length c103_1],.int .i64 x1_1] rfl mO ?_;(with_reducible refine (vR ((mT l0 x5_1).f0) _ _ ((mT l0 x5_1).f1) x1_1 t104 _ ?side1 ?side2 A6.out).mono ?_);(case side1=>exact (by repeat (first|exact (bS HR103_1.out HB.out)|(with_reducible refine Kd.C_alloc ?_ _)|(with_reducible refine Kd.C_drewN ?_ _)|(with_reducible refine Kd.C_drew ?_))));(case side2=>exact HC103_1.out);rintro e w9 ⟨rfl,hb⟩;refine ⟨_,rfl,?_⟩;replace HB:=aK (bG jR hb);(try clear hb);(try clear hb2);(try clear hk);(try clear hi)))
       go_roundg k1
       case measure=>have:=HK1.out;omega
       case rel=>exact ⟨(t104),(wrap64 (x5_1+1)),kG,kG,H',⟨by have:=HK1.out;omega⟩,⟨by repeat (first|(with_reducible first|exact HB.out|apply bI|apply bF|apply bH)|exact HB.out)⟩⟩
     ·rw [if_neg c5] at H
      exact absurd H (by simp)
    ·rw [if_neg c4] at H
     have c4b0:decide (x5_1<(l0.length:Int))=false:=bJ c4
     clear c4;obtain rfl:=bC H;go_wp2;go_ret;exact ⟨sL,jR⟩
def qQ (l0:List Bool) (a1:Int):Option (Int):=if (wrap64 (a1 - (l0.length:Int)))<0 then (some (-1)) else (some (wrap64 (a1 - (l0.length:Int))))
theorem vS (A0:Option Addr) (c0:Nat) (l0:List Bool) (a1:Int) (r:Int) (w:World) (hr0:Kd.C Kd.bool w A0 l0.length l0) (hc0:l0.length≤c0) (h:qQ l0 a1=some r):
  Calls Tryz.prog 49 #[.slice A0 l0.length c0,.int .i64 a1] w fun e w'=>e= .returned (.int .i64 r)∧Drawn0 w w':=by
 have HR0:=aK hr0;have HC0:=aK hc0;clear hr0 hc0;have H:(if (wrap64 (a1 - (l0.length:Int)))<0 then (some (-1)) else (some (wrap64 (a1 - (l0.length:Int)))))=some r:=h
 clear h;by_cases c3:(wrap64 (a1 - (l0.length:Int)))<0
 ·rw [if_pos c3] at H
  have c3b0:decide ((wrap64 (a1 - (l0.length:Int)))<0)=true:=bB c3
  clear c3;obtain rfl:=bC H;go_enter Tryz.func49,Tryz.ntmps49;go_wp2;go_ret;exact ⟨kG,nP⟩
 ·rw [if_neg c3] at H
  have c3b0:decide ((wrap64 (a1 - (l0.length:Int)))<0)=false:=bJ c3
  clear c3;obtain rfl:=bC H;go_enter Tryz.func49,Tryz.ntmps49;go_wp2;go_ret;exact ⟨kG,nP⟩
def rZ (l0_0:List Int) (a0_1:Int) (a0_2:Int) (a0_3:Int) (l0_4:List Bool) (a1:Int):Option (Int):=(nW l0_0 a1).bind fun t106=>(if t106<0 then (some (-1)) else ((qQ l0_4 t106).bind fun t107=>(if t107<0 then (some (-1)) else (some t107))))
theorem bCe (A0_0:Option Addr) (c0_0:Nat) (l0_0:List Int) (a0_1:Int) (a0_2:Int) (a0_3:Int) (A0_4:Option Addr) (c0_4:Nat) (l0_4:List Bool) (a1:Int) (r:Int) (w:World) (hr0_0:Kd.C (Kd.int .i64) w A0_0 l0_0.length l0_0) (hc0_0:l0_0.length≤c0_0) (hr0_4:Kd.C Kd.bool w A0_4 l0_4.length l0_4) (hc0_4:l0_4.length≤c0_4) (h:rZ l0_0 a0_1 a0_2 a0_3 l0_4 a1=some r):
  Calls Tryz.prog 17 #[.agg #[.slice A0_0 l0_0.length c0_0,.int .i64 a0_1,.int .i64 a0_2,.int .i64 a0_3,.slice A0_4 l0_4.length c0_4],.int .i64 a1] w fun e w'=>e= .returned (.int .i64 r)∧Below w.heap.size w w':=by
 have hu43:=Tryz.underlying43;have HR0_0:=aK hr0_0;have HC0_0:=aK hc0_0;clear hr0_0 hc0_0;have HR0_4:=aK hr0_4;have HC0_4:=aK hc0_4;clear hr0_4 hc0_4;have HB:=aK (bQ w.heap.size w);have H:((nW l0_0 a1).bind fun t106=>(if t106<0 then (some (-1)) else ((qQ l0_4 t106).bind fun t107=>(if t107<0 then (some (-1)) else (some t107)))))=some r:=h
 clear h;replace H:=Option.bind_eq_some_iff.mp H;obtain ⟨t106,A30,H⟩:=H;(try dsimp only at H);have A3:=aK A30;clear A30;by_cases c4:t106<0
 ·rw [if_pos c4] at H
  have c4b0:decide (t106<0)=true:=bB c4
  clear c4;obtain rfl:=bC H;go_enter Tryz.func17,Tryz.ntmps17
  go_wp2_with (first|((with_reducible refine dG (N:=2) rfl ?_);refine dN ?hg (N:=2) ?hd (cs:= #[.slice A0_0 l0_0.length c0_0,.int .i64 a0_1,.int .i64 a0_2,.int .i64 a0_3,.slice A0_4 l0_4.length c0_4]) (t:=43) ?hr ?_;(case hd=>rfl);(case hg=>rfl);(case hr=>first|(go_simp;done)|(go_simp;rfl));intro gb105 hg w5 hbox hb;have BK105:=aK (hbox);have GW105:=aK ((by rw [hg];exact (bN jR):w.heap.size≤gb105));have GE105:=aK ((by rw [hg];exact (bN jR):w.heap.size≤gb105));replace HB:=aK (bG jR hb);clear hb hbox hg;obtain ⟨hcz6_0,hcz6_1,hcz6_2,hcz6_3,hcz6_4,hfz6_0,hfz6_1,hfz6_2,hfz6_3,hfz6_4⟩:=mG BK105)|((with_reducible refine cD (f:=48) rfl ?_);refine dT (some 8) rfl rfl Tryz.func48 (by kernel_rfl) rfl #[.slice A0_0 l0_0.length c0_0,.int .i64 a1] rfl mO ?_;(with_reducible refine (nT _ _ l0_0 a1 t106 _ ?side1 ?side2 A3.out).mono ?_);(case side1=>exact bEt);(case side2=>exact HC0_0.out);rintro e w' ⟨rfl,⟨nd,rfl⟩⟩;refine ⟨_,rfl,?_⟩))
  go_ret;exact ⟨sL,bLc⟩
 ·rw [if_neg c4] at H
  have c4b0:decide (t106<0)=false:=bJ c4
  clear c4;replace H:=Option.bind_eq_some_iff.mp H;obtain ⟨t107,A70,H⟩:=H;(try dsimp only at H);have A7:=aK A70;clear A70;by_cases c8:t107<0
  ·rw [if_pos c8] at H
   have c8b0:decide (t107<0)=true:=bB c8
   clear c8;obtain rfl:=bC H;go_enter Tryz.func17,Tryz.ntmps17
   go_wp2_with (first|((with_reducible refine dG (N:=2) rfl ?_);refine dN ?hg (N:=2) ?hd (cs:= #[.slice A0_0 l0_0.length c0_0,.int .i64 a0_1,.int .i64 a0_2,.int .i64 a0_3,.slice A0_4 l0_4.length c0_4]) (t:=43) ?hr ?_;(case hd=>rfl);(case hg=>rfl);(case hr=>first|(go_simp;done)|(go_simp;rfl));intro gb105 hg w9 hbox hb;have BK105:=aK (hbox);have GW105:=aK ((by rw [hg];exact (bN jR):w.heap.size≤gb105));have GE105:=aK ((by rw [hg];exact (bN jR):w.heap.size≤gb105));replace HB:=aK (bG jR hb);clear hb hbox hg;obtain ⟨hcz10_0,hcz10_1,hcz10_2,hcz10_3,hcz10_4,hfz10_0,hfz10_1,hfz10_2,hfz10_3,hfz10_4⟩:=mG BK105)|((with_reducible refine cD (f:=48) rfl ?_);refine dT (some 8) rfl rfl Tryz.func48 (by kernel_rfl) rfl #[.slice A0_0 l0_0.length c0_0,.int .i64 a1] rfl mO ?_;(with_reducible refine (nT _ _ l0_0 a1 t106 _ ?side1 ?side2 A3.out).mono ?_);(case side1=>exact bEt);(case side2=>exact HC0_0.out);rintro e w' ⟨rfl,⟨nd,rfl⟩⟩;refine ⟨_,rfl,?_⟩)|((with_reducible refine cD (f:=49) rfl ?_);refine dT (some 14) rfl rfl Tryz.func49 (by kernel_rfl) rfl #[.slice A0_4 l0_4.length c0_4,.int .i64 t106] rfl mO ?_;(with_reducible refine (vS _ _ l0_4 t106 t107 _ ?side1 ?side2 A7.out).mono ?_);(case side1=>repeat (first|exact (bS HR0_4.out bLc)|(with_reducible refine Kd.C_alloc ?_ _)|(with_reducible refine Kd.C_drewN ?_ _)|(with_reducible refine Kd.C_drew ?_)));(case side2=>exact HC0_4.out);rintro e w' ⟨rfl,⟨nd,rfl⟩⟩;refine ⟨_,rfl,?_⟩))
   go_ret;exact ⟨sL,bLc⟩
  ·rw [if_neg c8] at H
   have c8b0:decide (t107<0)=false:=bJ c8
   clear c8;obtain rfl:=bC H;go_enter Tryz.func17,Tryz.ntmps17
   go_wp2_with (first|((with_reducible refine dG (N:=2) rfl ?_);refine dN ?hg (N:=2) ?hd (cs:= #[.slice A0_0 l0_0.length c0_0,.int .i64 a0_1,.int .i64 a0_2,.int .i64 a0_3,.slice A0_4 l0_4.length c0_4]) (t:=43) ?hr ?_;(case hd=>rfl);(case hg=>rfl);(case hr=>first|(go_simp;done)|(go_simp;rfl));intro gb105 hg w11 hbox hb;have BK105:=aK (hbox);have GW105:=aK ((by rw [hg];exact (bN jR):w.heap.size≤gb105));have GE105:=aK ((by rw [hg];exact (bN jR):w.heap.size≤gb105));replace HB:=aK (bG jR hb);clear hb hbox hg;obtain ⟨hcz12_0,hcz12_1,hcz12_2,hcz12_3,hcz12_4,hfz12_0,hfz12_1,hfz12_2,hfz12_3,hfz12_4⟩:=mG BK105)|((with_reducible refine cD (f:=48) rfl ?_);refine dT (some 8) rfl rfl Tryz.func48 (by kernel_rfl) rfl #[.slice A0_0 l0_0.length c0_0,.int .i64 a1] rfl mO ?_;(with_reducible refine (nT _ _ l0_0 a1 t106 _ ?side1 ?side2 A3.out).mono ?_);(case side1=>exact bEt);(case side2=>exact HC0_0.out);rintro e w' ⟨rfl,⟨nd,rfl⟩⟩;refine ⟨_,rfl,?_⟩)|((with_reducible refine cD (f:=49) rfl ?_);refine dT (some 14) rfl rfl Tryz.func49 (by kernel_rfl) rfl #[.slice A0_4 l0_4.length c0_4,.int .i64 t106] rfl mO ?_;(with_reducible refine (vS _ _ l0_4 t106 t107 _ ?side1 ?side2 A7.out).mono ?_);(case side1=>repeat (first|exact (bS HR0_4.out bLc)|(with_reducible refine Kd.C_alloc ?_ _)|(with_reducible refine Kd.C_drewN ?_ _)|(with_reducible refine Kd.C_drew ?_)));(case side2=>exact HC0_4.out);rintro e w' ⟨rfl,⟨nd,rfl⟩⟩;refine ⟨_,rfl,?_⟩))
   go_ret;exact ⟨sL,bLc⟩
def fC (a0:Int) (a1:Int) (a2:Int):Option (Bool):=if a0≥a1 then (some (decide (a0≤a2))) else (some false)
theorem cZ (a0:Int) (a1:Int) (a2:Int) (r:Bool) (w:World) (h:fC a0 a1 a2=some r):
  Calls Tryz.prog 129 #[.int .i64 a0,.int .i64 a1,.int .i64 a2] w fun e w'=>e= .returned (.bool r)∧Drawn0 w w':=by
 have H:(if a0≥a1 then (some (decide (a0≤a2))) else (some false))=some r:=h
 clear h;by_cases c4:a0≥a1
 ·rw [if_pos c4] at H
  have c4b0:decide (a1≤a0)=true:=bB c4
  clear c4;obtain rfl:=bC H;go_enter Tryz.func129,Tryz.ntmps129;go_wp2;go_ret;exact ⟨kG,nP⟩
 ·rw [if_neg c4] at H
  have c4b0:decide (a1≤a0)=false:=bJ c4
  clear c4;obtain rfl:=bC H;go_enter Tryz.func129,Tryz.ntmps129;go_wp2;go_ret;exact ⟨kG,nP⟩
def rV (l0:List (S78)) (a1:Int):Option (Bool):=if a1=1 then (some true) else (if a1=3 then (some true) else (if a1=4 then (some true) else ((fC a1 8 (wrap64 ((wrap64 (8+(l0.length:Int))) - 1))).bind fun t154=>(some t154))))
theorem vL (A0:Option Addr) (c0:Nat) (l0:List (S78)) (a1:Int) (r:Bool) (w:World) (hr0:Kd.C yD w A0 l0.length l0) (hc0:l0.length≤c0) (h:rV l0 a1=some r):
  Calls Tryz.prog 174 #[.slice A0 l0.length c0,.int .i64 a1] w fun e w'=>e= .returned (.bool r)∧Drawn0 w w':=by
 have HR0:=aK hr0;have HC0:=aK hc0;clear hr0 hc0;have H:(if a1=1 then (some true) else (if a1=3 then (some true) else (if a1=4 then (some true) else ((fC a1 8 (wrap64 ((wrap64 (8+(l0.length:Int))) - 1))).bind fun t154=>(some t154)))))=some r:=h
 clear h;by_cases c3:a1=1
 ·rw [if_pos c3] at H
  have c3b0:(a1==1)=true:=beq_iff_eq.mpr c3
  have c3b1:(a1 !=1)=false:=bne_eq_false_iff_eq.mpr c3
  clear c3;obtain rfl:=bC H;go_enter Tryz.func174,Tryz.ntmps174;go_wp2;go_ret;exact ⟨kG,nP⟩
 ·rw [if_neg c3] at H
  have c3b0:(a1==1)=false:=tP.mpr c3
  have c3b1:(a1 !=1)=true:=bne_iff_ne.mpr c3
  by_cases c4:a1=3
  ·rw [if_pos c4] at H
   have c4b0:(a1==3)=true:=beq_iff_eq.mpr c4
   have c4b1:(a1 !=3)=false:=bne_eq_false_iff_eq.mpr c4
   clear c4;obtain rfl:=bC H;go_enter Tryz.func174,Tryz.ntmps174;go_wp2;go_ret;exact ⟨kG,nP⟩
  ·rw [if_neg c4] at H
   have c4b0:(a1==3)=false:=tP.mpr c4
   have c4b1:(a1 !=3)=true:=bne_iff_ne.mpr c4
   by_cases c5:a1=4
   ·rw [if_pos c5] at H
    have c5b0:(a1==4)=true:=beq_iff_eq.mpr c5
    have c5b1:(a1 !=4)=false:=bne_eq_false_iff_eq.mpr c5
    clear c5;obtain rfl:=bC H;go_enter Tryz.func174,Tryz.ntmps174;go_wp2;go_ret;exact ⟨kG,nP⟩
   ·rw [if_neg c5] at H
    have c5b0:(a1==4)=false:=tP.mpr c5
    have c5b1:(a1 !=4)=true:=bne_iff_ne.mpr c5
    replace H:=Option.bind_eq_some_iff.mp H;obtain ⟨t154,A60,H⟩:=H;(try dsimp only at H);have A6:=aK A60;clear A60;obtain rfl:=bC H;go_enter Tryz.func174,Tryz.ntmps174
    go_wp2_with (first|(go_at_call 129;(with_reducible refine (cZ a1 8 (wrap64 ((wrap64 (8+(l0.length:Int))) - 1)) t154 _ A6.out).mono ?_);rintro e w' ⟨rfl,⟨nd,rfl⟩⟩))
    go_ret;exact ⟨kG,nP⟩
def jZ:Nat→List (S78)→Int→Int→Int→List Int→Option (Bool)
  |0,_,_,_,_,_=>none
  |k+1,x0,x1,x6,x157000,x157001=>if x6<(x157001.length:Int) then (if 0≤x6 then ((rV x0 (rd x157001 x6)).bind fun t158=>(if t158=true then (jZ k x0 x1 (wrap64 (x6+1)) x157000 x157001) else (some false))) else (none)) else (if x1=0 then (if x157000=(-1) then (some ((x157001.length:Int)==0)) else (some false)) else (if x1=1 then (if x157000=0 then (if (x157001.length:Int)=1 then (if 0<(x157001.length:Int) then (some ((rd x157001 0)==1)) else (none)) else (some false)) else (some false)) else ((fC x157000 0 (wrap64 (x1 - 1))).bind fun t160=>(if t160=true then (some (decide ((x157001.length:Int)≤2))) else (some false)))))
def rW (k:Nat) (l0:List (S78)) (a1:Int):Option (Bool):=if 0≤a1 then (if a1<(l0.length:Int) then (jZ k l0 a1 0 ((bX l0 a1).f0) ((bX l0 a1).f1)) else (none)) else (none)
theorem vM (k : Nat) (A0 : Option Addr) (c0 : Nat) (l0 : List (S78)) (a1 : Int) (r : Bool) (w : World) (hr0 : Kd.C yD w A0 l0.length l0) (hc0 : l0.length ≤ c0) (h : rW k l0 a1 = some r) :
  Calls Tryz.prog 167 #[.slice A0 l0.length c0,.int .i64 a1] w fun e w'=>e= .returned (.bool r)∧Below w.heap.size w w':=by
 have hu78:=Tryz.underlying78;have HR0:=aK hr0;have HC0:=aK hc0;clear hr0 hc0;have HB:=aK (bQ w.heap.size w);have H:(if 0≤a1 then (if a1<(l0.length:Int) then (jZ k l0 a1 0 ((bX l0 a1).f0) ((bX l0 a1).f1)) else (none)) else (none))=some r:=h
 clear h;by_cases c3:0≤a1
 ·rw [if_pos c3] at H
  have c3b0:decide (0≤a1)=true:=bB c3
  clear c3;by_cases c4:a1<(l0.length:Int)
  ·rw [if_pos c4] at H
   have c4b0:decide (a1<(l0.length:Int))=true:=bB c4
   clear c4;have H':=aK H;clear H;have p155:0≤(a1:Int):=bA fU
   have q155:a1<(l0.length:Int):=bA fU
   obtain ⟨ad155,A155_1,c155_1,e155,hx155_0,hx155_1,hl155_1,hi155_1⟩:=sF HR0.out a1 p155 q155
   cases e155
   have HR155_1:=aK hi155_1;have HC155_1:=aK hl155_1;clear hi155_1 hl155_1;replace p155:=bL p155;replace q155:=bL q155;go_enter Tryz.func167,Tryz.ntmps167
   go_wp2_with (first|((with_reducible refine dG (N:=5) rfl ?_);(try (refine yS (by rfl) ?_;dsimp only));refine dN ?hg (N:=5) ?hd (cs:= #[.int .i64 0,.slice none 0 0]) (t:=78) ?hr ?_;(case hd=>rfl);(case hg=>rfl);(case hr=>first|(go_simp;done)|(go_simp;rfl));intro gb156 hg w5 hbox hb;have BK156:=aK (hbox);have GW156:=aK ((by rw [hg];exact (bN jR):w.heap.size≤gb156));have GE156:=aK ((by rw [hg];exact (bN jR):w.heap.size≤gb156));replace HB:=aK (bG jR hb);clear hb hbox hg;obtain ⟨hcz6_0,hcz6_1,hfz6_0,hfz6_1⟩:=rL BK156))
   go_loopg [6] k (fun kq v6 w'=> ∃(x6_1:Int),v6= .int .i64 x6_1∧Aside0 (jZ kq l0 a1 x6_1 ((bX l0 a1).f0) ((bX l0 a1).f1)=some r)∧Aside0 (kq≤k)∧Aside0 (w'.heap[gb156]? =some (.cells #[.int .i64 ((bX l0 a1).f0),(.slice A155_1 ((bX l0 a1).f1).length c155_1)] 78 (0,0)))∧Aside0 (Below w.heap.size w w'))
   case atStart=>exact ⟨(0),kG,H',⟨bV _⟩,⟨by (with_reducible repeat (first|refine bU ?_ _|refine bW ?_|refine bT ?_ _));refine gC (cs:= #[.int .i64 ((bX l0 a1).f0),.slice none 0 0]) ?_ 1 _ rfl;(with_reducible repeat (first|refine bU ?_ _|refine bW ?_|refine bT ?_ _));refine gC (cs:= #[.int .i64 0,.slice none 0 0]) ?_ 0 _ rfl;(with_reducible repeat (first|refine bU ?_ _|refine bW ?_|refine bT ?_ _));exact BK156.out⟩,⟨by repeat (first|(with_reducible first|exact HB.out|apply bI|apply bF|apply bH|refine bY ?_ GE156.out)|exact HB.out)⟩⟩
   case round =>
    clear H';(try clear c1);(try clear p1);(try clear q1);(try clear hx1);(try clear p2);(try clear c3);(try clear c3b0);(try clear c4);(try clear c4b0);(try clear hcz6_0);(try clear hcz6_1);(try clear hfz6_0);(try clear hfz6_1);(try clear hx155_0);(try clear hx155_1);(try clear p155);(try clear q155);obtain ⟨x6_1,rfl,HA,HK1,BK156,HB⟩:=hrel
    cases gk with
    |zero=>exact absurd HA.out (by simp [jZ])
    | succ k1 =>
     have H:=HA.out;clear HA;simp only [jZ] at H;by_cases c7:x6_1<(((bX l0 a1).f1).length:Int)
     ·rw [if_pos c7] at H
      have c7b0:decide (x6_1<(((bX l0 a1).f1).length:Int))=true:=bB c7
      clear c7;by_cases c8:0≤x6_1
      ·rw [if_pos c8] at H
       have c8b0:decide (0≤x6_1)=true:=bB c8
       clear c8;replace H:=Option.bind_eq_some_iff.mp H;obtain ⟨t158,A90,H⟩:=H;(try dsimp only at H);have A9:=aK A90;clear A90;by_cases c10:t158=true
       ·subst c10
        rw [if_pos rfl] at H;have H':=aK H;clear H;obtain ⟨hcz11_0,hcz11_1,hfz11_0,hfz11_1⟩:=rL BK156;have p157:0≤(x6_1:Int):=bA fU
        have q157:x6_1<(((bX l0 a1).f1).length:Int):=bA fU
        obtain ⟨ad157,e157,hx157_0⟩:=dA HR155_1.out x6_1 p157 q157
        cases e157
        replace hx157_0:=(HB.out.cell (bE w _ hx157_0)).trans hx157_0;replace p157:=bL p157;replace q157:=bL q157
        go_wp2_with (first|((with_reducible refine cD (f:=174) rfl ?_);refine dT (some 24) rfl rfl Tryz.func174 (by kernel_rfl) rfl #[.slice (some ad155) l0.length c0,.int .i64 (rd ((bX l0 a1).f1) x6_1)] rfl mO ?_;(with_reducible refine (vL _ _ l0 (rd ((bX l0 a1).f1) x6_1) true _ ?side1 ?side2 A9.out).mono ?_);(case side1=>exact zF);(case side2=>exact HC0.out);rintro e w' ⟨rfl,⟨nd,rfl⟩⟩;refine ⟨_,rfl,?_⟩))
        go_roundg k1
        case measure=>have:=HK1.out;omega
        case rel=>exact ⟨(wrap64 (x6_1+1)),kG,H',⟨by have:=HK1.out;omega⟩,⟨by (with_reducible repeat (first|refine bU ?_ _|refine bW ?_|refine bT ?_ _));exact BK156.out⟩,⟨by repeat (first|(with_reducible first|exact HB.out|apply bI|apply bF|apply bH|refine bY ?_ GE156.out)|exact HB.out)⟩⟩
       ·replace c10 := Bool.eq_false_iff.mpr c10
        subst c10;rw [if_neg (show¬(false=true) by decide)] at H;obtain rfl:=bC H;obtain ⟨hcz12_0,hcz12_1,hfz12_0,hfz12_1⟩:=rL BK156;have p157:0≤(x6_1:Int):=bA fU
        have q157:x6_1<(((bX l0 a1).f1).length:Int):=bA fU
        obtain ⟨ad157,e157,hx157_0⟩:=dA HR155_1.out x6_1 p157 q157
        cases e157
        replace hx157_0:=(HB.out.cell (bE w _ hx157_0)).trans hx157_0;replace p157:=bL p157;replace q157:=bL q157
        go_wp2_with (first|((with_reducible refine cD (f:=174) rfl ?_);refine dT (some 24) rfl rfl Tryz.func174 (by kernel_rfl) rfl #[.slice (some ad155) l0.length c0,.int .i64 (rd ((bX l0 a1).f1) x6_1)] rfl mO ?_;(with_reducible refine (vL _ _ l0 (rd ((bX l0 a1).f1) x6_1) false _ ?side1 ?side2 A9.out).mono ?_);(case side1=>exact zF);(case side2=>exact HC0.out);rintro e w' ⟨rfl,⟨nd,rfl⟩⟩;refine ⟨_,rfl,?_⟩))
        go_ret;exact ⟨sL,bGo⟩
      ·rw [if_neg c8] at H
       exact absurd H (by simp)
     ·rw [if_neg c7] at H
      have c7b0:decide (x6_1<(((bX l0 a1).f1).length:Int))=false:=bJ c7
      clear c7;by_cases c13:a1=0
      ·rw [if_pos c13] at H
       have c13b0:(a1==0)=true:=beq_iff_eq.mpr c13
       have c13b1:(a1 !=0)=false:=bne_eq_false_iff_eq.mpr c13
       clear c13;by_cases c14:((bX l0 a1).f0)=(-1)
       ·rw [if_pos c14] at H
        have c14b0:(((bX l0 a1).f0)==(-1))=true:=beq_iff_eq.mpr c14
        have c14b1:(((bX l0 a1).f0) !=(-1))=false:=bne_eq_false_iff_eq.mpr c14
        clear c14;obtain rfl:=bC H;obtain ⟨hcz15_0,hcz15_1,hfz15_0,hfz15_1⟩:=rL BK156;go_wp2;go_ret;exact ⟨sL,bGo⟩
       ·rw [if_neg c14] at H
        have c14b0:(((bX l0 a1).f0)==(-1))=false:=tP.mpr c14
        have c14b1:(((bX l0 a1).f0) !=(-1))=true:=bne_iff_ne.mpr c14
        obtain rfl:=bC H;obtain ⟨hcz16_0,hcz16_1,hfz16_0,hfz16_1⟩:=rL BK156;go_wp2;go_ret;exact ⟨sL,bGo⟩
      ·rw [if_neg c13] at H
       have c13b0:(a1==0)=false:=tP.mpr c13
       have c13b1:(a1 !=0)=true:=bne_iff_ne.mpr c13
       by_cases c17:a1=1
       ·rw [if_pos c17] at H
        have c17b0:(a1==1)=true:=beq_iff_eq.mpr c17
        have c17b1:(a1 !=1)=false:=bne_eq_false_iff_eq.mpr c17
        clear c17;by_cases c18:((bX l0 a1).f0)=0
        ·rw [if_pos c18] at H
         have c18b0:(((bX l0 a1).f0)==0)=true:=beq_iff_eq.mpr c18
         have c18b1:(((bX l0 a1).f0) !=0)=false:=bne_eq_false_iff_eq.mpr c18
         clear c18;by_cases c19:(((bX l0 a1).f1).length:Int)=1
         ·rw [if_pos c19] at H
          have c19b0:((((bX l0 a1).f1).length:Int)==1)=true:=beq_iff_eq.mpr c19
          have c19b1:((((bX l0 a1).f1).length:Int) !=1)=false:=bne_eq_false_iff_eq.mpr c19
          clear c19;by_cases c20:0<(((bX l0 a1).f1).length:Int)
          ·rw [if_pos c20] at H
           have c20b0:decide (0<(((bX l0 a1).f1).length:Int))=true:=bB c20
           have c20b1:decide (0<((bX l0 a1).f1).length)=true:=bB (by omega)
           clear c20;obtain rfl:=bC H;obtain ⟨hcz21_0,hcz21_1,hfz21_0,hfz21_1⟩:=rL BK156;have p159:0≤(0:Int):=(by omega)
           have q159:0<(((bX l0 a1).f1).length:Int):=bA fU
           obtain ⟨ad159,e159,hx159_0⟩:=dA HR155_1.out 0 p159 q159
           cases e159
           have qi159:(0<((bX l0 a1).f1).length)=True:=bL (by omega)
           (try rw [show ((0:Int)).toNat=0 from rfl] at hx159_0)
           (try rw [Addr.add_zero'] at hx159_0)
           replace hx159_0:=(HB.out.cell (bE w _ hx159_0)).trans hx159_0;replace p159:=bL p159;replace q159:=bL q159;go_wp2;go_ret;exact ⟨sL,bGo⟩
          ·rw [if_neg c20] at H
           exact absurd H (by simp)
         ·rw [if_neg c19] at H
          have c19b0:((((bX l0 a1).f1).length:Int)==1)=false:=tP.mpr c19
          have c19b1:((((bX l0 a1).f1).length:Int) !=1)=true:=bne_iff_ne.mpr c19
          obtain rfl:=bC H;obtain ⟨hcz22_0,hcz22_1,hfz22_0,hfz22_1⟩:=rL BK156;go_wp2;go_ret;exact ⟨sL,bGo⟩
        ·rw [if_neg c18] at H
         have c18b0:(((bX l0 a1).f0)==0)=false:=tP.mpr c18
         have c18b1:(((bX l0 a1).f0) !=0)=true:=bne_iff_ne.mpr c18
         obtain rfl:=bC H;obtain ⟨hcz23_0,hcz23_1,hfz23_0,hfz23_1⟩:=rL BK156;go_wp2;go_ret;exact ⟨sL,bGo⟩
       ·rw [if_neg c17] at H
        have c17b0:(a1==1)=false:=tP.mpr c17
        have c17b1:(a1 !=1)=true:=bne_iff_ne.mpr c17
        replace H:=Option.bind_eq_some_iff.mp H;obtain ⟨t160,A240,H⟩:=H;(try dsimp only at H);have A24:=aK A240;clear A240;by_cases c25:t160=true
        ·subst c25
         rw [if_pos rfl] at H;obtain rfl:=bC H;obtain ⟨hcz26_0,hcz26_1,hfz26_0,hfz26_1⟩:=rL BK156
         go_wp2_with (first|((with_reducible refine cD (f:=129) rfl ?_);refine dT (some 60) rfl rfl Tryz.func129 (by kernel_rfl) rfl #[.int .i64 ((bX l0 a1).f0),.int .i64 0,.int .i64 (wrap64 (a1 - 1))] rfl mO ?_;(with_reducible refine (cZ ((bX l0 a1).f0) 0 (wrap64 (a1 - 1)) true _ A24.out).mono ?_);rintro e w' ⟨rfl,⟨nd,rfl⟩⟩;refine ⟨_,rfl,?_⟩))
         go_ret;exact ⟨sL,bGo⟩
        ·replace c25 := Bool.eq_false_iff.mpr c25
         subst c25;rw [if_neg (show¬(false=true) by decide)] at H;obtain rfl:=bC H;obtain ⟨hcz27_0,hcz27_1,hfz27_0,hfz27_1⟩:=rL BK156
         go_wp2_with (first|((with_reducible refine cD (f:=129) rfl ?_);refine dT (some 60) rfl rfl Tryz.func129 (by kernel_rfl) rfl #[.int .i64 ((bX l0 a1).f0),.int .i64 0,.int .i64 (wrap64 (a1 - 1))] rfl mO ?_;(with_reducible refine (cZ ((bX l0 a1).f0) 0 (wrap64 (a1 - 1)) false _ A24.out).mono ?_);rintro e w' ⟨rfl,⟨nd,rfl⟩⟩;refine ⟨_,rfl,?_⟩))
         go_ret;exact ⟨sL,bGo⟩
  ·rw [if_neg c4] at H
   exact absurd H (by simp)
 ·rw [if_neg c3] at H
  exact absurd H (by simp)
def jP:Nat→List (S78)→Int→Option (Bool)
  |0,_,_=>none
  |k+1,x0,x3=>if x3<(x0.length:Int) then ((rW k x0 x3).bind fun t162=>(if t162=true then (jP k x0 (wrap64 (x3+1))) else (some false))) else (some true)
def pI (k:Nat) (l0:List (S78)):Option (Bool):=(fC (l0.length:Int) 2 5).bind fun t161=>(if t161=true then (jP k l0 0) else (some false))
theorem kU (k:Nat) (A0:Option Addr) (c0:Nat) (l0:List (S78)) (r:Bool) (w:World) (hr0:Kd.C yD w A0 l0.length l0) (hc0:l0.length≤c0) (h:pI k l0=some r):
  Calls Tryz.prog 145 #[.slice A0 l0.length c0] w fun e w'=>e= .returned (.bool r)∧Below w.heap.size w w':=by
 have HR0:=aK hr0;have HC0:=aK hc0;clear hr0 hc0;have HB:=aK (bQ w.heap.size w);have H:((fC (l0.length:Int) 2 5).bind fun t161=>(if t161=true then (jP k l0 0) else (some false)))=some r:=h
 clear h;replace H:=Option.bind_eq_some_iff.mp H;obtain ⟨t161,A20,H⟩:=H;(try dsimp only at H);have A2:=aK A20;clear A20;by_cases c3:t161=true
 ·subst c3
  rw [if_pos rfl] at H;have H':=aK H;clear H;go_enter Tryz.func145,Tryz.ntmps145
  go_wp2_with (first|((with_reducible refine cD (f:=129) rfl ?_);refine dT (some 6) rfl rfl Tryz.func129 (by kernel_rfl) rfl #[.int .i64 (l0.length:Int),.int .i64 2,.int .i64 5] rfl mO ?_;(with_reducible refine (cZ (l0.length:Int) 2 5 true _ A2.out).mono ?_);rintro e w' ⟨rfl,⟨nd,rfl⟩⟩;refine ⟨_,rfl,?_⟩))
  go_loopg [3] k (fun kq v3 w'=> ∃(x3_1:Int),v3= .int .i64 x3_1∧Aside0 (jP kq l0 x3_1=some r)∧Aside0 (kq≤k)∧Aside0 (Below w.heap.size w w'))
  case atStart=>exact ⟨(0),kG,H',⟨bV _⟩,⟨by repeat (first|(with_reducible first|exact HB.out|apply bI|apply bF|apply bH)|exact HB.out)⟩⟩
  case round=>
   clear H';(try clear c1);(try clear p2);(try clear c3);obtain ⟨x3_1,rfl,HA,HK1,HB⟩:=hrel
   cases gk with
   |zero=>exact absurd HA.out (by simp [jP])
   | succ k1 =>
    have H:=HA.out;clear HA;simp only [jP] at H;by_cases c4:x3_1<(l0.length:Int)
    ·rw [if_pos c4] at H
     have c4b0:decide (x3_1<(l0.length:Int))=true:=bB c4
     clear c4;replace H:=Option.bind_eq_some_iff.mp H;obtain ⟨t162,A50,H⟩:=H;(try dsimp only at H);have A5:=aK A50;clear A50;by_cases c6:t162=true
     ·subst c6
      rw [if_pos rfl] at H;have H':=aK H;clear H
      go_wp2_with (first|((with_reducible refine cD (f:=167) rfl ?_);refine dT (some 16) rfl rfl Tryz.func167 (by kernel_rfl) rfl #[.slice A0 l0.length c0,.int .i64 x3_1] rfl mO ?_;(with_reducible refine (vM k1 _ _ l0 x3_1 true _ ?side1 ?side2 A5.out).mono ?_);(case side1=>exact zF);(case side2=>exact HC0.out);rintro e w7 ⟨rfl,hb⟩;refine ⟨_,rfl,?_⟩;replace HB:=aK (bG jR hb);(try clear hb);(try clear hb2);(try clear hk);(try clear hi)))
      go_roundg k1
      case measure=>have:=HK1.out;omega
      case rel=>exact ⟨(wrap64 (x3_1+1)),kG,H',⟨by have:=HK1.out;omega⟩,⟨by repeat (first|(with_reducible first|exact HB.out|apply bI|apply bF|apply bH)|exact HB.out)⟩⟩
     ·replace c6 := Bool.eq_false_iff.mpr c6
      subst c6;rw [if_neg (show¬(false=true) by decide)] at H;obtain rfl:=bC H
      go_wp2_with (first|((with_reducible refine cD (f:=167) rfl ?_);refine dT (some 16) rfl rfl Tryz.func167 (by kernel_rfl) rfl #[.slice A0 l0.length c0,.int .i64 x3_1] rfl mO ?_;(with_reducible refine (vM k1 _ _ l0 x3_1 false _ ?side1 ?side2 A5.out).mono ?_);(case side1=>exact zF);(case side2=>exact HC0.out);rintro e w8 ⟨rfl,hb⟩;refine ⟨_,rfl,?_⟩;replace HB:=aK (bG jR hb);(try clear hb);(try clear hb2);(try clear hk);(try clear hi)))
      go_ret;exact ⟨sL,jR⟩
    ·rw [if_neg c4] at H
     have c4b0:decide (x3_1<(l0.length:Int))=false:=bJ c4
     clear c4;obtain rfl:=bC H;go_wp2;go_ret;exact ⟨sL,jR⟩
 ·replace c3 := Bool.eq_false_iff.mpr c3
  subst c3;rw [if_neg (show¬(false=true) by decide)] at H;obtain rfl:=bC H;go_enter Tryz.func145,Tryz.ntmps145
  go_wp2_with (first|((with_reducible refine cD (f:=129) rfl ?_);refine dT (some 6) rfl rfl Tryz.func129 (by kernel_rfl) rfl #[.int .i64 (l0.length:Int),.int .i64 2,.int .i64 5] rfl mO ?_;(with_reducible refine (cZ (l0.length:Int) 2 5 false _ A2.out).mono ?_);rintro e w' ⟨rfl,⟨nd,rfl⟩⟩;refine ⟨_,rfl,?_⟩))
  go_ret;exact ⟨sL,jR⟩
def tJ (a0:Int):Option (Int):=some (wrap64 (Int.tdiv (wrap64 ((wrap64 (a0+4)) - 1)) 4))
theorem bAg (a0:Int) (r:Int) (w:World) (h:tJ a0=some r):
  Calls Tryz.prog 146 #[.int .i64 a0] w fun e w'=>e= .returned (.int .i64 r)∧Drawn0 w w':=by
 have H:(some (wrap64 (Int.tdiv (wrap64 ((wrap64 (a0+4)) - 1)) 4)))=some r:=h
 clear h;obtain rfl:=bC H;go_enter Tryz.func146,Tryz.ntmps146;go_wp2;go_ret;exact ⟨kG,nP⟩
end Go.Proofs.YtbaklikaoleplaaGreat.K
