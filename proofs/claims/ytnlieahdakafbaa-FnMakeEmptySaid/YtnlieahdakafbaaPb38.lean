import Derived.Test.YtnlieahdakafbaaPb24
import Derived.Test.YtnlieahdakafbaaPb25
import Derived.Test.YtnlieahdakafbaaPb27
import Derived.Test.YtnlieahdakafbaaPb28
import Derived.Test.YtnlieahdakafbaaPb32
import Derived.Test.YtnlieahdakafbaaPb26
import Derived.Test.YtnlieahdakafbaaPb30
import Derived.Test.YtnlieahdakafbaaPb31
import Derived.Test.YtnlieahdakafbaaPb33
import Derived.Test.YtnlieahdakafbaaPb29
import Derived.Test.YtnlieahdakafbaaPb36
import Derived.Test.YtnlieahdakafbaaPb34
import Derived.Test.YtnlieahdakafbaaPb37
namespace Go.Proofs.Ytnlieahdakafbaa.Pure
open Go.RowKit Go.Proofs.Ytnlieahdakafbaa.K Go.Proofs.YtnlieahdakafbaaW.PrintWords Go.Proofs.YtnlieahdakafbaaW.PrintLast Go.Proofs.YtnlieahdakafbaaW.PrintMore
set_option linter.unusedVariables false
set_option linter.unusedSimpArgs false
theorem all_drop (fs:List Int) (P:Int→Bool) (i:Nat) (h:i<fs.length):(fs.drop i).all P=(P (fs.getD i 0)&&(fs.drop (i+1)).all P):=by
  rw [drop_getD fs i 0 h,List.all_cons]
theorem spec_l2Field_eq (cs:Cs) (t:Int) (hl:cs.length≤1000):spec_l2Field.f cs t=some (fldOk cs.length t):=by
 unfold spec_l2Field.f fldOk;by_cases c1:t=1
 ·rw [if_pos c1];simp [c1]
 rw [if_neg c1];by_cases c2:t=3
 ·rw [if_pos c2];simp [c2]
 rw [if_neg c2];by_cases c3:t=4
 ·rw [if_pos c3];simp [c3]
 rw [if_neg c3,wrap64_of (n:=8+(cs.length:Int)) (by omega) (by omega),wrap64_of (by omega) (by omega),spec_l6In_eq];simp only [Option.bind_some,Option.some.injEq]
 rw [Bool.eq_iff_iff];simp only [decide_eq_true_eq];omega
def clsTail (cs:Cs) (i su:Int) (fs:List Int):Bool:=
  if i=0 then decide (su= -1∧fs=[]) else if i=1 then decide (su=0∧fs=[1]) else decide ((0≤su∧su<i)∧fs.length≤2)
theorem len_nil (fs:List Int):((fs.length:Int)==0)=decide (fs=[]):=by cases fs<;>simp;omega
theorem spec_l2Class_l0 (cs:Cs) (c su:Int) (fs:List Int) (hl:cs.length≤1000) (hf:fs.length≤140737488355328) (hc:0≤c∧c<1000) (d:Nat): ∀(k i:Nat),i≤fs.length→fs.length - i=d→d<k→
  spec_l2Class.l0 k cs c i su fs=some ((fs.drop i).all (fldOk cs.length)&&clsTail cs c su fs):=by
 induction d with
 | zero =>
  intro k i hi hd hk;obtain ⟨k,rfl⟩: ∃m,k=m+1:=⟨k - 1,by omega⟩;have:i=fs.length:=by omega
  subst this;simp only [spec_l2Class.l0]
  rw [if_neg (by omega),List.drop_length];simp only [List.all_nil,Bool.true_and]
  unfold clsTail;by_cases c0:c=0
  ·rw [if_pos c0, if_pos c0]
   by_cases s0:su= -1
   ·rw [if_pos s0,len_nil];simp [s0]
   ·rw [if_neg s0];simp [s0]
  rw [if_neg c0,if_neg c0];by_cases c1:c=1
  ·rw [if_pos c1, if_pos c1]
   by_cases s0:su=0
   ·rw [if_pos s0]
    by_cases l1:(fs.length:Int)=1
    ·rw [if_pos l1, if_pos (by omega)]
     obtain ⟨x,rfl⟩:=List.length_eq_one_iff.1 (show fs.length=1 by omega);by_cases e:x=1
     ·simp [rd,s0,e]
     ·simp [rd,s0,e]
    ·rw [if_neg l1]
     have:fs≠[1]:=fun e=>l1 (by rw [e];rfl)
     simp [this]
   ·rw [if_neg s0];simp [s0]
  rw [if_neg c1,if_neg c1,wrap64_of (by omega) (by omega),spec_l6In_eq];simp only [Option.bind_some,decide_eq_true_eq]
  by_cases z:0≤su∧su≤c - 1
  ·rw [if_pos z]
   congr 1
   rw [Bool.eq_iff_iff];simp only [decide_eq_true_eq];omega
  ·rw [if_neg z]
   congr 1
   rw [Bool.eq_iff_iff];simp only [decide_eq_true_eq,Bool.false_eq_true,false_iff];omega
 | succ d ih =>
  intro k i hi hd hk;obtain ⟨k,rfl⟩: ∃m,k=m+1:=⟨k - 1,by omega⟩;simp only [spec_l2Class.l0]
  rw [if_pos (by omega),if_pos (by omega),spec_l2Field_eq cs _ hl,rd_cast,all_drop fs _ i (by omega)];simp only [Option.bind_some]
  cases hq:fldOk cs.length (fs.getD i 0) with
  |false=>simp
  |true=>
   simp only [if_true,Bool.true_and]
   rw [wrap_inc (n:=fs.length) (by omega) (by omega) (by omega),show ((i:Int)+1)=((i+1:Nat):Int) from by omega];exact ih k (i+1) (by omega) (by omega) (by omega)
def fewF (cs:Cs):Prop:= ∀i:Int,(flds cs i).length≤1048576
theorem spec_l2Class_eq {cs:Cs} (hl:cs.length≤1000) (hf:fewF cs) {i:Int} (h0:0≤i) (h1:i<cs.length) (k:Nat) (hk:1048577≤k):spec_l2Class.f k cs i=some (clsOk cs i):=by
 unfold spec_l2Class.f;rw [if_pos h0,if_pos h1];have:=hf i
 have e:=spec_l2Class_l0 cs i (sup cs i) (flds cs i) hl (by omega) ⟨h0,by omega⟩ (flds cs i).length k 0 (by omega) (by omega) (by omega)
 have e2:spec_l2Class.l0 k cs i 0 (sup cs i) (flds cs i)=some (clsOk cs i):=by
  rw [show ((0:Nat):Int)=0 from rfl] at e;rw [e,List.drop_zero];unfold clsOk clsTail;by_cases c0:i=0
  ·subst c0;rfl
  by_cases c1:i=1
  ·subst c1;rfl
  rw [if_neg c0,if_neg c1,if_neg c0,if_neg c1]
 exact e2
theorem range_all_drop (n i:Nat) (P:Nat→Bool) (h:i<n):((List.range n).drop i).all P=(P i&&((List.range n).drop (i+1)).all P):=by
  rw [List.drop_eq_getElem_cons (by simpa using h),List.all_cons];simp
theorem spec_ClassesOk_l0 {cs:Cs} (hl:cs.length≤1000) (hf:fewF cs) (d:Nat): ∀(k i:Nat),i≤cs.length→cs.length - i=d→d+1048577≤k→
  spec_ClassesOk.l0 k cs i=some (((List.range cs.length).drop i).all (fun j:Nat=>clsOk cs j)):=by
 induction d with
 |zero=>
  intro k i hi hd hk;obtain ⟨k,rfl⟩: ∃m,k=m+1:=⟨k - 1,by omega⟩;have:i=cs.length:=by omega
  subst this;simp only [spec_ClassesOk.l0]
  rw [if_neg (by omega),List.drop_of_length_le (by simp)];rfl
 | succ d ih =>
  intro k i hi hd hk;obtain ⟨k,rfl⟩: ∃m,k=m+1:=⟨k - 1,by omega⟩;simp only [spec_ClassesOk.l0]
  rw [if_pos (by omega),spec_l2Class_eq hl hf (by omega) (by omega) k (by omega),range_all_drop _ _ _ (by omega)];simp only [Option.bind_some]
  cases hq:clsOk cs i with
  |false=>simp
  |true=>
   simp only [if_true,Bool.true_and]
   rw [wrap_inc (n:=cs.length) (by omega) (by omega) (by omega),show ((i:Int)+1)=((i+1:Nat):Int) from by omega];exact ih k (i+1) (by omega) (by omega) (by omega)
theorem spec_ClassesOk_eq {cs:Cs} (hf:fewF cs) (k:Nat) (hk:2000000≤k):spec_ClassesOk.f k cs=some (csOk cs):=by
 unfold spec_ClassesOk.f csOk;rw [spec_l6In_eq];simp only [Option.bind_some,decide_eq_true_eq]
 by_cases hl:(2:Int)≤cs.length∧(cs.length:Int)≤5
 ·rw [if_pos hl, show decide (2 ≤ cs.length ∧ cs.length ≤ 5) = true from decide_eq_true (by omega)]
  have:=spec_ClassesOk_l0 (cs:=cs) (by omega) hf cs.length k 0 (by omega) (by omega) (by omega)
  rw [show ((0:Nat):Int)=0 from rfl] at this;rw [this,List.drop_zero,Bool.true_and]
 ·rw [if_neg hl,show decide (2≤cs.length∧cs.length≤5)=false from decide_eq_false (by omega),Bool.false_and]
theorem impl_fieldType_eq (cs:Cs) (t:Int) (hl:cs.length≤1000):impl_fieldType.f cs.length t=some (fldOk cs.length t):=by
 unfold impl_fieldType.f kOk fldOk;rw [if_pos (by omega)]
 congr 1
 rw [Bool.eq_iff_iff];simp only [Bool.and_eq_true,decide_eq_true_eq];omega
def clsQ (cs:Cs) (i:Int):Bool:=(decide (i≤1)||decide (0≤sup cs i∧sup cs i<i))&&(decide ((flds cs i).length≤2)&&(flds cs i).all (fldOk cs.length))
theorem impl_ClassesOk_l1 (cs:Cs) (hl:cs.length≤1000) (i:Nat) (hi:i<1000) (fs:List Int) (hf:fs.length≤2) (R:Bool) (K:Nat) (hR: ∀k,K≤k→impl_ClassesOk.l0 k cs cs cs.length ((i+1:Nat):Int)=some R) (d:Nat): ∀(k j:Nat),j≤fs.length→fs.length - j=d→K+d+1≤k→
  impl_ClassesOk.l1 k cs cs cs.length i fs fs.length j=some ((fs.drop j).all (fldOk cs.length)&&R):=by
 induction d with
 |zero=>
  intro k j hj hd hk;obtain ⟨k,rfl⟩: ∃m,k=m+1:=⟨k - 1,by omega⟩;have:j=fs.length:=by omega
  subst this;simp only [impl_ClassesOk.l1]
  rw [if_neg (by omega),List.drop_length,wrap_inc (n:=1000) (by omega) (by omega) (by omega),show ((i:Int)+1)=((i+1:Nat):Int) from by omega,hR k (by omega)];simp
 | succ d ih =>
  intro k j hj hd hk;obtain ⟨k,rfl⟩: ∃m,k=m+1:=⟨k - 1,by omega⟩;simp only [impl_ClassesOk.l1]
  rw [if_pos (by omega),if_pos (by omega),if_pos (by omega),rd_cast,impl_fieldType_eq cs _ hl,all_drop fs _ j (by omega)];simp only [Option.bind_some]
  cases hq:fldOk cs.length (fs.getD j 0) with
  |false=>simp
  |true=>
   simp only [if_true,Bool.true_and]
   rw [wrap_inc (n:=fs.length) (by omega) (by omega) (by omega),show ((j:Int)+1)=((j+1:Nat):Int) from by omega];exact ih k (j+1) (by omega) (by omega) (by omega)
theorem impl_ClassesOk_l0 (cs:Cs) (hl:cs.length≤5) (d:Nat): ∀(i:Nat),i≤cs.length→cs.length - i=d→∀k,10*d+10≤k→
  impl_ClassesOk.l0 k cs cs cs.length i=some (((List.range cs.length).drop i).all (fun j:Nat=>clsQ cs j)):=by
 induction d with
 |zero=>
  intro i hi hd k hk;obtain ⟨k,rfl⟩: ∃m,k=m+1:=⟨k - 1,by omega⟩;have:i=cs.length:=by omega
  subst this;simp only [impl_ClassesOk.l0]
  rw [if_neg (by omega),List.drop_of_length_le (by simp)];rfl
 | succ d ih =>
  intro i hi hd k hk;obtain ⟨k,rfl⟩: ∃m,k=m+1:=⟨k - 1,by omega⟩;obtain ⟨k,rfl⟩: ∃m,k=m+1:=⟨k - 1,by omega⟩;rw [range_all_drop _ _ _ (by omega)]
  have hj:impl_ClassesOk.j4 (k+1) cs cs cs.length i false (sup cs i) (flds cs i)=some (decide ((flds cs i).length≤2)&&((flds cs i).all (fldOk cs.length)&&((List.range cs.length).drop (i+1)).all (fun j:Nat=>clsQ cs j))):=by
   simp only [impl_ClassesOk.j4]
   rw [if_neg (by simp)];by_cases h2:((flds cs i).length:Int)>2
   ·rw [if_pos h2,decide_eq_false (by omega)];rfl
   ·rw [if_neg h2, decide_eq_true (show (flds cs i).length ≤ 2 by omega), Bool.true_and]
    have:=impl_ClassesOk_l1 cs (by omega) i (by omega) (flds cs i) (by omega) _ (10*d+10) (fun k hk=>ih (i+1) (by omega) (by omega) k hk) (flds cs i).length k 0 (by omega) (by omega) (by omega)
    rw [show ((0:Nat):Int)=0 from rfl,List.drop_zero] at this;exact this
  have hjt:impl_ClassesOk.j4 (k+1) cs cs cs.length i true (sup cs i) (flds cs i)=some false:=by simp [impl_ClassesOk.j4]
  simp only [impl_ClassesOk.l0]
  rw [if_pos (by omega),if_pos (by omega),if_pos (by omega)];rw [show (rd_T112 cs (i:Int)).f0=sup cs i from rfl,show (rd_T112 cs (i:Int)).f1=flds cs i from rfl];have hQ:clsQ cs i=((decide ((i:Int)≤1)||decide (0≤sup cs i∧sup cs i<i))&&(decide ((flds cs i).length≤2)&&(flds cs i).all (fldOk cs.length))):=rfl
  rw [hQ];generalize ((List.range cs.length).drop (i+1)).all (fun j:Nat=>clsQ cs j)=T at*;by_cases h1:(i:Int)>1
  ·rw [if_pos h1]
   by_cases hs:sup cs i<0
   ·rw [if_pos hs,hjt,decide_eq_false (show¬(i:Int)≤1 by omega),decide_eq_false (show¬(0≤sup cs i∧sup cs i<i) by omega)];rfl
   ·rw [if_neg hs]
    by_cases hs2:sup cs i≥i
    ·rw [decide_eq_true hs2,hjt,decide_eq_false (show¬(i:Int)≤1 by omega),decide_eq_false (show¬(0≤sup cs i∧sup cs i<i) by omega)];rfl
    ·rw [decide_eq_false hs2, hj, decide_eq_true (show (0 ≤ sup cs i ∧ sup cs i < i) by omega)]
     simp [Bool.and_assoc]
  ·rw [if_neg h1, hj, decide_eq_true (show (i : Int) ≤ 1 by omega)]
   simp [Bool.and_assoc]
theorem impl_ClassesOk_eq (cs:Cs) (k:Nat) (hk:1000≤k):impl_ClassesOk.f k cs=some (csOk cs):=by
 obtain ⟨k,rfl⟩: ∃m,k=m+1:=⟨k - 1,by omega⟩;obtain ⟨k,rfl⟩: ∃m,k=m+1:=⟨k - 1,by omega⟩;obtain ⟨k,rfl⟩: ∃m,k=m+1:=⟨k - 1,by omega⟩;unfold impl_ClassesOk.f;by_cases h2:(cs.length:Int)<2
 ·rw [if_pos h2]
  simp only [impl_ClassesOk.j0,if_true]
  unfold csOk;rw [decide_eq_false (by omega),Bool.false_and]
 rw [if_neg h2];by_cases h5:(cs.length:Int)>5
 ·rw [decide_eq_true h5]
  simp only [impl_ClassesOk.j0,if_true]
  unfold csOk;rw [decide_eq_false (by omega),Bool.false_and]
 rw [decide_eq_false h5]
 have no: ∀i:Int,0≤i→i<cs.length→clsOk cs i=false→csOk cs=false:=by
  intro i h0 h1 hc
  cases hq:csOk cs with
  |false=>rfl
  |true=>rw [csOk_at hq h0 h1] at hc;cases hc
 simp only [impl_ClassesOk.j0,Bool.false_eq_true,if_false]
 rw [if_pos (by omega)];rw [show (rd_T112 cs 0).f0=sup cs 0 from rfl,show (rd_T112 cs 0).f1=flds cs 0 from rfl];by_cases r0:sup cs 0= -1
 case neg=>
  rw [if_neg r0];simp only [impl_ClassesOk.j1,if_true]
  rw [no 0 (by omega) (by omega) (by unfold clsOk;simp [r0])]
 rw [if_pos r0];by_cases f0:flds cs 0=[]
 case neg=>
  have:(((flds cs 0).length:Int) !=0)=true:=by
   cases hq:flds cs 0 with
   |nil=>exact absurd hq f0
   |cons x t=>simp;omega
  rw [this];simp only [impl_ClassesOk.j1,if_true]
  rw [no 0 (by omega) (by omega) (by unfold clsOk;simp [f0])]
 rw [show (((flds cs 0).length:Int) !=0)=false by rw [f0];rfl];simp only [impl_ClassesOk.j1,Bool.false_eq_true,if_false]
 rw [if_pos (by omega)];rw [show (rd_T112 cs 1).f0=sup cs 1 from rfl,show (rd_T112 cs 1).f1=flds cs 1 from rfl];have n1: ¬(sup cs 1=0∧flds cs 1=[1])→csOk cs=false:=fun z=>no 1 (by omega) (by omega) (by unfold clsOk;rw [if_neg (by omega),if_pos rfl,decide_eq_false z,Bool.and_false])
 by_cases r1:sup cs 1=0
 case neg=>
  rw [if_neg r1];simp only [impl_ClassesOk.j2,if_true]
  rw [n1 (fun z=>r1 z.1)]
 rw [if_pos r1];by_cases l1:((flds cs 1).length:Int)=1
 case neg=>
  rw [if_neg l1];simp only [impl_ClassesOk.j2,if_true]
  rw [n1 (fun z=>l1 (by rw [z.2];rfl))]
 rw [if_pos l1,if_pos (by omega)];obtain ⟨x,hx⟩:=List.length_eq_one_iff.1 (show (flds cs 1).length=1 by omega);by_cases e1:x=1
 case neg=>
  rw [show (rd (flds cs 1) 0 !=1)=true by rw [hx];simp [rd,e1]];simp only [impl_ClassesOk.j2,if_true]
  rw [n1 (fun z=>e1 (by rw [hx] at z;simpa using z.2))]
 rw [show (rd (flds cs 1) 0 !=1)=false by rw [hx];simp [rd,e1]];simp only [impl_ClassesOk.j2,Bool.false_eq_true,if_false]
 have:=impl_ClassesOk_l0 cs (by omega) cs.length 0 (by omega) (by omega) k (by omega)
 rw [show ((0:Nat):Int)=0 from rfl,List.drop_zero] at this;rw [this]
 congr 1
 unfold csOk;rw [decide_eq_true (show 2≤cs.length∧cs.length≤5 by omega),Bool.true_and,Bool.eq_iff_iff];simp only [List.all_eq_true,List.mem_range]
 refine forall_congr' fun i=>forall_congr' fun hi=>?_
 unfold clsQ clsOk;simp only [Bool.and_eq_true,Bool.or_eq_true,decide_eq_true_eq]
 by_cases i0:(i:Int)=0
 ·rw [i0,if_pos rfl,decide_eq_true_eq,r0,f0];simp
 by_cases i1:(i:Int)=1
 ·rw [i1,if_neg (by omega),if_pos rfl,decide_eq_true_eq,r1,hx,e1];simp
 rw [if_neg i0,if_neg i1,decide_eq_true_eq]
 constructor
 ·rintro ⟨h1 | h1, h3, h4⟩
  ·omega
  ·exact ⟨h4,h1,h3⟩
 ·rintro ⟨h4, h1, h3⟩
  exact ⟨Or.inr h1,h3,h4⟩
theorem leInts_l0 (xs:List Int) (hl:xs.length≤1048576) (d:Nat): ∀(k i:Nat),i+d=xs.length→d<k→laws_leInts.l0 k xs xs i=some true:=by
 induction d with
 |zero=>
  intro k i hi hk;obtain ⟨k,rfl⟩: ∃m,k=m+1:=⟨k - 1,by omega⟩;rw [laws_leInts.l0,if_neg (by omega)]
 |succ d ih=>
  intro k i hi hk;obtain ⟨k,rfl⟩: ∃m,k=m+1:=⟨k - 1,by omega⟩;rw [laws_leInts.l0,if_pos (by omega),if_pos (by omega),if_pos (by omega),if_pos rfl,wrap_inc (n:=1048577) (by omega) (by omega) (by omega)];have:=ih k (i+1) (by omega) (by omega)
  rw [show ((i+1:Nat):Int)=(i:Int)+1 by omega] at this;exact this
theorem leInts_self (xs:List Int) (hl:xs.length≤1048576) (k:Nat) (hk:1048578≤k):laws_leInts.f k xs xs=some true:=by
 unfold laws_leInts.f;rw [if_pos rfl];exact leInts_l0 xs hl xs.length k 0 (by omega) (by omega)
theorem leMem_l0 (ws:List Int) (y t o:Int) (cs:List Bool) (hl:cs.length≤1048576) (d:Nat): ∀(k i:Nat),i+d=cs.length→d<k→laws_leMem.l0 k i ws y t o cs ws y t o cs=some true:=by
 induction d with
 |zero=>
  intro k i hi hk;obtain ⟨k,rfl⟩: ∃m,k=m+1:=⟨k - 1,by omega⟩;rw [laws_leMem.l0,if_neg (by omega)]
 |succ d ih=>
  intro k i hi hk;obtain ⟨k,rfl⟩: ∃m,k=m+1:=⟨k - 1,by omega⟩;rw [laws_leMem.l0,if_pos (by omega),if_pos (by omega),if_pos (by omega),if_neg (by simp),wrap_inc (n:=1048577) (by omega) (by omega) (by omega)];have:=ih k (i+1) (by omega) (by omega)
  rw [show ((i+1:Nat):Int)=(i:Int)+1 by omega] at this;exact this
theorem leMem_at (ws:List Int) (y t o:Int) (cs:List Bool) (hw:ws.length≤1048576) (hl:cs.length≤1048576) (k:Nat) (hk:1048580≤k):laws_leMem.f k ws y t o cs ws y t o cs=some true:=by
 unfold laws_leMem.f;rw [leInts_self ws hw k (by omega),Option.bind_some,if_pos rfl,if_pos rfl,if_pos rfl,if_pos rfl];obtain ⟨k,rfl⟩: ∃m,k=m+1:=⟨k - 1,by omega⟩;rw [laws_leMem.j0,if_neg (by simp)];exact leMem_l0 ws y t o cs hl cs.length k 0 (by omega) (by omega)
theorem mem_map1 (W:List Int) (v:Int):v∈W.map (· +1)↔v - 1∈W:=by
 rw [List.mem_map]
 constructor
 ·rintro ⟨a,ha,rfl⟩;rw [show a+1 - 1=a by omega];exact ha
 ·intro h;exact ⟨v - 1,h,by omega⟩
theorem map1_sorted {W:List Int} (h:W.Pairwise (· < ·)):(W.map (· +1)).Pairwise (· < ·):=by
  rw [List.pairwise_map];exact h.imp (fun hab=>by omega)
theorem has_eq {cs:Cs} {ws W:List Int} (hw:Wlk cs ws W) (m:Mm) (hm:m.begins=W.map (· +1)) (v:Int): ∀q,300≤q→memory_has.f q m v=some (decide (v - 1∈W)):=by
 intro q hq;have hl:=hw.len;obtain ⟨p,_,h,_,_⟩:=search_eq (map1_sorted hw.srt) (by rw [List.length_map];omega) v;unfold memory_has.f;rw [hm,h q (by rw [List.length_map];omega),Option.bind_some];simp only [mem_map1]
theorem wlk_range {cs:Cs} {ws W:List Int} (hw:Wlk cs ws W) {x:Int} (hx:x∈W):0≤x∧x<ws.length:=by
  obtain ⟨e,h1,h2,h3,_⟩:=hw.mem x hx;omega
theorem lead_eq {cs:Cs} {ws W:List Int} (hw:Wlk cs ws W) (hn:ws.length≤1048576) (v:Int):spec_l21Lead.f (startsL W ws.length) v=some (decide (v=0)||decide (v - 1∈W)):=by
 unfold spec_l21Lead.f;by_cases c0:v=0
 ·rw [if_pos c0,decide_eq_true c0];rfl
 rw [if_neg c0,spec_l6In_eq,startsL_len,decide_eq_false c0,Bool.false_or];simp only [Option.bind_some,decide_eq_true_eq]
 by_cases c1:1≤v∧v≤(ws.length:Int)
 ·rw [if_pos c1,wrap64_of (n:=v - 1) (by omega) (by omega),if_pos (by omega),if_pos (by omega),startsL_at W ws.length (by omega) (by omega)]
 ·rw [if_neg c1,decide_eq_false (fun hv=>c1 (by have:=wlk_range hw hv;omega))]
theorem word_eq {cs:Cs} {ws:List Int} {y t o:Int} {cards:List Bool} (hb:Bnd cs ws y t o cards) {W:List Int} (hw:Wlk cs ws W) (m:Mm) (hm:m=⟨ws,y,t,o,cards,allF cs,W.map (· +1)⟩)
  {x hd cnt c:Int} (h0:0≤x) (hhd:hd=1∨hd=2) (hcn:0≤cnt) (hsz:x+hd+cnt≤ws.length) (hfi:thing_first.f m (x+1)=some (x+hd)) (hle: ∀k,0≤k→k<cnt→thing_leads.f m (x+1) k=some (ldB cs c k))
  (R:List Bool) (hR:R=refsL cs c hd (hd+cnt)) {k:Int} (k0:0≤k) (k1:k<cnt):
  ∃b,(∀q,300≤q→wordAt q m (x+1) k=some b)∧∀κ:Nat,spec_l21Thing.l0 (κ+2) (startsL W ws.length) x R (hd+k) ws y t o cards=if b=true then spec_l21Thing.l0 κ (startsL W ws.length) x R (hd+k+1) ws y t o cards else some false:=by
 have n0:=hb.n0;have n1:=hb.n1;have y0:=hb.y0;have y1:=hb.y1;have cd:=hb.cd;have hRl:(R.length:Int)=hd+cnt:=by rw [hR];unfold refsL;rw [List.length_map,List.length_range];omega
 have hRk:rdOf false R (hd+k)=ldB cs c k:=by rw [hR,refsL_at cs c hd (hd+cnt) (by omega) (by omega) (by omega),show hd+k - hd=k by omega]
 obtain ⟨v,hv⟩: ∃v,v=rd ws (x+(hd+k)):=⟨_,rfl⟩;have hmw:m.words=ws:=by rw [hm]
 have hA: ∀q,wordAt q m (x+1) k=if ldB cs c k=true then (if v=0 then some true else (memory_has.f q m v).bind fun h=>if h=true then cardOk m (x+1) v (x+(hd+k)) else some false) else impl_isWord.f v:=fun q=>by
  unfold wordAt;rw [hfi,Option.bind_some,hmw,if_pos (by omega),hle k k0 k1,Option.bind_some,show x+hd+k=x+(hd+k) by omega,←hv]
 have w1:wrap64 (x+(hd+k))=x+(hd+k):=wrap64_of (by omega) (by omega)
 have w2:wrap64 (hd+k+1)=hd+k+1:=wrap64_of (by omega) (by omega)
 have hB: ∀κ:Nat,spec_l21Thing.l0 (κ+2) (startsL W ws.length) x R (hd+k) ws y t o cards=if ldB cs c k=true then spec_l21Thing.j1 (κ+1) (startsL W ws.length) x R (hd+k) v (!(decide (v=0)||decide (v - 1∈W))) ws y t o cards else spec_l21Thing.j1 (κ+1) (startsL W ws.length) x R (hd+k) v (!(decide (-128≤v∧v≤127))) ws y t o cards:=fun κ=>by
  rw [spec_l21Thing.l0,if_pos (by omega),w1,if_pos (by omega),if_pos (by omega),if_pos (by omega),hRk,←hv,lead_eq hw (by omega)];simp only [Option.bind_some]
  by_cases c0:ldB cs c k=true
  ·rw [if_pos c0, if_pos c0]
   cases (decide (v=0)||decide (v - 1∈W))<;>rfl
  ·rw [if_neg c0, if_neg c0]
   unfold spec_l1Word.f;rw [spec_l6In_eq];rfl
 have hJ: ∀(κ:Nat) (bad:Bool),spec_l21Thing.j1 (κ+1) (startsL W ws.length) x R (hd+k) v bad ws y t o cards=if bad=true then some false else (if ldB cs c k=true then (if x≥y then (if 1≤v∧v≤y then (if rdOf false cards ((x+(hd+k) - y)/4)=true then spec_l21Thing.l0 κ (startsL W ws.length) x R (hd+k+1) ws y t o cards else some false) else spec_l21Thing.l0 κ (startsL W ws.length) x R (hd+k+1) ws y t o cards) else spec_l21Thing.l0 κ (startsL W ws.length) x R (hd+k+1) ws y t o cards) else spec_l21Thing.l0 κ (startsL W ws.length) x R (hd+k+1) ws y t o cards):=fun κ bad=>by
  rw [spec_l21Thing.j1,w2,w1]
  cases bad with
  |true=>rw [if_pos rfl,if_pos rfl]
  | false =>
   simp only [Bool.false_eq_true,if_false]
   rw [if_pos (show 0≤hd+k by omega),if_pos (show hd+k<(R.length:Int) by omega),hRk];by_cases c0:ldB cs c k=true
   ·rw [if_pos c0, if_pos c0]
    by_cases c1:x≥y
    ·rw [if_pos c1, if_pos c1, spec_l6In_eq]
     simp only [Option.bind_some,decide_eq_true_eq]
     by_cases c2:1≤v∧v≤y
     ·rw [if_pos c2,if_pos c2,wrap64_of (n:=x+(hd+k) - y) (by omega) (by omega),Int.tdiv_eq_ediv_of_nonneg (by omega),wrap64_of (n:=(x+(hd+k) - y)/4) (by omega) (by omega),if_pos (by omega),if_pos (by omega)]
     ·rw [if_neg c2,if_neg c2]
    ·rw [if_neg c1,if_neg c1]
   ·rw [if_neg c0,if_neg c0]
 by_cases c0:ldB cs c k=true
 case neg=>
  refine ⟨decide (-128≤v∧v≤127),fun q hq=>?_,fun κ=>?_⟩
  ·rw [hA, if_neg c0]
   unfold impl_isWord.f;by_cases z:v≥ -128
   ·rw [if_pos z];simp [show -128≤v from z]
   ·rw [if_neg z];simp [show¬ -128≤v from z]
  ·rw [hB, if_neg c0, hJ, if_neg c0]
   cases decide (-128≤v∧v≤127)<;>rfl
 case pos=>
 by_cases c1:v=0
 ·refine ⟨true, fun q hq => by rw [hA, if_pos c0, if_pos c1], fun κ => ?_⟩
  rw [hB,if_pos c0,hJ,decide_eq_true c1,if_pos c0];rw [if_neg (by simp),if_pos rfl];by_cases c2:x≥y
  ·rw [if_pos c2,if_neg (by omega)]
  ·rw [if_neg c2]
 have hq0:=has_eq hw m (by rw [hm]) v;by_cases c2:v - 1∈W
 case neg=>
  refine ⟨false,fun q hq=>by rw [hA,if_pos c0,if_neg c1,hq0 q hq,decide_eq_false c2];rfl,fun κ=>?_⟩;rw [hB,if_pos c0,hJ,decide_eq_false c1,decide_eq_false c2];rfl
 case pos=>
 have hvr:=wlk_range hw c2
 have hA2: ∀q,300≤q→wordAt q m (x+1) k=cardOk m (x+1) v (x+(hd+k)):=fun q hq=>by
  rw [hA,if_pos c0,if_neg c1,hq0 q hq,decide_eq_true c2];rfl
 have hB2: ∀κ:Nat,spec_l21Thing.l0 (κ+2) (startsL W ws.length) x R (hd+k) ws y t o cards=(if x≥y then (if 1≤v∧v≤y then (if rdOf false cards ((x+(hd+k) - y)/4)=true then spec_l21Thing.l0 κ (startsL W ws.length) x R (hd+k+1) ws y t o cards else some false) else spec_l21Thing.l0 κ (startsL W ws.length) x R (hd+k+1) ws y t o cards) else spec_l21Thing.l0 κ (startsL W ws.length) x R (hd+k+1) ws y t o cards):=fun κ=>by
  rw [hB,if_pos c0,hJ,decide_eq_true c2,if_pos c0];rw [if_neg (by simp)]
 have hC:cardOk m (x+1) v (x+(hd+k))=if x≥y then (if 1≤v∧v≤y then some (rdOf false cards ((x+(hd+k) - y)/4)) else some true) else some true:=by
  unfold cardOk;rw [hm];show (if x+1>y then (if v>y then some true else (if 0≤wrap64 (Int.tdiv (wrap64 (x+(hd+k) - y)) 4)∧wrap64 (Int.tdiv (wrap64 (x+(hd+k) - y)) 4)<(cards.length:Int) then some (rdOf false cards (wrap64 (Int.tdiv (wrap64 (x+(hd+k) - y)) 4))) else none)) else some true)=_
  by_cases z1:x≥y
  ·rw [if_pos (show x + 1 > y by omega), if_pos z1]
   by_cases z2:v>y
   ·rw [if_pos z2,if_neg (by omega)]
   ·rw [if_neg z2,if_pos (show 1≤v∧v≤y by omega),wrap64_of (n:=x+(hd+k) - y) (by omega) (by omega),Int.tdiv_eq_ediv_of_nonneg (by omega),wrap64_of (n:=(x+(hd+k) - y)/4) (by omega) (by omega),if_pos (by omega)]
  ·rw [if_neg (show¬x+1>y by omega),if_neg z1]
 by_cases z1:x≥y
 ·by_cases z2 : 1 ≤ v ∧ v ≤ y
  ·refine ⟨rdOf false cards ((x+(hd+k) - y)/4),fun q hq=>by rw [hA2 q hq,hC,if_pos z1,if_pos z2],fun κ=>by rw [hB2,if_pos z1,if_pos z2]⟩
  ·exact ⟨true,fun q hq=>by rw [hA2 q hq,hC,if_pos z1,if_neg z2],fun κ=>by rw [hB2,if_pos z1,if_neg z2,if_pos rfl]⟩
 ·exact ⟨true,fun q hq=>by rw [hA2 q hq,hC,if_neg z1],fun κ=>by rw [hB2,if_neg z1,if_pos rfl]⟩
theorem thing_eq {cs:Cs} {ws:List Int} {y t o:Int} {cards:List Bool} (hb:Bnd cs ws y t o cards) {W:List Int} (hw:Wlk cs ws W) (m:Mm) (hm:m=⟨ws,y,t,o,cards,allF cs,W.map (· +1)⟩) {x:Int} (hx:x∈W):
  ∃b,(∀q,300≤q→wordsOk.f q m (x+1)=some b)∧∀k,200≤k→spec_l21Thing.f k cs ws y t o cards (startsL W ws.length) x=some b:=by
 obtain ⟨c,hd,cnt,hc,h0,hhd,hcn,hcn8,hsz,hco,hfi,hhe,hl21,hle,hcc⟩:=thing_facts hb hw m hm hx;have n0:=hb.n0;have n1:=hb.n1;have y0:=hb.y0;have y1:=hb.y1
 have key: ∀d:Nat,∀k:Int,0≤k→k+d=cnt→∃b,(∀q,300≤q→∀j:Nat,d+1≤j→wordsOk.l q m (x+1) cnt j k=some b)∧∀κ:Nat,2*d+1≤κ→spec_l21Thing.l0 κ (startsL W ws.length) x (refsL cs c hd (hd+cnt)) (hd+k) ws y t o cards=some b:=by
  intro d
  induction d with
  | zero =>
   intro k k0 kd;refine ⟨true,fun q hq j hj=>?_,fun κ hκ=>?_⟩
   ·obtain ⟨j, rfl⟩ : ∃ i, j = i + 1 := ⟨j - 1, by omega⟩
    rw [wordsOk.l,if_neg (by omega)]
   ·obtain ⟨κ, rfl⟩ : ∃ i, κ = i + 1 := ⟨κ - 1, by omega⟩
    have hRl:((refsL cs c hd (hd+cnt)).length:Int)=hd+cnt:=by unfold refsL;rw [List.length_map,List.length_range];omega
    rw [spec_l21Thing.l0,if_neg (by omega)]
  | succ d ih =>
   intro k k0 kd;obtain ⟨b,hb1,hb2⟩:=word_eq hb hw m hm h0 hhd hcn hsz hfi hle _ rfl k0 (show k<cnt by omega);obtain ⟨b',h1,h2⟩:=ih (k+1) (by omega) (by omega)
   cases b with
   | true =>
    refine ⟨b',fun q hq j hj=>?_,fun κ hκ=>?_⟩
    ·obtain ⟨j, rfl⟩ : ∃ i, j = i + 1 := ⟨j - 1, by omega⟩
     rw [wordsOk.l,if_pos (by omega),hb1 q hq,Option.bind_some,if_pos rfl];exact h1 q hq j (by omega)
    ·obtain ⟨κ, rfl⟩ : ∃ i, κ = i + 2 := ⟨κ - 2, by omega⟩
     rw [hb2 κ,if_pos rfl,show hd+k+1=hd+(k+1) by omega];exact h2 κ (by omega)
   | false =>
    refine ⟨false,fun q hq j hj=>?_,fun κ hκ=>?_⟩
    ·obtain ⟨j, rfl⟩ : ∃ i, j = i + 1 := ⟨j - 1, by omega⟩
     rw [wordsOk.l,if_pos (by omega),hb1 q hq,Option.bind_some,if_neg (by simp)]
    ·obtain ⟨κ, rfl⟩ : ∃ i, κ = i + 2 := ⟨κ - 2, by omega⟩
     rw [hb2 κ,if_neg (by simp)]
 obtain ⟨b,h1,h2⟩:=key cnt.toNat 0 (by omega) (by omega);refine ⟨b,fun q hq=>?_,fun k hk=>?_⟩
 ·unfold wordsOk.f
  rw [hco,Option.bind_some,if_pos (by omega)];exact h1 q hq _ (by omega)
 ·unfold spec_l21Thing.f spec_l21Refs.f
  rw [hl21 k (by omega)];simp only [Option.bind_some]
  rw [if_pos (by omega),if_pos (by omega),if_pos h0,if_pos (by omega),←hc,hhe];simp only [Option.bind_some]
  have hr:=refs_l0 (cs:=cs) hb.ok (c:=c) (hd:=hd) (s:=(hd+cnt).toNat) (by omega) hhd (by rcases hcc with z|z|z;exact Or.inl z;exact Or.inr (Or.inl z);exact Or.inr (Or.inr ⟨z.1,z.2.1,z.2.2.1,by omega⟩)) cnt.toNat k hd.toNat (List.replicate (hd+cnt).toNat false) (by omega) (by omega) (by omega) (by simp) (fun i hi=>by
   rw [decide_eq_false (show¬(hd≤(i:Int)∧i<hd.toNat) by omega)]
   simp [List.getD_eq_getElem?_getD,hi])
  rw [show ((hd.toNat:Nat):Int)=hd by omega] at hr;rw [hr];simp only [Option.bind_some]
  rw [if_pos (by omega),if_pos (by omega)];have:=h2 k (by omega)
  rw [show hd+0=hd by omega,show ((hd+cnt).toNat:Int)=hd+cnt by omega] at*;exact this
theorem all_drop_iff (l:List Int) (T:Nat):(l.drop T).all (· ==0)=true↔∀j:Nat,T≤j→j<l.length→l.getD j 0=0:=by
 rw [List.all_eq_true]
 constructor
 ·intro h j h1 h2
  have hm:l[j]∈l.drop T:=by
   rw [List.mem_iff_getElem];refine ⟨j - T,by rw [List.length_drop];omega,?_⟩;simp only [List.getElem_drop,show T+(j - T)=j by omega]
  have:=h _ hm
  rw [List.getD_eq_getElem?_getD,List.getElem?_eq_getElem h2]
  simpa using this
 ·intro h x hx
  obtain ⟨i,hi,rfl⟩:=List.getElem_of_mem hx;rw [List.length_drop] at hi;have:=h (T+i) (by omega) (by omega)
  rw [List.getD_eq_getElem?_getD,List.getElem?_eq_getElem (by omega)] at this;rw [List.getElem_drop]
  simpa using this
def Zr (ws:List Int) (y t o:Int) (i:Nat):Prop:=((t≤i∧(i:Int)≤y - 1)∨(i:Int)≥o)→ws.getD i 0=0
theorem bounds_l0 {ws:List Int} {y t o:Int} {cards:List Bool} (hn:ws.length≤1048576) (hy:0≤y) (hy2:y≤40) (d:Nat): ∀(k i:Nat),i+d=ws.length→d<k→∃b,spec_l21Bounds.l0 k ws.length i ws y t o cards=some b∧(b=true↔∀j:Nat,i≤j→j<ws.length→Zr ws y t o j):=by
 induction d with
 |zero=>
  intro k i hi hk;obtain ⟨k,rfl⟩: ∃m,k=m+1:=⟨k - 1,by omega⟩;refine ⟨true,by rw [spec_l21Bounds.l0,if_neg (by omega)],by simp only [true_iff];intro j h1 h2;omega⟩
 | succ d ih =>
  intro k i hi hk;obtain ⟨k,rfl⟩: ∃m,k=m+1:=⟨k - 1,by omega⟩;have hlt:i<ws.length:=by omega
  obtain ⟨b,h1,h2⟩:=ih k (i+1) (by omega) (by omega);rw [show ((i+1:Nat):Int)=wrap64 ((i:Int)+1) by rw [wrap_inc (n:=1048577) (by omega) (by omega) (by omega)];omega] at h1;have w:wrap64 (y - 1)=y - 1:=wrap64_of (by omega) (by omega)
  by_cases z:Zr ws y t o i
  ·refine ⟨b, ?_, h2.trans ⟨fun h j h3 h4 => ?_, fun h j h3 h4 => h j (by omega) h4⟩⟩
   ·rw [spec_l21Bounds.l0, if_pos (by omega), spec_l6In_eq, w]
    simp only [Option.bind_some,decide_eq_true_eq]
    by_cases c1:t≤(i:Int)∧(i:Int)≤y - 1
    ·rw [if_pos c1, if_pos (by omega), if_pos (by omega), rd_cast, if_pos (z (Or.inl c1))]
     exact h1
    ·rw [if_neg c1]
     by_cases c2:(i:Int)≥o
     ·rw [if_pos c2, if_pos (by omega), if_pos (by omega), rd_cast, if_pos (z (Or.inr c2))]
      exact h1
     ·rw [if_neg c2]
      exact h1
   ·rcases Nat.eq_or_lt_of_le h3 with q | q
    ·subst q;exact z
    ·exact h j (by omega) h4
  ·refine ⟨false, ?_, by constructor; intro h; simp at h; intro h; exact absurd (h i (Nat.le_refl _) hlt) z⟩
   have z2:((t≤(i:Int)∧(i:Int)≤y - 1)∨(i:Int)≥o)∧¬ws.getD i 0=0:=by
    unfold Zr at z;exact ⟨Classical.byContradiction fun q=>z (fun p=>absurd p q),fun q=>z (fun _=>q)⟩
   rw [spec_l21Bounds.l0,if_pos (by omega),spec_l6In_eq,w];simp only [Option.bind_some,decide_eq_true_eq]
   by_cases c1:t≤(i:Int)∧(i:Int)≤y - 1
   ·rw [if_pos c1,if_pos (by omega),if_pos (by omega),rd_cast,if_neg z2.2]
   ·rw [if_neg c1,if_pos (z2.1.resolve_left c1),if_pos (by omega),if_pos (by omega),rd_cast,if_neg z2.2]
theorem bounds_eq {cs:Cs} (hf:fewF cs) (hok:csOk cs=true) {ws:List Int} {y t o:Int} {cards:List Bool} (hn:ws.length≤1048576) (hc:cards.length≤1048576):
    ∃p,impl_partsOk.f ws y t o cards=some p∧(∀k,4000000≤k→spec_l21Bounds.f k cs ws y t o cards=some p)∧(p=true→Bnd cs ws y t o cards):=by
  have bad: ∀k,1≤k→spec_l21Bounds.j0 k ws.length true ws y t o cards=some false:=fun k hk=>by
    obtain ⟨k,rfl⟩: ∃m,k=m+1:=⟨k - 1,by omega⟩;rw [spec_l21Bounds.j0,if_pos rfl]
  have hp:impl_partsOk.f ws y t o cards=some (pOk ws y t o cards 0&&pOk ws y t o cards 1&&pOk ws y t o cards 2&&pOk ws y t o cards 3&&pOk ws y t o cards 4&&pOk ws y t o cards 5&&pOk ws y t o cards 6):=by
    unfold impl_partsOk.f;rw [if_pos (by omega)]
  rw [hp]
  have hs: ∀k,4000000≤k→spec_l21Bounds.f k cs ws y t o cards=if 0≤y∧y≤40 then (if 14≤wrap64 ((ws.length:Int) - y)∧wrap64 ((ws.length:Int) - y)≤120 then (if 0≤t∧t≤y then (if y≤o∧o≤ws.length then spec_l21Bounds.j0 k ws.length ((cards.length:Int) !=cardsN (wrap64 ((ws.length:Int) - y))) ws y t o cards else some false) else some false) else some false) else some false:=fun k hk=>by
    unfold spec_l21Bounds.f;rw [spec_ClassesOk_eq hf k (by omega),hok];simp only [Option.bind_some,if_true,spec_l6In_eq,decide_eq_true_eq,bad k (by omega)]
    rfl
  by_cases c0:0≤y∧y≤40
  case neg=>
    refine ⟨_,rfl,fun k hk=>?_,fun h=>?_⟩
    · rw [hs k hk,if_neg c0,show pOk ws y t o cards 0=false from decide_eq_false c0];rfl
    · rw [show pOk ws y t o cards 0=false from decide_eq_false c0] at h;simp at h
  case pos=>
  have e0:pOk ws y t o cards 0=true:=decide_eq_true c0
  have w:wrap64 ((ws.length:Int) - y)=(ws.length:Int) - y:=wrap64_of (by omega) (by omega)
  rw [e0,Bool.true_and];by_cases c1:14≤wrap64 ((ws.length:Int) - y)∧wrap64 ((ws.length:Int) - y)≤120
  case neg=>
    refine ⟨_,rfl,fun k hk=>?_,fun h=>?_⟩
    · rw [hs k hk,if_pos c0,if_neg c1,show pOk ws y t o cards 1=false from decide_eq_false c1];rfl
    · rw [show pOk ws y t o cards 1=false from decide_eq_false c1] at h;simp at h
  case pos=>
  have e1:pOk ws y t o cards 1=true:=decide_eq_true c1
  rw [e1,Bool.true_and];by_cases c2:0≤t∧t≤y
  case neg=>
    refine ⟨_,rfl,fun k hk=>?_,fun h=>?_⟩
    · rw [hs k hk,if_pos c0,if_pos c1,if_neg c2,show pOk ws y t o cards 2=false from decide_eq_false c2];rfl
    · rw [show pOk ws y t o cards 2=false from decide_eq_false c2] at h;simp at h
  case pos=>
  have e2:pOk ws y t o cards 2=true:=decide_eq_true c2
  rw [e2,Bool.true_and];by_cases c3:y≤o∧o≤(ws.length:Int)
  case neg=>
    refine ⟨_,rfl,fun k hk=>?_,fun h=>?_⟩
    · rw [hs k hk,if_pos c0,if_pos c1,if_pos c2,if_neg c3,show pOk ws y t o cards 3=false from decide_eq_false c3];rfl
    · rw [show pOk ws y t o cards 3=false from decide_eq_false c3] at h;simp at h
  case pos=>
  have e3:pOk ws y t o cards 3=true:=decide_eq_true c3
  rw [e3,Bool.true_and];by_cases c4:(cards.length:Int)=cardsN (wrap64 ((ws.length:Int) - y))
  case neg=>
    have e4:pOk ws y t o cards 4=false:=beq_eq_false_iff_ne.mpr c4
    refine ⟨_,rfl,fun k hk=>?_,fun h=>?_⟩
    · rw [hs k hk,if_pos c0,if_pos c1,if_pos c2,if_pos c3,bne_iff_ne.mpr c4,bad k (by omega),e4];rfl
    · rw [e4] at h;simp at h
  case pos=>
  have e4:pOk ws y t o cards 4=true:=beq_iff_eq.mpr c4
  rw [e4,Bool.true_and]
  have h5:pOk ws y t o cards 5=true↔∀j:Nat,t≤j→(j:Int)≤y - 1→ws.getD j 0=0:=by
    show ((ws.take y.toNat).drop t.toNat).all (· ==0)=true↔_
    rw [all_drop_iff]
    constructor
    · intro h j h1 h2
      have:=h j (by omega) (by rw [List.length_take];omega)
      rw [List.getD_eq_getElem?_getD,List.getElem?_take,if_pos (by omega)] at this;rw [List.getD_eq_getElem?_getD];exact this
    · intro h j h1 h2
      rw [List.length_take] at h2;rw [List.getD_eq_getElem?_getD,List.getElem?_take,if_pos (by omega)];have:=h j (by omega) (by omega)
      rw [List.getD_eq_getElem?_getD] at this;exact this
  have h6:pOk ws y t o cards 6=true↔∀j:Nat,o≤j→j<ws.length→ws.getD j 0=0:=by
    show ((ws.drop y.toNat).drop (o - y).toNat).all (· ==0)=true↔_
    rw [List.drop_drop,all_drop_iff]
    constructor
    · intro h j h1 h2;exact h j (by omega) h2
    · intro h j h1 h2;exact h j (by omega) h2
  obtain ⟨b,hb1,hb2⟩:=bounds_l0 (ws:=ws) (y:=y) (t:=t) (o:=o) (cards:=cards) hn c0.1 c0.2 ws.length (ws.length+1) 0 (by omega) (by omega)
  have eb:(pOk ws y t o cards 5&&pOk ws y t o cards 6)=b:=by
    rw [Bool.eq_iff_iff,Bool.and_eq_true,h5,h6,hb2]
    constructor
    · rintro ⟨q1, q2⟩ j _ hj z
      rcases z with z|z
      · exact q1 j z.1 z.2
      · exact q2 j z hj
    · intro q
      exact ⟨fun j h1 h2=>q j (by omega) (by omega) (Or.inl ⟨h1,h2⟩),fun j h1 h2=>q j (by omega) h2 (Or.inr h1)⟩
  refine ⟨_,rfl,fun k hk=>?_,fun _=>?_⟩
  · rw [hs k hk, if_pos c0, if_pos c1, if_pos c2, if_pos c3, eb]
    obtain ⟨k,rfl⟩: ∃m,k=m+1:=⟨k - 1,by omega⟩;have e:((cards.length:Int) !=cardsN (wrap64 ((ws.length:Int) - y)))=false:=by rw [←c4];simp
    rw [e,spec_l21Bounds.j0,if_neg (by simp)];exact at_rounds (g:=fun k=>spec_l21Bounds.l0 k ws.length 0 ws y t o cards) (fun k=>(spec_l21Bounds.mono_l k).2 _ _ _ _ _ _ _) (show ws.length+1≤k by omega) hb1
  · have w4 : cardsN (wrap64 ((ws.length : Int) - y)) = ((ws.length : Int) - y + 3) / 4 := by
      rw [w] at c1 ⊢;unfold cardsN;rw [wrap64_of (n:=(ws.length:Int) - y+4) (by omega) (by omega),wrap64_of (n:=(ws.length:Int) - y+4 - 1) (by omega) (by omega),Int.tdiv_eq_ediv_of_nonneg (by omega),show (ws.length:Int) - y+4 - 1=(ws.length:Int) - y+3 by omega,wrap64_of (by omega) (by omega)]
    rw [w] at c1;exact ⟨hok,c0.1,c0.2,c1.1,c1.2,c2.1,c2.2,c3.1,c3.2,by rw [c4,w4]⟩
theorem things_eq {cs:Cs} {ws:List Int} {y t o:Int} {cards:List Bool} (hb:Bnd cs ws y t o cards) {W:List Int} (hw:Wlk cs ws W) (m:Mm) (hm:m=⟨ws,y,t,o,cards,allF cs,W.map (· +1)⟩):
  ∃b,(∀q,300≤q→thingsOk q m (W.map (· +1))=some b)∧∀k,500≤k→spec_MemOk.l0 k cs W (startsL W ws.length) 0 ws y t o cards=some b:=by
 have hlen:=hw.len
 have key: ∀d i:Nat,i+d=W.length→∃b,(∀q,300≤q→thingsOk q m ((W.drop i).map (· +1))=some b)∧∀k,d+201≤k→spec_MemOk.l0 k cs W (startsL W ws.length) i ws y t o cards=some b:=by
  intro d
  induction d with
  |zero=>
   intro i hi;refine ⟨true,fun q _=>by rw [List.drop_eq_nil_of_le (by omega)];rfl,fun k hk=>?_⟩;obtain ⟨k,rfl⟩: ∃m,k=m+1:=⟨k - 1,by omega⟩;rw [spec_MemOk.l0,if_neg (by omega)]
  | succ d ih =>
   intro i hi;have hlt:i<W.length:=by omega
   obtain ⟨b,h1,h2⟩:=thing_eq hb hw m hm (List.getElem_mem hlt);obtain ⟨b',h3,h4⟩:=ih (i+1) (by omega);have hd:(W.drop i).map (· +1)=(W[i]+1)::(W.drop (i+1)).map (· +1):=by rw [List.drop_eq_getElem_cons hlt];rfl
   refine ⟨if b=true then b' else false,fun q hq=>?_,fun k hk=>?_⟩
   ·rw [hd, thingsOk, h1 q hq, Option.bind_some]
    cases b with
    |true=>exact h3 q hq
    |false=>rfl
   ·obtain ⟨k, rfl⟩ : ∃ m, k = m + 1 := ⟨k - 1, by omega⟩
    rw [spec_MemOk.l0,if_pos (by omega),if_pos (by omega),rd_mem hlt,h2 k (by omega),Option.bind_some,wrap_inc (n:=1048577) (by omega) (by omega) (by omega)]
    cases b with
    |true=>have:=h4 k (by omega);rw [show ((i+1:Nat):Int)=(i:Int)+1 by omega] at this;exact this
    |false=>rfl
 obtain ⟨b,h1,h2⟩:=key W.length 0 (by omega);exact ⟨b,h1,fun k hk=>h2 k (by omega)⟩
def Prt (cs:Cs) (ws:List Int) (y t o:Int) (W:List Int):Prop:= ∀x∈W,(0≤x∧0<mstep ws (allF cs) t x∧mstep ws (allF cs) t x≤t - x)∨(y≤x∧0<mstep ws (allF cs) o x∧mstep ws (allF cs) o x≤o - x)
theorem open_eq2 {cs:Cs} (hf:fewF cs) {ws:List Int} {y t o:Int} {cards:List Bool} (hn:ws.length≤1048576) (hc:cards.length≤1048576):
  ∃r:Option Mm,(∀k,4000000≤k→mopen k k cs ws y t o cards=some r)∧(∀k,4000000≤k→spec_MemOk.f k cs ws y t o cards=some r.isSome)∧
   (∀m,r=some m→∃W,Bnd cs ws y t o cards∧Wlk cs ws W∧m=⟨ws,y,t,o,cards,allF cs,W.map (· +1)⟩∧(∀k,4000000≤k→spec_l21Walk.f k cs ws y t o cards=some (W,true))∧Prt cs ws y t o W∧W=(pw ws (allF cs) t t.toNat 0).1++(pw ws (allF cs) o (o - y).toNat y).1∧∀q,300≤q→thingsOk q m (W.map (· +1))=some true):=by
 cases hok:csOk cs with
 | false =>
  refine ⟨none,fun k hk=>?_,fun k hk=>?_,fun m hm=>by cases hm⟩
  ·unfold mopen
   rw [impl_ClassesOk_eq cs k (by omega),hok];rfl
  ·unfold spec_MemOk.f spec_l21Bounds.f
   rw [spec_ClassesOk_eq hf k (by omega),hok];obtain ⟨k,rfl⟩: ∃m,k=m+1:=⟨k - 1,by omega⟩;rw [Option.bind_some,if_neg (by simp),spec_l21Bounds.j0,if_pos rfl];rfl
 |true=>
 obtain ⟨p,hp1,hp2,hp3⟩:=bounds_eq (cs:=cs) (y:=y) (t:=t) (o:=o) hf hok hn hc
 cases p with
 | false =>
  refine ⟨none,fun k hk=>?_,fun k hk=>?_,fun m hm=>by cases hm⟩
  ·unfold mopen
   rw [impl_ClassesOk_eq cs k (by omega),hok,Option.bind_some,if_pos rfl,hp1];rfl
  ·unfold spec_MemOk.f
   rw [hp2 k hk];rfl
 |true=>
 have hb:=hp3 rfl;have n0:=hb.n0;have n1:=hb.n1;have y0:=hb.y0;have y1:=hb.y1;have t0:=hb.t0;have t1:=hb.t1;have o0:=hb.o0;have o1:=hb.o1;obtain ⟨r1,h1⟩: ∃r1,r1=pw ws (allF cs) t t.toNat 0:=⟨_,rfl⟩;obtain ⟨r2,h2⟩: ∃r2,r2=pw ws (allF cs) o (o - y).toNat y:=⟨_,rfl⟩;have l1:=pw_len ws (allF cs) t t.toNat 0;have l2:=pw_len ws (allF cs) o (o - y).toNat y;have m1:=pw_mem ws (allF cs) t t.toNat 0;have m2:=pw_mem ws (allF cs) o (o - y).toNat y;have s1:=pw_sorted ws (allF cs) t t.toNat 0;have s2:=pw_sorted ws (allF cs) o (o - y).toNat y;rw [←h1] at l1 m1 s1;rw [←h2] at l2 m2 s2
 have hM: ∀k,4000000≤k→mopen k k cs ws y t o cards=if r1.2=true then (if r2.2=true then (thingsOk k ⟨ws,y,t,o,cards,allF cs,(r1.1++r2.1).map (· +1)⟩ ((r1.1++r2.1).map (· +1))).bind fun ok=>if ok=true then some (some ⟨ws,y,t,o,cards,allF cs,(r1.1++r2.1).map (· +1)⟩) else some none else some none) else some none:=fun k hk=>by
  unfold mopen
  rw [impl_ClassesOk_eq cs k (by omega),hok,Option.bind_some,if_pos rfl,hp1,Option.bind_some,if_pos rfl,allFields_eq hok k (by omega),Option.bind_some,if_pos ⟨allF_all hok,hn,hc⟩,
   pw_mwalk ws (allF cs) t t.toNat 0 [] k (by omega) (by omega),←h1,Option.bind_some]
  by_cases c:r1.2=true
  ·rw [if_pos c, if_pos c, if_pos (by simp; omega), pw_mwalk ws (allF cs) o (o - y).toNat y _ k (by omega) (by omega), ← h2, Option.bind_some]
   by_cases c2:r2.2=true
   ·rw [if_pos c2, if_pos c2, if_pos (by simp; omega)]
    simp only [List.nil_append,←List.map_append]
   ·rw [if_neg c2,if_neg c2]
  ·rw [if_neg c,if_neg c]
 have hW: ∀k,4000000≤k→spec_l21Walk.f k cs ws y t o cards=some (r1.1++r2.1,r1.2&&r2.2):=fun k hk=>by
  unfold spec_l21Walk.f spec_l21Part.f;rw [pw_part hok hn (by omega) t.toNat 0 [] k (by omega) (by omega) (by omega) (by simp;omega),←h1,Option.bind_some,pw_part hok hn (by omega) (o - y).toNat y [] k (by omega) (by omega) (by omega) (by simp;omega),←h2,Option.bind_some];simp only [List.nil_append]
  rw [if_pos (by omega),Option.bind_some]
  cases r1.2 with
  |true=>rw [if_pos rfl];rfl
  |false=>rw [if_neg (by simp)];rfl
 have hS: ∀k,4000000≤k→spec_MemOk.f k cs ws y t o cards=if (r1.2&&r2.2)=true then (spec_l21Starts.f k ws.length (r1.1++r2.1)).bind fun S=>spec_MemOk.l0 k cs (r1.1++r2.1) S 0 ws y t o cards else some false:=fun k hk=>by
  unfold spec_MemOk.f;rw [hp2 k hk,Option.bind_some,if_pos rfl,hW k hk,Option.bind_some]
 cases c1:r1.2 with
 |false=>
  refine ⟨none,fun k hk=>by rw [hM k hk,c1];rfl,fun k hk=>by rw [hS k hk,c1];rfl,fun m hm=>by cases hm⟩
 |true=>
 cases c2:r2.2 with
 |false=>
  refine ⟨none,fun k hk=>by rw [hM k hk,c1,c2];rfl,fun k hk=>by rw [hS k hk,c1,c2];rfl,fun m hm=>by cases hm⟩
 |true=>
 have hw:Wlk cs ws (r1.1++r2.1):=by
  refine ⟨fun x hx=>?_,?_,by rw [List.length_append];omega⟩
  ·rcases List.mem_append.mp hx with z | z
   ·have:=m1 x z;exact ⟨t,by omega,by omega,by omega,by omega,by omega⟩
   ·have:=m2 x z;exact ⟨o,by omega,by omega,by omega,by omega,by omega⟩
  ·rw [List.pairwise_append]
   exact ⟨s1,s2,fun a ha b hb'=>by have:=m1 a ha;have:=m2 b hb';omega⟩
 obtain ⟨b,b1,b2⟩:=things_eq hb hw _ rfl;have hst: ∀k,4000000≤k→spec_l21Starts.f k ws.length (r1.1++r2.1)=some (startsL (r1.1++r2.1) ws.length):=fun k hk=>starts_eq (fun x hx=>wlk_range hw hx) (by have:=hw.len;omega) (by omega) k (by omega)
 cases b with
 |false=>
  refine ⟨none,fun k hk=>by rw [hM k hk,if_pos c1,if_pos c2,b1 k (by omega)];rfl,fun k hk=>by rw [hS k hk,c1,c2,if_pos (show (true&&true)=true from rfl),hst k hk,Option.bind_some,b2 k (by omega)];rfl,fun m hm=>by cases hm⟩
 |true=>
  refine ⟨some ⟨ws,y,t,o,cards,allF cs,(r1.1++r2.1).map (· +1)⟩,fun k hk=>by rw [hM k hk,if_pos c1,if_pos c2,b1 k (by omega)];rfl,fun k hk=>by rw [hS k hk,c1,c2,if_pos (show (true&&true)=true from rfl),hst k hk,Option.bind_some,b2 k (by omega)];rfl,fun m hm=>?_⟩;obtain rfl:=Option.some.inj hm;refine ⟨r1.1++r2.1,hb,hw,rfl,fun k hk=>by rw [hW k hk,c1,c2];rfl,fun x hx=>?_,by rw [h1,h2],fun q hq=>b1 q hq⟩;rcases List.mem_append.mp hx with z|z
  ·have:=m1 x z;exact .inl ⟨by omega,this.2.2.1,this.2.2.2⟩
  ·have:=m2 x z;exact .inr ⟨by omega,this.2.2.1,this.2.2.2⟩
theorem mstep_up {ws:List Int} {F:List (List Int)} {e e' x:Int} (h:0<mstep ws F e x) (he:e≤e'):mstep ws F e' x=mstep ws F e x:=by
 unfold mstep at h ⊢;by_cases c0:rd ws x<0
 ·rw [if_pos c0] at h ⊢
  rw [if_pos c0];by_cases c1:x+1<e
  ·rw [if_pos c1] at h ⊢
   rw [if_pos (by omega)];by_cases c2:measN F (rd ws x) (rd ws (x+1))≤e - x
   ·rw [if_pos c2,if_pos (by omega)]
   ·rw [if_neg c2] at h;omega
  ·rw [if_neg c1] at h;omega
 ·rw [if_neg c0] at h ⊢
  rw [if_neg c0];by_cases c2:measN F (rd ws x) 0≤e - x
  ·rw [if_pos c2,if_pos (by omega)]
  ·rw [if_neg c2] at h;omega
theorem walk_parts {cs:Cs} {ws:List Int} {y t o:Int} {cards:List Bool} (hb:Bnd cs ws y t o cards) {W:List Int} (hk: ∀k,4000000≤k→spec_l21Walk.f k cs ws y t o cards=some (W,true)):
  W=(pw ws (allF cs) t t.toNat 0).1++(pw ws (allF cs) o (o - y).toNat y).1∧(pw ws (allF cs) t t.toNat 0).2=true∧(pw ws (allF cs) o (o - y).toNat y).2=true:=by
 have n0:=hb.n0;have n1:=hb.n1;have y0:=hb.y0;have y1:=hb.y1;have t0:=hb.t0;have t1:=hb.t1;have o0:=hb.o0;have o1:=hb.o1;have l1:=pw_len ws (allF cs) t t.toNat 0;have l2:=pw_len ws (allF cs) o (o - y).toNat y;have h:=hk 4000000 (Nat.le_refl _);unfold spec_l21Walk.f spec_l21Part.f at h;rw [pw_part hb.ok (by omega) (by omega) t.toNat 0 [] 4000000 (by omega) (by omega) (by omega) (by simp;omega),Option.bind_some,pw_part hb.ok (by omega) (by omega) (o - y).toNat y [] 4000000 (by omega) (by omega) (by omega) (by simp;omega),Option.bind_some] at h;simp only [List.nil_append] at h;rw [if_pos (by omega),Option.bind_some] at h
 cases c:(pw ws (allF cs) t t.toNat 0).2 with
 |true=>
  rw [c,if_pos rfl] at h;have h2:=Option.some.inj h;exact ⟨(Prod.mk.inj h2).1.symm,rfl,(Prod.mk.inj h2).2⟩
 |false=>
  rw [c,if_neg (by simp)] at h;have h2:=Option.some.inj h;exact absurd (Prod.mk.inj h2).2 (by simp)
theorem size_in {cs:Cs} {ws:List Int} {y t o:Int} {cards:List Bool} (hb:Bnd cs ws y t o cards) {W:List Int} (hw:Wlk cs ws W) (m:Mm) (hm:m=⟨ws,y,t,o,cards,allF cs,W.map (· +1)⟩)
  (h1: ∀k,4000000≤k→mopen k k cs ws y t o cards=some (some m)) {x:Int} (hx:x∈W):0<mstep ws (allF cs) ws.length x∧mstep ws (allF cs) ws.length x≤ws.length∧∀k,4000000≤k→impl_MemSize.f k cs ws y t o cards (x+1)=some (mstep ws (allF cs) ws.length x):=by
 have n0:=hb.n0;have n1:=hb.n1;have y0:=hb.y0;have y1:=hb.y1;have hh:=has_eq hw m (by rw [hm]) (x+1);have hxr:=wlk_range hw hx;obtain ⟨cc,hd,cnt,hcc,h0,hhd,hcn,hcn8,hsz,hco,hfi,hhe,hl21,_⟩:=thing_facts hb hw m hm hx;have h20:=hl21 4000000 (by omega);rw [l21Size_eq hb.ok (by omega) h0 (Int.le_refl _) 4000000 (by omega),if_pos hxr.2] at h20;have h20:=Option.some.inj h20;have hl:=mwalk_lt ws (allF cs) ws.length x;refine ⟨by omega,by omega,fun k hk2=>?_⟩;unfold impl_MemSize.f;rw [h1 k hk2,Option.bind_some];show ((memory_has.f k m (x+1)).bind fun b=>if b=true then thing_size.f m (x+1) else some 0)=_
 rw [hh k (by omega),Option.bind_some,show x+1 - 1=x by omega,decide_eq_true hx,if_pos rfl];unfold thing_size.f;rw [hfi,Option.bind_some,hco,Option.bind_some,show x+hd - (x+1 - 1)+cnt=hd+cnt by omega,wrap64_of (by omega) (by omega),h20]
def hdN (c:Int):Int:=if c<0 then 2 else 1
def szN (cs:Cs) (ws:List Int) (x:Int):Int:=mstep ws (allF cs) ws.length x
def VOk (cs:Cs) (W:List Int) (c k v:Int):Prop:=if ldB cs c k=true then v=0∨v - 1∈W else -128≤v∧v≤127
def Wd (cs:Cs) (ws:List Int) (y:Int) (cards:List Bool) (W:List Int) (x i k:Int):Prop:=
  VOk cs W (rd ws x) k (rd ws i)∧(ldB cs (rd ws x) k=true→x≥y→1≤rd ws i→rd ws i≤y→rdOf false cards ((i - y)/4)=true)
structure Opn (cs:Cs) (ws:List Int) (y t o:Int) (cards:List Bool) (W:List Int):Prop where
 b:Bnd cs ws y t o cards
 z: ∀j:Nat,j<ws.length→Zr ws y t o j
 w1:(pw ws (allF cs) t t.toNat 0).2=true
 w2:(pw ws (allF cs) o (o - y).toNat y).2=true
 w:W=(pw ws (allF cs) t t.toNat 0).1++(pw ws (allF cs) o (o - y).toNat y).1
 d: ∀x∈W,∀k,0≤k→k<szN cs ws x - hdN (rd ws x)→Wd cs ws y cards W x (x+hdN (rd ws x)+k) k
def mmOf (cs:Cs) (ws:List Int) (y t o:Int) (cards:List Bool) (W:List Int):Mm:=⟨ws,y,t,o,cards,allF cs,W.map (· +1)⟩
theorem parts_zero {cs:Cs} {ws:List Int} {y t o:Int} {cards:List Bool} (hb:Bnd cs ws y t o cards):impl_partsOk.f ws y t o cards=some true↔∀j:Nat,j<ws.length→Zr ws y t o j:=by
 have n0:=hb.n0;have n1:=hb.n1;have y0:=hb.y0;have y1:=hb.y1;have t0:=hb.t0;have t1:=hb.t1;have o0:=hb.o0;have o1:=hb.o1;have cd:=hb.cd;have w:wrap64 ((ws.length:Int) - y)=(ws.length:Int) - y:=wrap64_of (by omega) (by omega)
 have w4:cardsN (wrap64 ((ws.length:Int) - y))=((ws.length:Int) - y+3)/4:=by
  rw [w];unfold cardsN;rw [wrap64_of (n:=(ws.length:Int) - y+4) (by omega) (by omega),wrap64_of (n:=(ws.length:Int) - y+4 - 1) (by omega) (by omega),Int.tdiv_eq_ediv_of_nonneg (by omega),show (ws.length:Int) - y+4 - 1=(ws.length:Int) - y+3 by omega,wrap64_of (by omega) (by omega)]
 have e0:pOk ws y t o cards 0=true:=decide_eq_true ⟨y0,y1⟩
 have e1:pOk ws y t o cards 1=true:=decide_eq_true (by rw [w];exact ⟨n0,n1⟩)
 have e2:pOk ws y t o cards 2=true:=decide_eq_true ⟨t0,t1⟩
 have e3:pOk ws y t o cards 3=true:=decide_eq_true ⟨o0,o1⟩
 have e4:pOk ws y t o cards 4=true:=beq_iff_eq.mpr (by rw [w4];exact cd)
 have h5:pOk ws y t o cards 5=true↔∀j:Nat,t≤j→(j:Int)≤y - 1→ws.getD j 0=0:=by
  show ((ws.take y.toNat).drop t.toNat).all (· ==0)=true↔_
  rw [all_drop_iff]
  constructor
  ·intro h j h1 h2
   have:=h j (by omega) (by rw [List.length_take];omega)
   rw [List.getD_eq_getElem?_getD,List.getElem?_take,if_pos (by omega)] at this;rw [List.getD_eq_getElem?_getD];exact this
  ·intro h j h1 h2
   rw [List.length_take] at h2;rw [List.getD_eq_getElem?_getD,List.getElem?_take,if_pos (by omega)];have:=h j (by omega) (by omega)
   rw [List.getD_eq_getElem?_getD] at this;exact this
 have h6:pOk ws y t o cards 6=true↔∀j:Nat,o≤j→j<ws.length→ws.getD j 0=0:=by
  show ((ws.drop y.toNat).drop (o - y).toNat).all (· ==0)=true↔_
  rw [List.drop_drop,all_drop_iff]
  constructor
  ·intro h j h1 h2;exact h j (by omega) h2
  ·intro h j h1 h2;exact h j (by omega) h2
 unfold impl_partsOk.f;rw [if_pos (by omega),e0,e1,e2,e3,e4];simp only [Bool.true_and,Option.some.injEq,Bool.and_eq_true]
 rw [h5,h6]
 constructor
 ·rintro ⟨q1, q2⟩ j hj z
  rcases z with z|z
  ·exact q1 j z.1 z.2
  ·exact q2 j z hj
 ·intro q
  exact ⟨fun j h1 h2=>q j (by omega) (Or.inl ⟨h1,h2⟩),fun j h1 h2=>q j h2 (Or.inr h1)⟩
theorem thing_know {cs:Cs} {ws:List Int} {y t o:Int} {cards:List Bool} (hb:Bnd cs ws y t o cards) {W:List Int} (hw:Wlk cs ws W) {x:Int} (hx:x∈W):
  0≤x∧x<ws.length∧0≤szN cs ws x - hdN (rd ws x)∧szN cs ws x - hdN (rd ws x)≤8∧x+szN cs ws x≤ws.length∧(hdN (rd ws x)=1∨hdN (rd ws x)=2)∧(rd ws x<0→hdN (rd ws x)=2)∧
   thing_count.f (mmOf cs ws y t o cards W) (x+1)=some (szN cs ws x - hdN (rd ws x))∧thing_first.f (mmOf cs ws y t o cards W) (x+1)=some (x+hdN (rd ws x))∧
   (∀k,0≤k→k<szN cs ws x - hdN (rd ws x)→thing_leads.f (mmOf cs ws y t o cards W) (x+1) k=some (ldB cs (rd ws x) k))∧∀k,20≤k→spec_l21Size.f k cs ws x ws.length=some (szN cs ws x):=by
 have n0:=hb.n0;have n1:=hb.n1;have y0:=hb.y0;have y1:=hb.y1;obtain ⟨cc,hd,cnt,hcc,h0,hhd,hcn,hcn8,hsz,hco,hfi,hhe,hl21,hle,hcl⟩:=thing_facts (t:=t) (o:=o) (cards:=cards) hb hw _ rfl hx;have hxr:=wlk_range hw hx;have h20:=hl21 20 (Nat.le_refl _);rw [l21Size_eq hb.ok (by omega) h0 (Int.le_refl _) 20 (by omega),if_pos hxr.2] at h20;have h20:=Option.some.inj h20
 have hh:hdN (rd ws x)=hd:=by
  unfold spec_l21Head.f at hhe;unfold hdN;rw [←hcc];by_cases c:cc<0
  ·rw [if_pos c] at hhe ⊢;exact Option.some.inj hhe
  ·rw [if_neg c] at hhe ⊢;exact Option.some.inj hhe
 have hs:szN cs ws x - hdN (rd ws x)=cnt:=by unfold szN;rw [hh,h20];omega
 have hs2:szN cs ws x=hd+cnt:=by unfold szN;exact h20
 rw [hs,hh];refine ⟨h0,hxr.2,hcn,hcn8,by omega,hhd,fun hn=>?_,hco,hfi,fun k k0 k1=>by rw [←hcc];exact hle k k0 k1,fun k hk=>by rw [hs2];exact hl21 k hk⟩;rw [←hh];unfold hdN;rw [if_pos hn]
theorem word_iff {cs:Cs} {ws:List Int} {y t o:Int} {cards:List Bool} (hb:Bnd cs ws y t o cards) {W:List Int} (hw:Wlk cs ws W) {x:Int} (hx:x∈W) {k:Int} (k0:0≤k) (k1:k<szN cs ws x - hdN (rd ws x)) (q:Nat) (hq:300≤q):
  wordAt q (mmOf cs ws y t o cards W) (x+1) k=some true↔Wd cs ws y cards W x (x+hdN (rd ws x)+k) k:=by
 have n0:=hb.n0;have n1:=hb.n1;have y0:=hb.y0;have y1:=hb.y1;have cd:=hb.cd;obtain ⟨h0,h1,h2,h3,h4,h5,_,hco,hfi,hle,_⟩:=thing_know (t:=t) (o:=o) (cards:=cards) hb hw hx;obtain ⟨i,hi⟩: ∃i,i=x+hdN (rd ws x)+k:=⟨_,rfl⟩;obtain ⟨v,hv⟩: ∃v,v=rd ws i:=⟨_,rfl⟩;rw [←hi];have hi0:x<i∧i<ws.length:=by omega
 have hA:wordAt q (mmOf cs ws y t o cards W) (x+1) k=if ldB cs (rd ws x) k=true then (if v=0 then some true else (memory_has.f q (mmOf cs ws y t o cards W) v).bind fun h=>if h=true then cardOk (mmOf cs ws y t o cards W) (x+1) v i else some false) else impl_isWord.f v:=by
  unfold wordAt;rw [hfi,Option.bind_some,show (mmOf cs ws y t o cards W).words=ws from rfl,←hi,if_pos (by omega),hle k k0 k1,Option.bind_some,←hv]
 rw [hA];unfold Wd VOk;rw [←hv];by_cases l:ldB cs (rd ws x) k=true
 case neg=>
  rw [if_neg l,if_neg l]
  have hw8:impl_isWord.f v=some (decide (-128≤v∧v≤127)):=by
   unfold impl_isWord.f;by_cases q:v≥ -128
   ·rw [if_pos q];simp [show -128≤v from q]
   ·rw [if_neg q];simp [show¬ -128≤v from q]
  rw [hw8,Option.some.injEq,decide_eq_true_iff];exact ⟨fun h=>⟨h,fun e=>absurd e l⟩,fun h=>h.1⟩
 case pos=>
 rw [if_pos l,if_pos l];by_cases v0:v=0
 ·rw [if_pos v0]
  exact ⟨fun _=>⟨.inl v0,fun _ _ e=>by omega⟩,fun _=>rfl⟩
 rw [if_neg v0,has_eq hw _ rfl v q hq,Option.bind_some];by_cases vw:v - 1∈W
 case neg=>
  rw [decide_eq_false vw];exact ⟨fun h=>by simp at h,fun h=>absurd (h.1.resolve_left v0) vw⟩
 case pos=>
 have hvr:=wlk_range hw vw;rw [decide_eq_true vw,if_pos rfl]
 have hC:cardOk (mmOf cs ws y t o cards W) (x+1) v i=if x≥y then (if 1≤v∧v≤y then some (rdOf false cards ((i - y)/4)) else some true) else some true:=by
  unfold cardOk;show (if x+1>y then (if v>y then some true else (if 0≤wrap64 (Int.tdiv (wrap64 (i - y)) 4)∧wrap64 (Int.tdiv (wrap64 (i - y)) 4)<(cards.length:Int) then some (rdOf false cards (wrap64 (Int.tdiv (wrap64 (i - y)) 4))) else none)) else some true)=_
  by_cases z1:x≥y
  ·rw [if_pos (show x + 1 > y by omega), if_pos z1]
   by_cases z2:v>y
   ·rw [if_pos z2,if_neg (by omega)]
   ·rw [if_neg z2,if_pos (show 1≤v∧v≤y by omega),wrap64_of (n:=i - y) (by omega) (by omega),Int.tdiv_eq_ediv_of_nonneg (by omega),wrap64_of (n:=(i - y)/4) (by omega) (by omega),if_pos (by omega)]
  ·rw [if_neg (show¬x+1>y by omega),if_neg z1]
 rw [hC];by_cases z1:x≥y
 ·rw [if_pos z1]
  by_cases z2:1≤v∧v≤y
  ·rw [if_pos z2, Option.some.injEq]
   exact ⟨fun h=>⟨.inr vw,fun _ _ _ _=>h⟩,fun h=>h.2 l z1 z2.1 z2.2⟩
  ·rw [if_neg z2]
   exact ⟨fun _=>⟨.inr vw,fun _ _ a b=>absurd ⟨a,b⟩ z2⟩,fun _=>rfl⟩
 ·rw [if_neg z1]
  exact ⟨fun _=>⟨.inr vw,fun _ a=>absurd a z1⟩,fun _=>rfl⟩
theorem wordsl_iff (q:Nat) (m:Mm) (a n:Int): ∀(d:Nat) (k:Int) (j:Nat),0≤k→k+d=n→d+1≤j→(wordsOk.l q m a n j k=some true↔∀i,k≤i→i<n→wordAt q m a i=some true):=by
 intro d
 induction d with
 |zero=>
  intro k j h0 hd hj;obtain ⟨j,rfl⟩: ∃i,j=i+1:=⟨j - 1,by omega⟩;rw [wordsOk.l,if_neg (by omega)];exact ⟨fun _ i h1 h2=>by omega,fun _=>rfl⟩
 | succ d ih =>
  intro k j h0 hd hj;obtain ⟨j,rfl⟩: ∃i,j=i+1:=⟨j - 1,by omega⟩;rw [wordsOk.l,if_pos (by omega)];have ih:=ih (k+1) j (by omega) (by omega) (by omega)
  constructor
  ·intro h i h1 h2
   obtain ⟨b,hb,h⟩:=Option.bind_eq_some_iff.mp h
   cases b with
   |false=>simp at h
   |true=>
    rw [if_pos rfl] at h;rcases Int.lt_or_eq_of_le h1 with z|z
    ·exact ih.mp h i (by omega) h2
    ·rw [←z];exact hb
  ·intro h
   rw [h k (by omega) (by omega),Option.bind_some,if_pos rfl];exact ih.mpr (fun i h1 h2=>h i (by omega) h2)
theorem things_iff (q:Nat) (m:Mm): ∀L:List Int,thingsOk q m L=some true↔∀a∈L,wordsOk.f q m a=some true
 |[]=>by simp [thingsOk]
 | a :: r => by
  have ih:=things_iff q m r;rw [thingsOk]
  constructor
  ·intro h z hz
   obtain ⟨b,hb,h⟩:=Option.bind_eq_some_iff.mp h
   cases b with
   |false=>simp at h
   |true=>
    rw [if_pos rfl] at h;rcases List.mem_cons.mp hz with rfl|hz
    ·exact hb
    ·exact ih.mp h z hz
  ·intro h
   rw [h a (List.mem_cons_self ..),Option.bind_some,if_pos rfl];exact ih.mpr (fun z hz=>h z (List.mem_cons_of_mem _ hz))
theorem allw_iff {cs:Cs} {ws:List Int} {y t o:Int} {cards:List Bool} (hb:Bnd cs ws y t o cards) {W:List Int} (hw:Wlk cs ws W) (q:Nat) (hq:300≤q):
  thingsOk q (mmOf cs ws y t o cards W) (W.map (· +1))=some true↔∀x∈W,∀k,0≤k→k<szN cs ws x - hdN (rd ws x)→Wd cs ws y cards W x (x+hdN (rd ws x)+k) k:=by
 rw [things_iff]
 have one: ∀x∈W,wordsOk.f q (mmOf cs ws y t o cards W) (x+1)=some true↔∀k,0≤k→k<szN cs ws x - hdN (rd ws x)→Wd cs ws y cards W x (x+hdN (rd ws x)+k) k:=fun x hx=>by
  obtain ⟨h0,h1,h2,h3,h4,h5,_,hco,hfi,hle,_⟩:=thing_know (t:=t) (o:=o) (cards:=cards) hb hw hx;unfold wordsOk.f;rw [hco,Option.bind_some,if_pos (by omega),wordsl_iff q _ (x+1) _ (szN cs ws x - hdN (rd ws x)).toNat 0 _ (by omega) (by omega) (by omega)];exact ⟨fun h k k0 k1=>(word_iff hb hw hx k0 k1 q hq).mp (h k k0 k1),fun h k k0 k1=>(word_iff hb hw hx k0 k1 q hq).mpr (h k k0 k1)⟩
 constructor
 ·intro h x hx
  exact (one x hx).mp (h (x+1) (List.mem_map.mpr ⟨x,hx,rfl⟩))
 ·intro h a ha
  obtain ⟨x,hx,rfl⟩:=List.mem_map.mp ha;exact (one x hx).mpr (h x hx)
theorem Opn.wlk {cs:Cs} {ws:List Int} {y t o:Int} {cards:List Bool} {W:List Int} (h:Opn cs ws y t o cards W):Wlk cs ws W:=by
 have n0:=h.b.n0;have n1:=h.b.n1;have y0:=h.b.y0;have y1:=h.b.y1;have t0:=h.b.t0;have t1:=h.b.t1;have o0:=h.b.o0;have o1:=h.b.o1;have l1:=pw_len ws (allF cs) t t.toNat 0;have l2:=pw_len ws (allF cs) o (o - y).toNat y;have m1:=pw_mem ws (allF cs) t t.toNat 0;have m2:=pw_mem ws (allF cs) o (o - y).toNat y;have s1:=pw_sorted ws (allF cs) t t.toNat 0;have s2:=pw_sorted ws (allF cs) o (o - y).toNat y;rw [h.w];refine ⟨fun x hx=>?_,?_,by rw [List.length_append];omega⟩
 ·rcases List.mem_append.mp hx with z | z
  ·have:=m1 x z;exact ⟨t,by omega,by omega,by omega,by omega,by omega⟩
  ·have:=m2 x z;exact ⟨o,by omega,by omega,by omega,by omega,by omega⟩
 ·rw [List.pairwise_append]
  exact ⟨s1,s2,fun a ha b hb'=>by have:=m1 a ha;have:=m2 b hb';omega⟩
theorem Opn.to {cs:Cs} {ws:List Int} {y t o:Int} {cards:List Bool} {W:List Int} (h:Opn cs ws y t o cards W): ∀k,4000000≤k→mopen k k cs ws y t o cards=some (some (mmOf cs ws y t o cards W)):=by
 intro k hk;have n0:=h.b.n0;have n1:=h.b.n1;have y0:=h.b.y0;have y1:=h.b.y1;have t0:=h.b.t0;have t1:=h.b.t1;have o0:=h.b.o0;have o1:=h.b.o1;have cd:=h.b.cd;have l1:=pw_len ws (allF cs) t t.toNat 0;have l2:=pw_len ws (allF cs) o (o - y).toNat y;have hp:impl_partsOk.f ws y t o cards=some true:=(parts_zero h.b).mpr h.z
 have ht:=(allw_iff h.b h.wlk k (by omega)).mpr h.d;unfold mopen
 rw [impl_ClassesOk_eq cs k (by omega),h.b.ok,Option.bind_some,if_pos rfl,hp,Option.bind_some,if_pos rfl,allFields_eq h.b.ok k (by omega),Option.bind_some,if_pos ⟨allF_all h.b.ok,by omega,by omega⟩,
  pw_mwalk ws (allF cs) t t.toNat 0 [] k (by omega) (by omega),Option.bind_some,if_pos h.w1,if_pos (by simp;omega),pw_mwalk ws (allF cs) o (o - y).toNat y _ k (by omega) (by omega),Option.bind_some,if_pos h.w2,if_pos (by simp;omega)]
 simp only [List.nil_append,←List.map_append]
 rw [←h.w];unfold mmOf at ht ⊢;rw [ht];rfl
theorem opn_of {cs:Cs} (hf:fewF cs) {ws:List Int} {y t o:Int} {cards:List Bool} (hn:ws.length≤1048576) (hc:cards.length≤1048576):
  ∃r:Option Mm,(∀k,4000000≤k→mopen k k cs ws y t o cards=some r)∧(∀k,4000000≤k→spec_MemOk.f k cs ws y t o cards=some r.isSome)∧∀m,r=some m→∃W,Opn cs ws y t o cards W∧m=mmOf cs ws y t o cards W∧(∀k,4000000≤k→spec_l21Walk.f k cs ws y t o cards=some (W,true)):=by
 obtain ⟨r,h1,h2,h3⟩:=open_eq2 (cs:=cs) hf (ws:=ws) (y:=y) (t:=t) (o:=o) (cards:=cards) hn hc;refine ⟨r,h1,h2,fun m hm=>?_⟩;obtain ⟨W,hb,hw,hm2,hk,hp,hW,ht⟩:=h3 m hm;obtain ⟨e,p1,p2⟩:=walk_parts hb hk;refine ⟨W,⟨hb,?_,p1,p2,e,?_⟩,hm2,hk⟩
 ·refine (parts_zero hb).mp ?_
  obtain ⟨p,hp1,_,_⟩:=bounds_eq (cs:=cs) (y:=y) (t:=t) (o:=o) hf hb.ok hn hc
  cases p with
  |true=>exact hp1
  |false=>
   have q:=h1 4000000 (Nat.le_refl _);unfold mopen at q;rw [impl_ClassesOk_eq cs 4000000 (by omega),hb.ok,Option.bind_some,if_pos rfl,hp1,Option.bind_some,if_neg (by simp)] at q;rw [hm] at q;simp at q
 ·have := ht 300 (Nat.le_refl _)
  rw [hm2] at this;exact (allw_iff hb hw 300 (Nat.le_refl _)).mp this
end Go.Proofs.Ytnlieahdakafbaa.Pure
namespace Go.Proofs.Ytnlieahdakafbaa.K
open Go.RowKit Go.Proofs.YtnlieahdakafbaaW.PrintWords Go.Proofs.YtnlieahdakafbaaW.PrintLast Go.Proofs.YtnlieahdakafbaaW.PrintMore
attribute [local go_sem] max2_int min2_int max_two min_two max_three min_three max_four min_four
set_option linter.unusedVariables false
set_option linter.unusedSimpArgs false
def memory_hasIn.f (q:Nat) (m:Mm) (at_ k:Int):Option Bool:=(memory_has.f q m at_).bind fun b=>if b=true then (if 0≤k then (thing_count.f m at_).bind fun n=>some (decide (k<n)) else some false) else some false
set_option maxHeartbeats 4000000 in
set_option maxRecDepth 100000 in
theorem memory_hasIn.calls (q:Nat) (g:Nat) (m:Mm) (at_ k:Int) (r:Bool) (w:World) (hm:MV w g m) (h:memory_hasIn.f q m at_ k=some r):
  Calls Try.prog 36 #[.pointer (some ⟨g,0,none⟩),.int .i64 at_,.int .i64 k] w fun e w'=>e= .returned (.bool r)∧Below w.heap.size w w':=by
 unfold memory_hasIn.f at h;obtain ⟨b,hb,h⟩:=Option.bind_eq_some_iff.mp h;have HH:=aK hb;have HM:=aK hm;clear hb hm
 cases b with
 |false=>
  have HR:=aK (Option.some.inj h);clear h;go_enter Try.func36,Try.ntmps36
  go_wp2_with (go_at_call 53;refine (memory_has.calls q g m at_ false _ HM.out HH.out).mono ?_;rintro e w' ⟨rfl,⟨nd,rfl⟩⟩)
  go_ret;exact ⟨by rw [←HR.out];rfl,by repeat (first|exact Below.refl _ _|apply below_alloc|apply pw_below_drewN|apply below_drew1)⟩
 | true =>
  rw [if_pos rfl] at h;by_cases c1:0≤k
  ·rw [if_pos c1] at h
   have d1:decide (0≤k)=true:=decide_eq_true c1
   have d2:decide (k≥0)=true:=d1
   obtain ⟨n,hn,h⟩:=Option.bind_eq_some_iff.mp h;have HN:=aK hn;have HR:=aK (Option.some.inj h);clear h hn c1;go_enter Try.func36,Try.ntmps36
   go_wp2_with fail
   go_at_call 53;refine (memory_has.calls q g m at_ true _ HM.out HH.out).mono ?_;rintro e w' ⟨rfl,⟨nd,rfl⟩⟩
   go_wp2_with fail
   go_at_call 54;refine (memory_thing.calls g at_ _).mono ?_;rintro e w2 ⟨rfl,hb2⟩;have HB:=aK (below_step (pw_below_drewN (Below.refl _ _) _) hb2:Below w.heap.size w w2);clear hb2
   go_wp2_with fail
   go_at_call 71;refine (thing_count.calls g m at_ n _ (MV_below HM.out HB.out) HN.out).mono ?_;rintro e w3 ⟨rfl,hb3⟩;go_wp2;go_ret;exact ⟨by rw [←HR.out];rfl,below_step HB.out hb3⟩
  ·rw [if_neg c1] at h
   have d1:decide (0≤k)=false:=decide_eq_false c1
   have d2:decide (k≥0)=false:=d1
   have HR:=aK (Option.some.inj h);clear h c1;go_enter Try.func36,Try.ntmps36
   go_wp2_with (go_at_call 53;refine (memory_has.calls q g m at_ true _ HM.out HH.out).mono ?_;rintro e w' ⟨rfl,⟨nd,rfl⟩⟩)
   go_ret;exact ⟨by rw [←HR.out];rfl,by repeat (first|exact Below.refl _ _|apply below_alloc|apply pw_below_drewN|apply below_drew1)⟩
def memory_put.f (q : Nat) (m : Mm) (at_ k v : Int) : Option (Bool × Mm) := (thing_first.f m at_).bind fun a => (thing_leads.f m at_ k).bind fun d =>
  if 0 ≤ a + k ∧ a + k < m.words.length ∧ m.words.length ≤ 1048576 ∧ m.cards.length ≤ 1048576 ∧ 0 ≤ m.young ∧ m.young ≤ 1048576 then
    (if d = true then
      (if v = 0 then some (true, m.setW (a + k) v)
       else (memory_has.f q m v).bind fun h => if h = true then
         (if at_ > m.young then (if v > m.young then some (true, m.setW (a + k) v)
           else (if 0≤Int.tdiv (a+k - m.young) 4∧Int.tdiv (a+k - m.young) 4<m.cards.length then
             some (true,(m.setC (Int.tdiv (a+k - m.young) 4)).setW (a+k) v) else none))
          else some (true,m.setW (a+k) v))
        else some (false,m))
     else (impl_isWord.f v).bind fun z=>if z=true then some (true,m.setW (a+k) v) else some (false,m)) else none
def putOf (k:Nat) (a2 a3 a4:Int):Option Mm→Option (List Int×Int×Int×Int×List Bool×Bool)
  |none=>some ([],0,0,0,[],false)
  |some m=>(memory_hasIn.f k m a2 a3).bind fun b=>if b=true then (memory_put.f k m a2 a3 a4).bind fun p=>if p.1=true then some (p.2.words,p.2.young,p.2.top,p.2.old,p.2.cards,true) else some ([],0,0,0,[],false) else some ([],0,0,0,[],false)
def impl_MemPut.f (k:Nat) (l0:List (S112)) (l1_0:List Int) (a1_1:Int) (a1_2:Int) (a1_3:Int) (l1_4:List Bool) (a2 a3 a4:Int):Option (List Int×Int×Int×Int×List Bool×Bool):=(mopen k k l0 l1_0 a1_1 a1_2 a1_3 l1_4).bind fun r=>putOf k a2 a3 a4 r
def memory_get.f (m:Mm) (at_ k:Int):Option Int:=(thing_first.f m at_).bind fun a=>if 0≤a+k∧a+k<m.words.length then some (rd m.words (a+k)) else none
set_option maxHeartbeats 4000000 in
set_option maxRecDepth 100000 in
theorem memory_get.calls (g:Nat) (m:Mm) (at_ k r:Int) (w:World) (hm:MV w g m) (h:memory_get.f m at_ k=some r):
  Calls Try.prog 48 #[.pointer (some ⟨g,0,none⟩),.int .i64 at_,.int .i64 k] w fun e w'=>e= .returned (.int .i64 r)∧Below w.heap.size w w':=by
 unfold memory_get.f at h;obtain ⟨a,ha,h⟩:=Option.bind_eq_some_iff.mp h;have l1:=thing_first_lt ha
 split at h
 case isFalse=>simp at h
 case isTrue h2=>
 have HFi:=aK ha;have HM1:=aK hm;have HR:=aK (Option.some.inj h);obtain ⟨j,hj⟩: ∃j,j=a+k:=⟨_,rfl⟩;have q1:IntKind.i64.wrap (a+k)=j:=by rw [hj];exact IntWalk.i64_in _ ⟨by omega,by omega⟩
 rw [←hj] at HR;obtain ⟨AW,cW,AC,cC,AF,cF,AB,cB,h0,hW,_,_,_,_⟩:=hm;have p1:=eq_true (show 0≤j by omega);have p2:=eq_true (show j<(m.words.length:Int) by omega);obtain ⟨ad,e0,hx⟩:=Kd.at_int hW j (by omega) (by omega)
 cases e0
 have g0:=(blk_cell h0 0).trans rfl;have HB:=aK (Below.refl w.heap.size w);clear ha h h0 hW h2 l1 hj;go_enter Try.func48,Try.ntmps48;go_wp2;refine sT 14 (S:=fun w'=>Aside0 (Below w.heap.size w w')∧Aside0 (MV w' g (m))∧w'.cell? (⟨g,0,none⟩)=some (.slice (some ad) m.words.length cW)∧w'.cell? (ad.add j.toNat)=some (.int .i64 (rd m.words j))) (ds:=[]) ⟨⟨below_drew1 HB.out⟩,⟨MV_below HM1.out (below_drew1 (Below.refl _ _))⟩,(by go_simp),(by go_simp)⟩ (fun hHeld=>?_);refine pS 0 7 (lA 14 1) ?_;refine pS 1 8 (lA 14 3) ?_;refine pS 2 9 (lA 14 7) ?_;refine pS 3 10 (lA 14 15) ?_;refine pS 5 12 (lA 14 47) ?_;refine pS 6 13 (lA 14 111) ?_;refine pS 9 16 (lA 14 623) ?_;refine tS 4 11 (lA 14 639) rfl rfl (by kernel_rfl) hHeld z33 ?_;refine oS 7 14 (lA 14 767) rfl rfl (fun K hK=>?_);refine gO Try.func54 #[.pointer (some ⟨g,0,none⟩),.int .i64 at_] ?_;(with_reducible refine (memory_thing.calls g at_ _).mono ?_);rintro e w3 ⟨rfl,hb3⟩;refine ⟨_,rfl,?_⟩;refine hK.out _ _ ⟨⟨below_step hHeld.1.out hb3⟩,⟨MV_below hHeld.2.1.out hb3⟩,(pw_cell_below hb3 hHeld.2.2.1),(pw_cell_below hb3 hHeld.2.2.2)⟩ (fun hHeld=>?_);clear hK K;refine nS 14 ?_;refine oS 8 15 (lA 14 1023) rfl rfl (fun K hK=>?_);refine gO Try.func72 #[thV g at_] ?_;(with_reducible refine (thing_first.calls g m at_ a _ hHeld.2.1.out HFi.out).mono ?_);rintro e w3 ⟨rfl,hb3⟩;refine ⟨_,rfl,?_⟩;refine hK.out _ _ ⟨⟨below_step hHeld.1.out hb3⟩,⟨MV_below hHeld.2.1.out hb3⟩,(pw_cell_below hb3 hHeld.2.2.1),(pw_cell_below hb3 hHeld.2.2.2)⟩ (fun hHeld=>?_);clear hK K;refine nS 15 ?_;refine pS 10 17 (lA 14 2047) ?_;refine pS 11 18 (lA 14 4095) ?_;refine tS 12 19 (lA 14 8191) rfl rfl (by kernel_rfl) hHeld z33 ?_;refine pS 13 6 (lA 14 16383) ?_;refine done_ (by kernel_rfl) ?_;go_wp2;go_ret;exact ⟨by rw [←HR.out];rfl,hHeld.1.out⟩
def getOf (k:Nat) (a2 a3:Int):Option Mm→Option (Int×Bool)
  |none=>some (0,false)
  |some m=>(memory_hasIn.f k m a2 a3).bind fun b=>if b=true then (memory_get.f m a2 a3).bind fun x=>some (x,true) else some (0,false)
def impl_MemGet.f (k:Nat) (l0:List (S112)) (l1_0:List Int) (a1_1:Int) (a1_2:Int) (a1_3:Int) (l1_4:List Bool) (a2:Int) (a3:Int):Option (Int×Bool):=(mopen k k l0 l1_0 a1_1 a1_2 a1_3 l1_4).bind fun r=>getOf k a2 a3 r
set_option maxHeartbeats 8000000 in
set_option maxRecDepth 100000 in
theorem impl_MemGet.calls (k:Nat) (A0:Option Addr) (c0:Nat) (l0:List (S112)) (A1_0:Option Addr) (c1_0:Nat) (l1_0:List Int) (a1_1:Int) (a1_2:Int) (a1_3:Int) (A1_4:Option Addr) (c1_4:Nat) (l1_4:List Bool) (a2:Int) (a3:Int) (r1:Int) (r2:Bool) (w:World) (hr0:Kd.C k112 w A0 l0.length l0) (hc0:l0.length≤c0) (hr1_0:Kd.C (Kd.int .i64) w A1_0 l1_0.length l1_0) (hc1_0:l1_0.length≤c1_0) (hr1_4:Kd.C Kd.bool w A1_4 l1_4.length l1_4) (hc1_4:l1_4.length≤c1_4) (h:impl_MemGet.f k l0 l1_0 a1_1 a1_2 a1_3 l1_4 a2 a3=some (r1,r2)):
  Calls Try.prog 15 #[.slice A0 l0.length c0,.agg #[.slice A1_0 l1_0.length c1_0,.int .i64 a1_1,.int .i64 a1_2,.int .i64 a1_3,.slice A1_4 l1_4.length c1_4],.int .i64 a2,.int .i64 a3] w fun e w'=>e= .returned (.tuple #[.int .i64 r1,.bool r2])∧Below w.heap.size w w':=by
 unfold impl_MemGet.f at h;obtain ⟨m,hm,h⟩:=Option.bind_eq_some_iff.mp h;have HM:=aK hm;have HR0:=aK hr0;have HC0:=aK hc0;have HR1:=aK hr1_0;have HC1:=aK hc1_0;have HR4:=aK hr1_4;have HC4:=aK hc1_4;have HB:=aK (below_alloc (Below.refl w.heap.size w) (.cells #[.slice A1_0 l1_0.length c1_0,.int .i64 a1_1,.int .i64 a1_2,.int .i64 a1_3,.slice A1_4 l1_4.length c1_4] 27 (0,0)));have HH:=aK h;clear hr0 hc0 hr1_0 hc1_0 hr1_4 hc1_4 h hm;go_enter Try.func15,Try.ntmps15
 go_wp2_with fail
 go_at_call 35;refine (memOpen.calls k k A0 c0 l0 A1_0 c1_0 l1_0 a1_1 a1_2 a1_3 A1_4 c1_4 l1_4 m _ (Kd.C_below HR0.out HB.out) HC0.out (Kd.C_below HR1.out HB.out) HC1.out (Kd.C_below HR4.out HB.out) HC4.out HM.out).mono ?_
 cases m with
 |none=>
  rintro e w1 ⟨rfl,hb⟩;have HB1:=aK (below_step HB.out hb);have hh:=Option.some.inj HH.out;injection hh with h1 h2;subst h1 h2;clear hb HM HH;go_wp2
  go_ret2
  exact ⟨rfl,HB1.out⟩
 | some m =>
  rintro e w1 ⟨g,rfl,hmo,hb⟩;have HB1:=aK (below_step HB.out hb);have HMO:=aK hmo;have hh:=HH.out;unfold getOf at hh;obtain ⟨b,hq,hh⟩:=Option.bind_eq_some_iff.mp hh;have HQ:=aK hq;clear hb HM HH hmo hq
  cases b with
  |false=>
   rw [if_neg (by simp)] at hh;have hh:=Option.some.inj hh;injection hh with h1 h2;subst h1 h2
   go_wp2_with (go_at_call 36;refine (memory_hasIn.calls k g m a2 a3 false _ (MO_MV HMO.out) HQ.out).mono ?_;rintro e w2 ⟨rfl,hd⟩;have HB2:=aK (below_step HB1.out hd);clear hd)
   go_ret2
   exact ⟨rfl,HB2.out⟩
  |true=>
   rw [if_pos rfl] at hh;obtain ⟨x,hx,hh⟩:=Option.bind_eq_some_iff.mp hh;have HS:=aK hx;have hh:=Option.some.inj hh;injection hh with h1 h2;subst h1 h2;clear hx
   go_wp2_with (first|(go_at_call 36;refine (memory_hasIn.calls k g m a2 a3 true _ (MO_MV HMO.out) HQ.out).mono ?_;rintro e w2 ⟨rfl,hd⟩;have HB2:=aK (below_step HB1.out hd);have HMO2:=aK (MO_below HMO.out hd);clear hd)|(go_at_call 48;refine (memory_get.calls g m a2 a3 x _ (MO_MV HMO2.out) HS.out).mono ?_;rintro e w4 ⟨rfl,hd⟩;have HB4:=aK (below_step HB2.out hd);clear hd))
   go_ret2
   exact ⟨rfl,HB4.out⟩
def walkOf:Option Mm→List Int
  |none=>[]
  |some m=>m.begins
def impl_MemWalk.f (k:Nat) (l0:List (S112)) (l1_0:List Int) (a1_1:Int) (a1_2:Int) (a1_3:Int) (l1_4:List Bool):Option (List Int):=(mopen k k l0 l1_0 a1_1 a1_2 a1_3 l1_4).bind fun r=>some (walkOf r)
set_option maxHeartbeats 8000000 in
set_option maxRecDepth 100000 in
theorem impl_MemWalk.calls (k:Nat) (A0:Option Addr) (c0:Nat) (l0:List (S112)) (A1_0:Option Addr) (c1_0:Nat) (l1_0:List Int) (a1_1:Int) (a1_2:Int) (a1_3:Int) (A1_4:Option Addr) (c1_4:Nat) (l1_4:List Bool) (r:List Int) (w:World) (hr0:Kd.C k112 w A0 l0.length l0) (hc0:l0.length≤c0) (hr1_0:Kd.C (Kd.int .i64) w A1_0 l1_0.length l1_0) (hc1_0:l1_0.length≤c1_0) (hr1_4:Kd.C Kd.bool w A1_4 l1_4.length l1_4) (hc1_4:l1_4.length≤c1_4) (h:impl_MemWalk.f k l0 l1_0 a1_1 a1_2 a1_3 l1_4=some r):
  Calls Try.prog 17 #[.slice A0 l0.length c0,.agg #[.slice A1_0 l1_0.length c1_0,.int .i64 a1_1,.int .i64 a1_2,.int .i64 a1_3,.slice A1_4 l1_4.length c1_4]] w fun e w'=> ∃v0_:Value,e= .returned (v0_)∧Kd.R (Kd.int .i64) 3 w' w.heap.size (fun _=>True) v0_ r∧Below w.heap.size w w':=by
 unfold impl_MemWalk.f at h;obtain ⟨m,hm,h⟩:=Option.bind_eq_some_iff.mp h;have HM:=aK hm;have HR0:=aK hr0;have HC0:=aK hc0;have HR1:=aK hr1_0;have HC1:=aK hc1_0;have HR4:=aK hr1_4;have HC4:=aK hc1_4;have HB:=aK (below_alloc (Below.refl w.heap.size w) (.cells #[.slice A1_0 l1_0.length c1_0,.int .i64 a1_1,.int .i64 a1_2,.int .i64 a1_3,.slice A1_4 l1_4.length c1_4] 27 (0,0)));have HH:=aK h;clear hr0 hc0 hr1_0 hc1_0 hr1_4 hc1_4 h hm;go_enter Try.func17,Try.ntmps17
 go_wp2_with fail
 go_at_call 35;refine (memOpen.calls k k A0 c0 l0 A1_0 c1_0 l1_0 a1_1 a1_2 a1_3 A1_4 c1_4 l1_4 m _ (Kd.C_below HR0.out HB.out) HC0.out (Kd.C_below HR1.out HB.out) HC1.out (Kd.C_below HR4.out HB.out) HC4.out HM.out).mono ?_
 cases m with
 |none=>
  rintro e w1 ⟨rfl,hb⟩;have HB1:=aK (below_step HB.out hb);have hh:=Option.some.inj HH.out;subst hh;clear hb HM HH;go_wp2;go_ret;exact ⟨_,rfl,Kd.R_nil _ _ _ _ _,HB1.out⟩
 |some m=>
  rintro e w1 ⟨g,rfl,hmo,hb⟩;have HB1:=aK (below_step HB.out hb);have hs:=below_size HB.out;have hh:=Option.some.inj HH.out;subst hh;obtain ⟨AW,cW,AC,cC,AF,cF,AB,cB,g0,_,_,_,_,_,rB⟩:=hmo;have k6:=(blk_cell g0 6).trans rfl;have RB:=aK (Kd.R_mono (ok':=fun _=>True) (Kd.R_lower rB hs) (fun _ _=>trivial));clear hb HM HH g0 rB hs;go_wp2;go_ret;exact ⟨_,rfl,RB.out,HB1.out⟩
def spec_MemWalk.l0:Nat→List Int→List Int→Int→Option (List Int)
  |0,_,_,_=>none
  |k+1,x5,x6,x8=>if x8<(x6.length:Int) then (if 0≤x8 then (if x5.length<17592186044416 then (spec_MemWalk.l0 k (x5++[wrap64 ((rd x6 x8)+1)]) x6 (wrap64 (x8+1))) else (none)) else (none)) else (some x5)
def spec_MemWalk.f (k:Nat) (l0:List (S112)) (l1_0:List Int) (a1_1:Int) (a1_2:Int) (a1_3:Int) (l1_4:List Bool):Option (List Int):=(some (([]:List Int):List Int)).bind fun y304=>((spec_MemOk.f k l0 l1_0 a1_1 a1_2 a1_3 l1_4).bind fun t307=>(if t307=true then ((spec_l21Walk.f k l0 l1_0 a1_1 a1_2 a1_3 l1_4).bind fun bt308=>(spec_MemWalk.l0 k y304 bt308.1 0)) else (some y304)))
end Go.Proofs.Ytnlieahdakafbaa.K
namespace Go.Proofs.Ytnlieahdakafbaa.Pure
open Go.RowKit Go.Proofs.Ytnlieahdakafbaa.K Go.Proofs.YtnlieahdakafbaaW.PrintWords Go.Proofs.YtnlieahdakafbaaW.PrintLast Go.Proofs.YtnlieahdakafbaaW.PrintMore
set_option linter.unusedVariables false
set_option linter.unusedSimpArgs false
theorem rd_set_ne {ws:List Int} {i j:Int} (v:Int) (hi:0≤i) (hj:0≤j) (h:j≠i):rd (ws.set i.toNat v) j=rd ws j:=by
  unfold rd;rw [List.getD_eq_getElem?_getD,List.getD_eq_getElem?_getD,List.getElem?_set_ne (by omega)]
theorem rd_set_eq {ws:List Int} {i:Int} (v:Int) (hi:0≤i) (h:i<ws.length):rd (ws.set i.toNat v) i=v:=by
  unfold rd;rw [List.getD_eq_getElem?_getD,List.getElem?_set_self (by omega)];rfl
theorem pw_congr {ws ws':List Int} {F:List (List Int)} {e:Int}: ∀(n:Nat) (i:Int),(∀x∈(pw ws F e n i).1,mstep ws' F e x=mstep ws F e x)→(pw ws F e n i).2=true→pw ws' F e n i=pw ws F e n i
 |0,i,_,_=>rfl
 | n + 1, i, hm, ht => by
  rw [pw] at hm ht ⊢;rw [pw];by_cases c:i<e
  ·rw [if_pos c] at hm ht ⊢
   rw [if_pos c];by_cases c2:mstep ws F e i=0
   ·rw [if_pos c2] at ht;simp at ht
   ·rw [if_neg c2] at hm ht ⊢
    have h0:=hm i (List.mem_cons_self ..);rw [h0,if_neg c2,pw_congr n (i+mstep ws F e i) (fun x hx=>hm x (List.mem_cons_of_mem _ hx)) ht]
  ·rw [if_neg c,if_neg c]
section
variable {cs:Cs} {ws:List Int} {y t o:Int} {cards:List Bool} {W:List Int}
theorem Opn.part (h:Opn cs ws y t o cards W) {x:Int} (hx:x∈W):(0≤x∧x+szN cs ws x≤t∧0<szN cs ws x∧x∈(pw ws (allF cs) t t.toNat 0).1)∨(y≤x∧x+szN cs ws x≤o∧0<szN cs ws x∧x∈(pw ws (allF cs) o (o - y).toNat y).1):=by
 have n0:=h.b.n0;have n1:=h.b.n1;have t1:=h.b.t1;have o1:=h.b.o1;have y1:=h.b.y1;rw [h.w] at hx;unfold szN;rcases List.mem_append.mp hx with z|z
 ·have m := pw_mem ws (allF cs) t t.toNat 0 x z
  rw [mstep_up m.2.2.1 (show t≤ws.length by omega)];exact .inl ⟨by omega,by omega,by omega,z⟩
 ·have m := pw_mem ws (allF cs) o (o - y).toNat y x z
  rw [mstep_up m.2.2.1 (show o≤ws.length by omega)];exact .inr ⟨by omega,by omega,by omega,z⟩
theorem Opn.know (h:Opn cs ws y t o cards W) {x:Int} (hx:x∈W):0≤x∧x<ws.length∧0≤szN cs ws x - hdN (rd ws x)∧szN cs ws x - hdN (rd ws x)≤8∧x+szN cs ws x≤ws.length∧(hdN (rd ws x)=1∨hdN (rd ws x)=2)∧(rd ws x<0→hdN (rd ws x)=2):=by
  obtain ⟨a,b,c,d,e,f,g,_⟩:=thing_know h.b h.wlk hx;exact ⟨a,b,c,d,e,f,g⟩
def InT (cs:Cs) (ws:List Int) (W:List Int) (a k:Int):Prop:=a - 1∈W∧0≤k∧k<szN cs ws (a - 1) - hdN (rd ws (a - 1))
theorem hasin_eq (h:Opn cs ws y t o cards W) (a k:Int) (f:Nat) (hf:300≤f):(InT cs ws W a k→memory_hasIn.f f (mmOf cs ws y t o cards W) a k=some true)∧(¬InT cs ws W a k→memory_hasIn.f f (mmOf cs ws y t o cards W) a k=some false):=by
 have hh:=has_eq h.wlk (mmOf cs ws y t o cards W) rfl a f hf;unfold memory_hasIn.f;rw [hh,Option.bind_some];by_cases c:a - 1∈W
 case neg=>rw [decide_eq_false c];exact ⟨fun q=>absurd q.1 c,fun _=>rfl⟩
 obtain ⟨_,_,_,_,_,_,_,hco,_⟩:=thing_know (t:=t) (o:=o) (cards:=cards) h.b h.wlk c;rw [show a - 1+1=a by omega] at hco;rw [decide_eq_true c,if_pos rfl];by_cases z0:0≤k
 ·rw [if_pos z0, hco, Option.bind_some]
  exact ⟨fun q=>by rw [decide_eq_true q.2.2],fun q=>by rw [decide_eq_false (fun e=>q ⟨c,z0,e⟩)]⟩
 ·rw [if_neg z0]
  exact ⟨fun q=>absurd q.2.1 z0,fun _=>rfl⟩
theorem get_in (h:Opn cs ws y t o cards W) {a k:Int} (hi:InT cs ws W a k) (f:Nat) (hf:4000000≤f):impl_MemGet.f f cs ws y t o cards a k=some (rd ws (a - 1+hdN (rd ws (a - 1))+k),true):=by
 obtain ⟨x0,x1,c0,c8,xe,hh,hn2,hco,hfi,_⟩:=thing_know (t:=t) (o:=o) (cards:=cards) h.b h.wlk hi.1;rw [show a - 1+1=a by omega] at hfi;have:=hi.2
 unfold impl_MemGet.f;rw [h.to f hf,Option.bind_some];unfold getOf memory_get.f
 dsimp only
 rw [(hasin_eq h a k f (by omega)).1 hi,Option.bind_some,if_pos rfl,hfi,Option.bind_some,show (mmOf cs ws y t o cards W).words=ws from rfl,if_pos (by omega)];rfl
theorem get_out (h:Opn cs ws y t o cards W) {a k:Int} (hi: ¬InT cs ws W a k) (f:Nat) (hf:4000000≤f):impl_MemGet.f f cs ws y t o cards a k=some (0,false):=by
 unfold impl_MemGet.f;rw [h.to f hf,Option.bind_some];unfold getOf
 dsimp only
 rw [(hasin_eq h a k f (by omega)).2 hi];rfl
theorem walk_imp (h:Opn cs ws y t o cards W) (f:Nat) (hf:4000000≤f):impl_MemWalk.f f cs ws y t o cards=some (W.map (· +1)):=by
  unfold impl_MemWalk.f;rw [h.to f hf,Option.bind_some];rfl
theorem ok_imp (h:Opn cs ws y t o cards W) (f:Nat) (hf:4000000≤f):impl_MemOk.f f cs ws y t o cards=some true:=by
  unfold impl_MemOk.f;rw [h.to f hf,Option.bind_some];rfl
theorem size_imp (h:Opn cs ws y t o cards W) {x:Int} (hx:x∈W) (f:Nat) (hf:4000000≤f):impl_MemSize.f f cs ws y t o cards (x+1)=some (szN cs ws x):=(size_in h.b h.wlk _ rfl h.to hx).2.2 f hf
end
theorem pw_ext {ws ws':List Int} {F:List (List Int)} {e s:Int} (hs:0<s) (he:mstep ws' F (e+s) e=s): ∀(n:Nat) (i:Int),(e - i).toNat≤n→i≤e→(pw ws F e n i).2=true→(∀x∈(pw ws F e n i).1,mstep ws' F (e+s) x=mstep ws F e x)→
  ∀n',(e+s - i).toNat≤n'→pw ws' F (e+s) n' i=((pw ws F e n i).1++[e],true):=by
 have base: ∀n',(e+s - e).toNat≤n'→pw ws' F (e+s) n' e=([e],true):=fun n' h=>by
  obtain ⟨n',rfl⟩: ∃m,n'=m+1:=⟨n' - 1,by omega⟩;rw [pw,if_pos (by omega),he,if_neg (by omega)]
  cases n' with
  |zero=>rfl
  |succ n'=>rw [pw,if_neg (by omega)]
 intro n
 induction n with
 |zero=>
  intro i h hi _ _ n' hn;obtain rfl:i=e:=by omega
  rw [base n' hn];rfl
 | succ n ih =>
  intro i h hi ht hm n' hn;rw [pw] at ht hm ⊢;by_cases c:i<e
  ·rw [if_pos c] at ht hm ⊢
   by_cases c2:mstep ws F e i=0
   ·rw [if_pos c2] at ht;simp at ht
   ·rw [if_neg c2] at ht hm ⊢
    have hl:=mwalk_lt ws F e i;have h0:=hm i (List.mem_cons_self ..);obtain ⟨n',rfl⟩: ∃m,n'=m+1:=⟨n' - 1,by omega⟩;rw [pw,if_pos (by omega),h0,if_neg c2,ih (i+mstep ws F e i) (by omega) (by omega) ht (fun x hx=>hm x (List.mem_cons_of_mem _ hx)) n' (by omega)];rfl
  ·obtain rfl : i = e := by omega
   rw [if_neg c,base n' hn];rfl
section
variable {cs:Cs} {ws:List Int} {y t o:Int} {cards:List Bool} {W:List Int}
theorem mkW_ne {e c n:Int} (he:0≤e) {j:Int} (j0:0≤j) (h1:j≠e) (h2:c<0→j≠e+1):rd (mkW ws e c n) j=rd ws j:=by
 unfold mkW;by_cases z:c<0
 ·rw [if_pos z,rd_set_ne n (by omega) j0 (h2 z),rd_set_ne c he j0 h1]
 ·rw [if_neg z,rd_set_ne c he j0 h1]
theorem mkW_at {e c n:Int} (he:0≤e) (h1:e<ws.length):rd (mkW ws e c n) e=c:=by
 unfold mkW;by_cases z:c<0
 ·rw [if_pos z,rd_set_ne n (by omega) he (by omega),rd_set_eq c he h1]
 ·rw [if_neg z,rd_set_eq c he h1]
theorem mkW_at1 {e c n:Int} (he:0≤e) (h1:e+1<ws.length) (hc:c<0):rd (mkW ws e c n) (e+1)=n:=by
  unfold mkW;rw [if_pos hc,rd_set_eq n (by omega) (by rw [List.length_set];exact h1)]
theorem mkW_step (hok:csOk cs=true) {e c n:Int} (h0:measN (allF cs) c n≠0) (he:0≤e) (h1:e+measN (allF cs) c n≤ws.length):mstep (mkW ws e c n) (allF cs) (e+measN (allF cs) c n) e=measN (allF cs) c n:=by
  have hz:=measN_size hok c n;unfold mstep;rw [mkW_at he (by omega)];by_cases z:c<0
  · have := hz.2.2 z h0
    rw [if_pos z,if_pos (by omega),mkW_at1 he (by omega) z,if_pos (by omega)]
  · have hc : c < cs.length := by
      unfold measN at h0;rw [if_neg (by omega),allF_len] at h0;by_cases q:0≤c∧c<(cs.length:Int)
      · exact q.2
      · rw [if_neg q] at h0;simp at h0
    rw [if_neg z,measN_c 0 (by omega) hc,measN_c n (by omega) hc,if_pos (by omega)]
theorem mkW_old {e c n:Int} (h:Opn cs ws y t o cards W) (he:0≤e) (hz: ∀z∈W,z+szN cs ws z≤e∨(if c<0 then e+2 else e+1)≤z) {z:Int} (hzW:z∈W) (E:Int):rd (mkW ws e c n) z=rd ws z∧mstep (mkW ws e c n) (allF cs) E z=mstep ws (allF cs) E z:=by
 obtain ⟨z0,z1,d0,d8,ze,hzh,hz2⟩:=h.know hzW;have hp:=hz z hzW;have a1:z≠e:=by split at hp<;>omega
 have a2:c<0→z≠e+1:=fun q=>by rw [if_pos q] at hp;omega
 have a3:rd ws z<0→z+1≠e∧(c<0→z+1≠e+1):=fun q=>by
  have:=hz2 q
  split at hp<;>exact ⟨by omega,fun _=>by omega⟩
 have r1:rd (mkW ws e c n) z=rd ws z:=mkW_ne he z0 a1 a2
 refine ⟨r1,?_⟩;unfold mstep;rw [r1];by_cases q:rd ws z<0
 ·rw [if_pos q,if_pos q,mkW_ne he (by omega) (a3 q).1 (a3 q).2]
 ·rw [if_neg q,if_neg q]
def mkX (t o:Int) (v:Bool):Int:=if v=true then o else t
theorem make_keep (h : Opn cs ws y t o cards W) {c n : Int} {v : Bool} {s : Int} (hs : s = measN (allF cs) c n) (h0 : s ≠ 0) (hr : if v = true then o + s ≤ (ws.length : Int) else t + s ≤ y) :
    ∃ W', Opn cs (mkW ws (mkX t o v) c n) y (if v = true then t else t + s) (if v = true then o + s else o) cards W' ∧ (∀ z, z ∈ W' ↔ z = mkX t o v ∨ z ∈ W) ∧ W'.length = W.length + 1 ∧ mkX t o v ∉ W ∧ 0 < s ∧ 0 ≤ mkX t o v ∧ mkX t o v + s ≤ ws.length ∧
      (∀z∈W,rd (mkW ws (mkX t o v) c n) z=rd ws z∧szN cs (mkW ws (mkX t o v) c n) z=szN cs ws z∧(z+szN cs ws z≤mkX t o v∨mkX t o v+s≤z))∧szN cs (mkW ws (mkX t o v) c n) (mkX t o v)=s∧(∀j,mkX t o v+hdN c≤j→j<mkX t o v+s→rd (mkW ws (mkX t o v) c n) j=0):=by
  have n0:=h.b.n0;have n1:=h.b.n1;have y0:=h.b.y0;have y1:=h.b.y1;have t0:=h.b.t0;have t1:=h.b.t1;have o0:=h.b.o0;have o1:=h.b.o1;have cd:=h.b.cd;have hz:=measN_size h.b.ok c n;rw [←hs] at hz;have hs2:c<0→2≤s:=fun q=>hz.2.2 q h0
  obtain ⟨e,hee⟩: ∃e,e=mkX t o v:=⟨_,rfl⟩
  have he:(v=true∧e=o∧e+s≤ws.length)∨(v=false∧e=t∧e+s≤y):=by
    cases v with
    |true=>left;rw [if_pos rfl] at hr;exact ⟨rfl,by rw [hee];rfl,by rw [hee];exact hr⟩
    |false=>right;rw [if_neg (by simp)] at hr;exact ⟨rfl,by rw [hee];rfl,by rw [hee];exact hr⟩
  rw [←hee];have e0:0≤e∧e+s≤ws.length:=by omega
  have far: ∀z∈W,z+szN cs ws z≤e∨e+s≤z:=fun z hzW=>by
    rcases h.part hzW with ⟨p1,p2,p3,_⟩|⟨p1,p2,p3,_⟩<;>omega
  have far2: ∀z∈W,z+szN cs ws z≤e∨(if c<0 then e+2 else e+1)≤z:=fun z hzW=>by
    have:=far z hzW
    split
    · rename_i q;have:=hs2 q;omega
    · omega
  have hold:=fun (z:Int) (hzW:z∈W) (E:Int)=>mkW_old (c:=c) (n:=n) h e0.1 far2 hzW E
  have hnew:mstep (mkW ws e c n) (allF cs) (e+s) e=s:=by rw [hs];exact mkW_step h.b.ok (by rw [←hs];exact h0) e0.1 (by rw [←hs];exact e0.2)
  have hlen:(mkW ws e c n).length=ws.length:=mkW_len ws e c n
  have hsz: ∀z∈W,szN cs (mkW ws e c n) z=szN cs ws z:=fun z hzW=>by unfold szN;rw [hlen,(hold z hzW _).2]
  have hszn:szN cs (mkW ws e c n) e=s:=by unfold szN;rw [hlen,mstep_up (e:=e+s) (by omega) e0.2,hnew]
  have hcx:rd (mkW ws e c n) e=c:=mkW_at e0.1 (by omega)
  have hd:(c<0→hdN c=2)∧(¬c<0→hdN c=1):=by unfold hdN;exact ⟨fun q=>by rw [if_pos q],fun q=>by rw [if_neg q]⟩
  have hzero: ∀j,e≤j→j<e+s→rd ws j=0:=fun j j0 j1=>by
    have:=h.z j.toNat (by omega) (by rcases he with q|q<;>omega)
    exact this
  have hzero2: ∀j,e+hdN c≤j→j<e+s→rd (mkW ws e c n) j=0:=fun j j0 j1=>by
    by_cases q:c<0
    · have:=hd.1 q;rw [mkW_ne e0.1 (by omega) (by omega) (fun _=>by omega)];exact hzero j (by omega) j1
    · have:=hd.2 q;rw [mkW_ne e0.1 (by omega) (by omega) (fun z=>absurd z q)];exact hzero j (by omega) j1
  have nin:e∉W:=fun q=>by rcases far e q with z|z<;>(have:=h.part q;omega)
  have walk: ∃W',(pw (mkW ws e c n) (allF cs) (if v=true then t else t+s) (if v=true then t else t+s).toNat 0).2=true∧(pw (mkW ws e c n) (allF cs) (if v=true then o+s else o) ((if v=true then o+s else o) - y).toNat y).2=true∧
      W'=(pw (mkW ws e c n) (allF cs) (if v=true then t else t+s) (if v=true then t else t+s).toNat 0).1++(pw (mkW ws e c n) (allF cs) (if v=true then o+s else o) ((if v=true then o+s else o) - y).toNat y).1∧(∀z,z∈W'↔z=e∨z∈W)∧W'.length=W.length+1:=by
    have hA: ∀z∈(pw ws (allF cs) t t.toNat 0).1,z∈W:=fun z q=>by rw [h.w];exact List.mem_append_left _ q
    have hB: ∀z∈(pw ws (allF cs) o (o - y).toNat y).1,z∈W:=fun z q=>by rw [h.w];exact List.mem_append_right _ q
    rcases he with ⟨q1,q2,q3⟩|⟨q1,q2,q3⟩
    · subst q1
      simp only [if_true]
      have p1:=pw_congr (ws':=mkW ws e c n) t.toNat 0 (fun z q=>(hold z (hA z q) _).2) h.w1
      have p2:=pw_ext (ws:=ws) (ws':=mkW ws e c n) (F:=allF cs) (e:=e) (s:=s) (by omega) hnew (o - y).toNat y (by omega) (by omega) (by rw [q2];exact h.w2) (fun z q=>by
        rw [q2] at q;have m:=pw_mem ws (allF cs) o (o - y).toNat y z q
        rw [(hold z (hB z q) _).2,q2,mstep_up m.2.2.1 (show o≤o+s by omega)]) (o+s - y).toNat (by omega)
      rw [q2] at p2 ⊢;rw [q2] at p1;refine ⟨_,by rw [p1];exact h.w1,by rw [p2],rfl,fun z=>?_,?_⟩
      · rw [p1, p2, h.w]
        simp only [List.mem_append,List.mem_singleton]
        constructor
        · rintro (q | q | q)
          · exact .inr (.inl q)
          · exact .inr (.inr q)
          · exact .inl q
        · rintro (q | q | q)
          · exact .inr (.inr q)
          · exact .inl q
          · exact .inr (.inl q)
      · rw [p1,p2,h.w];simp only [List.length_append,List.length_cons,List.length_nil];omega
    · subst q1
      simp only [Bool.false_eq_true,if_false]
      have p2:=pw_congr (ws':=mkW ws e c n) (o - y).toNat y (fun z q=>(hold z (hB z q) _).2) h.w2
      have p1:=pw_ext (ws:=ws) (ws':=mkW ws e c n) (F:=allF cs) (e:=e) (s:=s) (by omega) hnew t.toNat 0 (by omega) (by omega) (by rw [q2];exact h.w1) (fun z q=>by
        rw [q2] at q;have m:=pw_mem ws (allF cs) t t.toNat 0 z q
        rw [(hold z (hA z q) _).2,q2,mstep_up m.2.2.1 (show t≤t+s by omega)]) (t+s).toNat (by omega)
      rw [q2] at p1 ⊢;rw [q2] at p2;refine ⟨_,by rw [p1],by rw [p2];exact h.w2,rfl,fun z=>?_,?_⟩
      · rw [p1, p2, h.w]
        simp only [List.mem_append,List.mem_singleton]
        constructor
        · rintro ((q | q) | q)
          · exact .inr (.inl q)
          · exact .inl q
          · exact .inr (.inr q)
        · rintro (q | q | q)
          · exact .inl (.inr q)
          · exact .inl (.inl q)
          · exact .inr q
      · rw [p1,p2,h.w];simp only [List.length_append,List.length_cons,List.length_nil];omega
  obtain ⟨W',k1,k2,k3,k4,k5⟩:=walk
  have htt:t≤(if v=true then t else t+s)∧(if v=true then t else t+s)≤y∧o≤(if v=true then o+s else o)∧(if v=true then o+s else o)≤ws.length:=by
    rcases he with ⟨q1,q2,q3⟩|⟨q1,q2,q3⟩
    · subst q1;simp only [if_true];omega
    · subst q1;simp only [Bool.false_eq_true,if_false];omega
  have hto:(∀j:Int,(if v=true then t else t+s)≤j→j≤y - 1→t≤j∧j≠e∧(c<0→j≠e+1))∧∀j:Int,(if v=true then o+s else o)≤j→o≤j∧j≠e∧(c<0→j≠e+1):=by
    rcases he with ⟨q1,q2,q3⟩|⟨q1,q2,q3⟩
    · subst q1;simp only [if_true];exact ⟨fun j a b=>⟨a,by omega,fun _=>by omega⟩,fun j a=>⟨by omega,by omega,fun q=>by have:=hs2 q;omega⟩⟩
    · subst q1;simp only [Bool.false_eq_true,if_false];exact ⟨fun j a b=>⟨by omega,by omega,fun q=>by have:=hs2 q;omega⟩,fun j a=>⟨a,by omega,fun q=>by have:=hs2 q;omega⟩⟩
  refine ⟨W',⟨⟨h.b.ok,y0,y1,by rw [hlen];exact n0,by rw [hlen];exact n1,by omega,htt.2.1,by omega,by rw [hlen];exact htt.2.2.2,by rw [hlen];exact cd⟩,fun j hj q=>?_,k1,k2,k3,fun z hzW k k0 k1'=>?_⟩,k4,k5,nin,by omega,e0.1,e0.2,fun z hzW=>⟨(hold z hzW 0).1,hsz z hzW,far z hzW⟩,hszn,hzero2⟩
  · rw [hlen] at hj
    have hq:(t≤(j:Int)∧(j:Int)≤y - 1∨(j:Int)≥o)∧(j:Int)≠e∧(c<0→(j:Int)≠e+1):=by
      rcases q with q|q
      · have:=hto.1 j q.1 q.2;exact ⟨.inl ⟨this.1,q.2⟩,this.2⟩
      · have:=hto.2 j q;exact ⟨.inr this.1,this.2⟩
    have:=h.z j hj hq.1
    rw [←rd_cast] at this ⊢;rw [mkW_ne e0.1 (by omega) hq.2.1 hq.2.2];exact this
  · rcases (k4 z).mp hzW with rfl | hzO
    · rw [hszn, hcx] at k1'
      rw [hcx];unfold Wd VOk;rw [hzero2 (z+hdN c+k) (by omega) (by omega)];exact ⟨by split;exact .inl rfl;omega,fun _ _ a=>by omega⟩
    · have r1 := (hold z hzO 0).1
      rw [hsz z hzO,r1] at k1';rw [r1];have hw:=h.d z hzO k k0 k1';obtain ⟨z0,z1,d0,d8,ze,hzh,hz2⟩:=h.know hzO
      have hne:z+hdN (rd ws z)+k≠e∧(c<0→z+hdN (rd ws z)+k≠e+1):=by
        rcases far z hzO with q|q
        · exact ⟨by omega,fun _=>by omega⟩
        · exact ⟨by omega,fun _=>by omega⟩
      unfold Wd VOk at hw ⊢;rw [r1,mkW_ne e0.1 (by omega) hne.1 hne.2];refine ⟨?_,hw.2⟩;have:=hw.1
      by_cases l:ldB cs (rd ws z) k=true
      · rw [if_pos l] at this ⊢
        exact this.imp id (fun q=>(k4 _).mpr (.inr q))
      · rw [if_neg l] at this ⊢
        exact this
end
theorem allF_few {cs:Cs} (h:csOk cs=true): ∀r∈allF cs,r.length≤1048576:=by
 intro r hr;unfold allF at hr;obtain ⟨i,hi,rfl⟩:=List.mem_map.mp hr;have:=List.mem_range.mp hi
 have:=(cfl_eq h (a:=(i:Int)) (by omega) (by omega)).1
 omega
theorem make_eq {cs:Cs} {ws:List Int} {y t o:Int} {cards:List Bool} (hb:Bnd cs ws y t o cards) {W:List Int} (hw:Wlk cs ws W) (m:Mm) (hm:m=⟨ws,y,t,o,cards,allF cs,W.map (· +1)⟩) (c n:Int) (v:Bool) (h0:measN (allF cs) c n≠0):
  ∃ p : Nat, p ≤ W.length ∧ (∀ i (h : i < (W.map (· + 1)).length), i < p → (W.map (· + 1))[i] < mkAt m v + 1) ∧ (∀ i (h : i < (W.map (· + 1)).length), p ≤ i → mkAt m v + 1 ≤ (W.map (· + 1))[i]) ∧
   ∀k,300≤k→memory_make.f k m c n v=some (if tryB ws y t o (measN (allF cs) c n) v=true then
    (mkAt m v+1,((mkTop {m with words:=mkW ws (mkAt m v) c n} v (mkAt m v+measN (allF cs) c n)).setB ((W.map (· +1)).take p++(mkAt m v+1)::(W.map (· +1)).drop p))) else (0,m)):=by
 have n0:=hb.n0;have n1:=hb.n1;have y0:=hb.y0;have y1:=hb.y1;have t0:=hb.t0;have t1:=hb.t1;have o0:=hb.o0;have o1:=hb.o1;have hz:=measN_size hb.ok c n;have hl:(W.map (· +1)).length≤200:=by rw [List.length_map];exact hw.len
 obtain ⟨s,hs⟩: ∃s,s=measN (allF cs) c n:=⟨_,rfl⟩;obtain ⟨x,hx⟩: ∃x,x=mkAt m v:=⟨_,rfl⟩;rw [←hs] at hz h0 ⊢;rw [←hx];obtain ⟨p,hp,h,q1,q2⟩:=search_eq (map1_sorted hw.srt) (by omega) (x+1);rw [List.length_map] at hp;refine ⟨p,hp,q1,q2,fun k hk=>?_⟩
 have hroom:(s>mkRoom m v)↔¬tryB ws y t o s v=true:=by
  rw [hm];unfold mkRoom tryB
  cases v<;>dsimp only<;>rw [decide_eq_true_eq]<;>omega
 have hfit:tryB ws y t o s v=true→0≤x∧x<(ws.length:Int)∧(c<0→x+1<(ws.length:Int)):=by
  intro q;rw [hx,hm];unfold tryB at q;unfold mkAt
  cases v<;>dsimp only at q ⊢ <;>rw [decide_eq_true_eq] at q<;>exact ⟨by omega,by omega,fun z=>by have:=hz.2.2 z h0;omega⟩
 have hbg:m.begins=W.map (· +1):=by rw [hm]
 have hmw:m.words.length=ws.length:=by rw [hm]
 have hbl:m.begins.length=W.length:=by rw [hbg,List.length_map]
 have hwl:=hw.len;rw [←hbg] at h ⊢;unfold memory_make.f;rw [←hx,show measN m.fields c n=s by rw [hm,hs],hmw,if_pos ⟨by rw [hm];exact allF_few hb.ok,by omega,by rw [hm];dsimp only;omega,by rw [hm];dsimp only;omega,by rw [hm];dsimp only;omega⟩];by_cases z:tryB ws y t o s v=true
 ·have hf := hfit z
  have e:mkMem m v x (x+s) c n=mkTop {m with words:=mkW ws x c n} v (x+s):=by
   rw [hm];unfold mkMem mkTop mkW Mm.setW Mm.setOld Mm.setTop
   cases v<;>dsimp only<;>split<;>rfl
  rw [if_neg (fun q=>hroom.mp q z),if_pos ⟨hf.2.1,hf.2.2,by omega⟩,h k (by omega),Option.bind_some,if_pos ⟨by dsimp only;omega,by dsimp only;omega⟩,if_pos z,e];rfl
 ·rw [if_pos (hroom.mpr z),if_neg z]
theorem l21Copy_eq (ws:List Int) (y t o:Int) (cards:List Bool) (h0:ws.length≤1048576) (h4:cards.length≤1048576):spec_l21Copy.f ws y t o cards=some (ws,y,t,o,cards):=by
 unfold spec_l21Copy.f;rw [Option.bind_some,if_pos (by simp;omega),Option.bind_some,if_pos (by simp;omega)];simp
end Go.Proofs.Ytnlieahdakafbaa.Pure
