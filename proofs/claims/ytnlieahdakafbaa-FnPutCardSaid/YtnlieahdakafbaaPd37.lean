import Derived.Test.YtnlieahdakafbaaPd24
import Derived.Test.YtnlieahdakafbaaPd36
import Derived.Test.YtnlieahdakafbaaPd32
import Derived.Test.YtnlieahdakafbaaPd27
import Derived.Test.YtnlieahdakafbaaPd25
import Derived.Test.YtnlieahdakafbaaPd34
import Derived.Test.YtnlieahdakafbaaPd33
import Derived.Test.YtnlieahdakafbaaPd26
import Derived.Test.YtnlieahdakafbaaPd30
import Derived.Test.YtnlieahdakafbaaPd35
import Derived.Test.YtnlieahdakafbaaPd31
namespace Go.Proofs.Ytnlieahdakafbaa.K
open Go.RowKit Go.Proofs.YtnlieahdakafbaaW.PrintWords Go.Proofs.YtnlieahdakafbaaW.PrintLast Go.Proofs.YtnlieahdakafbaaW.PrintMore
attribute [local go_sem] max2_int min2_int max_two min_two max_three min_three max_four min_four
set_option linter.unusedVariables false
set_option linter.unusedSimpArgs false
def objVals (q:Nat) (m:Mm) (a n:Int):Nat→Int→List S48→Option (List S48)
  |0,_,_=>none
  | j + 1, x, acc => if x < n then (memory_get.f m a x).bind fun v => (thing_leads.f m a x).bind fun d => if acc.length ≤ 1048576 ∧ x ≤ 1048576 then
      (if d=true then (memory_number.f q m v).bind fun u=>objVals q m a n j (x+1) (acc++[⟨true,u⟩]) else objVals q m a n j (x+1) (acc++[⟨false,v⟩])) else none else some acc
def objsL (q:Nat) (m:Mm):List Int→List S46→Option (List S46)
  |[],acc=>some acc
  |a::r,acc=>(thing_class.f m a).bind fun c=>(thing_count.f m a).bind fun n=>(objVals q m a n q 0 []).bind fun vs=>if acc.length≤1048576∧0≤n then objsL q m r (acc++[⟨c,vs⟩]) else none
def memory_objs.f (q:Nat) (m:Mm):Option (List S46):=if m.begins.length≤1048576 then objsL q m m.begins [] else none
theorem S_grown_ {α:Type} {d:Kd α} {e base:Nat} {ok:Nat→Prop} {w w1:World} {v:Value} {xs:List α} {row:Option Nat} (h:Kd.S d e w base ok v xs) (hg:w.grownBy w1 row) (hne: ∀k,ok k→some k≠row):Kd.S d e w1 base ok v xs:=by
  obtain ⟨f,hR⟩:=h;exact ⟨f,Kd.R_grown hR hg hne⟩
theorem S_far_ {α:Type} {d:Kd α} {e base:Nat} {ok:Nat→Prop} {w:World} {v:Value} {xs:List α} (h:Kd.S d e w base ok v xs) {p:Addr} (hne: ∀k,ok k→k≠p.block) (u:Value):Kd.S d e (w.setCell p u) base ok v xs:=by
  obtain ⟨f,hR⟩:=h;exact ⟨f,Kd.R_far hR hne u⟩
set_option maxHeartbeats 32000000 in
set_option maxRecDepth 100000 in
theorem memory_objs.calls (q:Nat) (g:Nat) (m:Mm) (r:List S46) (w:World) (hm:MV w g m) (h:memory_objs.f q m=some r):
  Calls Try.prog 50 #[.pointer (some ⟨g,0,none⟩)] w fun e w'=> ∃v0_:Value,e= .returned v0_∧Kd.S k46 46 w' w.heap.size (fun _=>True) v0_ r∧Below w.heap.size w w':=by
 unfold memory_objs.f at h
 split at h
 case isFalse=>simp at h
 case isTrue hl=>
 have HL:=aK hl;have HM:=aK hm;have HA0:=aK h;obtain ⟨AW,cW,AC,cC,AF,cF,AB,cB,h0,_,_,_,hB,_,_,_,lB⟩:=hm;have HBg:=aK hB;have g6:=(blk_cell h0 6).trans rfl;clear h h0 hB lB;go_enter Try.func50,Try.ntmps50;go_wp2
 go_loopw [3,15] (fun v3 v15 wr=> ∃(j:Nat) (acc:List S46),v15= .int .i64 j∧j≤m.begins.length∧Aside0 (objsL q m (m.begins.drop j) acc=some r)∧Aside0 (Kd.S k46 46 wr w.heap.size (fun _=>True) v3 acc)∧Aside0 (Below w.heap.size w wr)) (fun _ v15 _=>m.begins.length - (intOf v15).toNat)
 case atStart=>exact ⟨0,[],rfl,Nat.zero_le _,by rw [List.drop_zero];exact HA0,⟨Kd.S_nil _ _ _ _ _⟩,⟨Below.refl _ _⟩⟩
 case round =>
  clear HA0 g6;obtain ⟨j,acc,rfl,hj,HA,HS,HB⟩:=hrel;by_cases c:j<m.begins.length
  ·have d0 : decide ((j : Int) < m.begins.length) = true := decide_eq_true (by omega)
   obtain ⟨ad,e0,hx⟩:=Kd.at_int (Kd.C_below HBg.out HB.out) (j:Int) (by omega) (by omega)
   cases e0
   have p1:=eq_true (show (0:Int)≤(j:Int) by omega);have p2:=eq_true (show (j:Int)<(m.begins.length:Int) by omega);obtain ⟨a,ha⟩: ∃a,a=rd m.begins j:=⟨_,rfl⟩;rw [←ha,Int.toNat_natCast] at hx;have hh:=HA.out;have hea:m.begins[j]=a:=by rw [ha];unfold rd;rw [Int.toNat_natCast,List.getD_eq_getElem?_getD,List.getElem?_eq_getElem c];rfl
   rw [List.drop_eq_getElem_cons c,hea,objsL] at hh;obtain ⟨cl,hc,hh⟩:=Option.bind_eq_some_iff.mp hh;obtain ⟨n,hn,hh⟩:=Option.bind_eq_some_iff.mp hh;obtain ⟨vs,hv,hh⟩:=Option.bind_eq_some_iff.mp hh
   split at hh
   case isFalse=>simp at hh
   case isTrue hal=>
   have HC:=aK hc;have HN:=aK hn;have HV:=aK hv;have HH:=aK hh;have HAL:=aK hal;have HJ:=aK c;clear hc hn hv hh hal ha hea HA hj;obtain ⟨b1,hb1⟩: ∃b,b=wr.heap.size:=⟨_,rfl⟩;have HS1:=aK (show Kd.S k46 46 wr w.heap.size (fun k_=>k_<b1) _ acc from Kd.S_mono (Kd.S_bound HS.out) (fun k_ hk_=>by rw [hb1];exact hk_.2.2.1));have HZ:=aK (show w.heap.size≤b1 by rw [hb1];exact HB.out.size);clear HS c
   go_wp2_with fail
   go_at_call 54;refine (memory_thing.calls g a _).mono ?_;rintro e w1 ⟨rfl,hb⟩;have HB1:=aK (below_step HB.out hb);replace HS1:=aK (Kd.S_below HS1.out hb);have h1:=below_size hb;rw [←hb1] at h1;clear hb hb1 HB hx p1 p2;unfold thV;obtain ⟨bt,hbt⟩: ∃b,b=w1.heap.size:=⟨_,rfl⟩
   go_wp2_with fail
   go_at_call 85;refine (thing_class.calls g m a cl _ (MV_below HM.out (below_alloc HB1.out _)) HC.out).mono ?_;rintro e w2 ⟨rfl,hb⟩;have BT:=aK (box_new hb);have HB2:=aK (below_step (below_alloc HB1.out _) hb);replace HS1:=aK (Kd.S_below (Kd.S_alloc HS1.out _) hb);have h2:bt<w2.heap.size:=by rw [hbt];exact blk_lt BT.out
   rw [←hbt] at BT h1 ⊢;clear hb hbt HB1;obtain ⟨bo,hbo⟩: ∃b,b=w2.heap.size:=⟨_,rfl⟩;have t0: ∀o,(w2.alloc o).cell? ⟨bt,0,none⟩=_:=fun o=>(blk_cell (blk_alloc BT.out o) 0).trans rfl
   have t1: ∀o,(w2.alloc o).cell? ⟨bt,1,none⟩=_:=fun o=>(blk_cell (blk_alloc BT.out o) 1).trans rfl
   have t0':=(blk_cell BT.out 0).trans rfl;have t1':=(blk_cell BT.out 1).trans rfl
   go_wp2_with fail
   go_at_call 71;refine (thing_count.calls g m a n _ (MV_below HM.out (below_alloc HB2.out _)) HN.out).mono ?_;rintro e w3 ⟨rfl,hb⟩;have BO:=aK (box_new hb);replace BT:=aK (blk_below (blk_alloc BT.out _) hb);have HB3:=aK (below_step (below_alloc HB2.out _) hb);replace HS1:=aK (Kd.S_below (Kd.S_alloc HS1.out _) hb);have h3:bo<w3.heap.size:=by rw [hbo];exact blk_lt BO.out
   rw [←hbo] at BO h2 ⊢;obtain ⟨b2,hb2⟩: ∃b,b=w3.heap.size:=⟨_,rfl⟩;rw [←hb2] at h3;have HO:=aK (show w.heap.size≤b1∧b1≤bt∧bt<bo∧bo<b2 from ⟨HZ.out,h1,h2,h3⟩);have RV:=aK (show Kd.R k48 48 w3 b2 (fun k_=>b2≤k_) (.slice none 0 0) [] from Kd.R_nil _ _ _ _ _);have HW:=aK (show b2≤w3.heap.size by omega);clear hb hbo hb2 HB2 t0 t1 t0' t1' h1 h2 h3 HZ;go_wp2
   go_loopw [27] (fun v27 wi=> ∃(x:Int) (k2:Nat) (av:List S48) (vv:Value),v27= .int .i64 x∧Aside0 (0≤x∧x≤n)∧Aside0 (objVals q m a n k2 x av=some vs)∧Aside0 (wi.heap[bt]? =some (.cells #[.pointer (some ⟨g,0,none⟩),.int .i64 a] 86 (0,0)))∧Aside0 (wi.heap[bo]? =some (.cells #[.int .i64 cl,vv] 46 (0,0)))∧Aside0 (Kd.R k48 48 wi b2 (fun k_=>b2≤k_) vv av)∧Aside0 (Kd.S k46 46 wi w.heap.size (fun k_=>k_<b1) u3 acc)∧Aside0 (Below w.heap.size w wi)∧Aside0 (b2≤wi.heap.size)) (fun v27 _=>(n - intOf v27).toNat)
   case atStart=>exact ⟨0,q,[],_,rfl,⟨by have:=HAL.out;omega⟩,HV,BT,BO,RV,HS1,HB3,HW⟩
   case round=>
   clear HV BT BO RV HS1 HB3 HW;obtain ⟨x,k2,av,vv,rfl,HX,HA,BT,BO,RV,HS1,HB3,HW⟩:=hrel;have hh2:=HA.out;clear HA
   cases k2 with
   |zero=>exact absurd hh2 (by simp [objVals])
   | succ k2 =>
    unfold objVals at hh2;have hho:=HO.out;have hhx:=HX.out;by_cases c:x<n
    ·rw [if_pos c] at hh2
     have d1:decide (x<n)=true:=decide_eq_true c
     obtain ⟨v,hv,hh2⟩:=Option.bind_eq_some_iff.mp hh2;obtain ⟨d,hd,hh2⟩:=Option.bind_eq_some_iff.mp hh2
     split at hh2
     case isFalse=>simp at hh2
     case isTrue hal2=>
     have HG:=aK hv;have HD:=aK hd;have HA2:=aK hal2;have HH2:=aK hh2;clear hv hd hh2;have q1:IntKind.i64.wrap (x+1)=x+1:=IntWalk.i64_in _ ⟨by omega,by omega⟩
     have HCx:=aK c;clear c hho hhx hal2
     go_wp2_with fail
     go_at_call 48;refine (memory_get.calls g m a x v _ (MV_below HM.out HB3.out) HG.out).mono ?_;rintro e w4 ⟨rfl,hb⟩;replace BT:=aK (blk_below BT.out hb);replace BO:=aK (blk_below BO.out hb);replace RV:=aK (Kd.R_below RV.out hb);replace HS1:=aK (Kd.S_below HS1.out hb);replace HB3:=aK (below_step HB3.out hb);replace HW:=aK (Nat.le_trans HW.out (below_size hb));clear hb;have t0:=(blk_cell BT.out 0).trans rfl;have t1:=(blk_cell BT.out 1).trans rfl
     go_wp2_with fail
     go_at_call 73;refine (thing_leads.calls g m a x d _ (MV_below HM.out HB3.out) HD.out).mono ?_;rintro e w5 ⟨rfl,hb⟩;replace BT:=aK (blk_below BT.out hb);replace BO:=aK (blk_below BO.out hb);replace RV:=aK (Kd.R_below RV.out hb);replace HS1:=aK (Kd.S_below HS1.out hb);replace HB3:=aK (below_step HB3.out hb);replace HW:=aK (Nat.le_trans HW.out (below_size hb));clear hb t0 t1;obtain ⟨AV,cV,hvv⟩:=Kd.R_slice RV.out;subst hvv;have o1:=(blk_cell BO.out 1).trans rfl;have y1:=blk_frozen BO.out 1;have hh2:=HH2.out;clear HH2
     cases d with
     |false=>
      rw [if_neg (by simp)] at hh2;have HR2:=aK hh2;clear hh2
      go_wp2_with ((with_reducible refine gate_builtin (b:= .append) (xs:= #[.tmp 47,.tmp 50]) rfl ?_);at_builtin;refine Kd.R_append k48 (w0:=w5) b2 rfl (.tmp 47) (.tmp 50) 44 48 (.agg #[(.bool false),(.int .i64 0)]) 16 rfl Try.underlying44 info48 rfl (by decide) (by omega) (.slice AV av.length cV) av (⟨false,v⟩:S48) [.bool false,.int .i64 v] (fun k_=>b2≤k_) (fun _=>False) rfl (by first|rfl|(go_simp;done)|(go_simp;rfl)) ?aP (fun _ hk=>hk.elim) ?aF ?aO ?aB ?aS ?aL ?_;(case aP=>exact k48_mkM _ _ _ (⟨false,v⟩:S48));(case aB=>exact Below.refl _ _);(case aF=>exact fun k hk=>Nat.le_trans HW.out hk);(case aO=>exact RV.out);(case aS=>exact HW.out);(case aL=>have:=HA2.out;omega);intro v67 w6 ho hbn hgr hat;obtain ⟨AN,cN,e67⟩:=Kd.R_slice ho;subst e67;have hob: ∀k,k<b2→some k≠(Value.slice AV av.length cV).ownBlock:=fun k hk e_=>(by have:=RV.out.1 k e_.symm;omega);have BT6:=aK (blk_grown BT.out hgr (hob bt (by have:=HO.out;omega)));have BO6:=aK (blk_grown BO.out hgr (hob bo (by have:=HO.out;omega)));have HS6:=aK (S_grown_ HS1.out hgr (fun k hk=>hob k (by have:=HO.out;omega)));have R6:=aK ho;have HB6:=aK (HB3.out.trans (hbn.mono (by have:=HO.out;omega)));have HW6:=aK (Nat.le_trans HW.out hbn.size);have o6:=(blk_cell BO6.out 1).trans rfl;have y6:=blk_frozen BO6.out 1;clear ho hbn hgr hat hob;clear o1 y1)
      go_roundw
      case rel=>exact ⟨x+1,k2,av++[⟨false,v⟩],_,rfl,⟨by have:=HX.out;have:=HCx.out;omega⟩,HR2,⟨blk_far BT6.out (by have:=HO.out;show bt≠bo;omega) _⟩,⟨blk_put BO6.out 1 _ rfl⟩,by rw [show av.length+1=(av++[(⟨false,v⟩:S48)]).length by simp];exact ⟨Kd.R_far (p:=⟨bo,1,none⟩) R6.out (fun k_ hk_=>by have:=HO.out;show k_≠bo;omega) _⟩,⟨S_far_ HS6.out (p:=⟨bo,1,none⟩) (fun k_ hk_=>by have:=HO.out;show k_≠bo;omega) _⟩,⟨below_set HB6.out (by have:=HO.out;omega)⟩,⟨by have:=HW6.out;simpa using this⟩⟩
      case measure=>have:=HX.out;have:=HCx.out;simp only [intOf];omega
     | true =>
      rw [if_pos rfl] at hh2;obtain ⟨u,hu,hh2⟩:=Option.bind_eq_some_iff.mp hh2;have HNu:=aK hu;have HR2:=aK hh2;clear hh2 hu;go_wp2;refine sT 10 (S:=fun w'=>Aside0 (Below w5.heap.size w5 w')∧w'.cell? ⟨bo,1,none⟩=some (.slice AV av.length cV)) (ds:=[7,9]) ⟨⟨below_drew1 (Below.refl _ _)⟩,(by go_simp)⟩ (fun hHeld=>?_);refine pS 0 37 #[true,false,false,false,false,false,false,false,false,false] ?_;refine pS 2 39 #[true,false,true,false,false,false,false,false,false,false] ?_;refine pS 3 40 #[true,false,true,true,false,false,false,false,false,false] ?_;refine tS 1 38 #[true,true,true,true,false,false,false,false,false,false] rfl rfl (by kernel_rfl) hHeld (by rintro w' ⟨s0,s1⟩;go_simp;with_reducible rfl) ?_;refine oS 4 41 #[true,true,true,true,true,false,false,false,false,false] rfl rfl (fun K hK=>?_);refine gO Try.func87 #[.pointer (some ⟨g,0,none⟩),.int .i64 v] ?_;(with_reducible refine (memory_number.calls q g m v u _ (MV_below HM.out (below_step HB3.out hHeld.1.out)) HNu.out).mono ?_);rintro e w7 ⟨rfl,hb7⟩;refine ⟨_,rfl,?_⟩;refine hK.out _ _ ⟨⟨below_step hHeld.1.out hb7⟩,(pw_cell_below hb7 hHeld.2)⟩ (fun hHeld=>?_);clear hK K;refine nS 41 ?_;refine oS 5 42 #[true,true,true,true,true,true,false,false,false,false] rfl rfl (fun K hK=>?_);refine gO Try.func86 #[.int .i64 u] ?_;(with_reducible refine (impl_leadingTo.calls u true u _ rfl).mono ?_);rintro e w8 ⟨rfl,hd8⟩;have hb8:=hd8;refine ⟨_,rfl,?_⟩;refine hK.out _ _ ⟨⟨below_step hHeld.1.out hb8⟩,(pw_cell_below hb8 hHeld.2)⟩ (fun hHeld=>?_);clear hK K;refine nS 42 ?_;refine one_ (i:=6) (N:=some 43) #[true,true,true,true,true,true,true,false,false,false] rfl rfl (by kernel_rfl) (by decide) (fun K hK=>?_);have HBW:=aK hHeld.1.out;refine value_ (w1:=?_) (v:=?_) (by rfl) rfl ?_ ?_;rotate_left 2
      ·go_simp
       constructor
       ·rfl
       ·rfl
      refine hK.out _ _ ⟨⟨below_alloc hHeld.1.out _⟩,(pw_cell_below (below_alloc (Below.refl _ _) _) hHeld.2)⟩ (fun hHeld=>?_);clear hK K;refine nS 43 ?_;refine last_ (i:=7) (N:=some 44) #[true,true,true,true,true,true,true,true,false,false] rfl rfl (by kernel_rfl) (by decide) (fun K hK=>?_);refine Kd.R_append_step k48 (w0:=w5) b2 (by rfl) (.tmp 38) (.tmp 43) 44 48 (.agg #[(.bool false),(.int .i64 0)]) 16 rfl Try.underlying44 info48 rfl (by decide) (by omega) (.slice AV av.length cV) av (⟨true,u⟩:S48) [.bool true,.int .i64 u] (fun k_=>b2≤k_) (fun _=>False) rfl (by first|rfl|(go_simp;done)|(go_simp;rfl)) ?aP (fun _ hk=>hk.elim) ?aF ?aO ?aB ?aS ?aL ?_
      (case aP=>exact k48_mkM _ _ _ (⟨true,u⟩:S48))
      (case aB=>exact (HBW.out.mono HW.out))
      (case aF=>exact fun k hk=>Nat.le_trans (Nat.le_trans HW.out HBW.out.size) hk)
      (case aO=>exact (Kd.R_below RV.out HBW.out))
      (case aS=>exact (Nat.le_trans HW.out HBW.out.size))
      (case aL=>have:=HA2.out;omega)
      intro v67 w6 ho hbn hgr hat;obtain ⟨AN,cN,e67⟩:=Kd.R_slice ho;subst e67;have hob: ∀k,k<b2→some k≠(Value.slice AV av.length cV).ownBlock:=fun k hk e_=>(by have:=RV.out.1 k e_.symm;omega)
      have BT6:=aK (blk_grown (blk_below BT.out HBW.out) hgr (hob bt (by have:=HO.out;omega)));have BO6:=aK (blk_grown (blk_below BO.out HBW.out) hgr (hob bo (by have:=HO.out;omega)));have HS6:=aK (S_grown_ (Kd.S_below HS1.out HBW.out) hgr (fun k hk=>hob k (by have:=HO.out;omega)));have R6:=aK ho;have HB6:=aK (HB3.out.trans (hbn.mono (by have:=HO.out;omega)));have HW6:=aK (Nat.le_trans HW.out hbn.size);have o6:=(blk_cell BO6.out 1).trans rfl;have y6:=blk_frozen BO6.out 1;clear ho hbn hgr hat hob;clear o1 y1;refine hK.out _ _ ?_;clear hK K;refine nS 44 ?_;refine pS 8 45 #[true,true,true,true,true,true,true,true,true,false] ?_;refine last_ (i:=9) (N:=none) #[true,true,true,true,true,true,true,true,true,true] rfl rfl (by kernel_rfl) (by decide) (fun K hK=>?_);refine skip_ (w1:=?_) (by rfl) rfl ?_ ?_;rotate_left
      ·go_simp
       rfl
      refine hK.out _ _ ?_;clear hK K;refine done_ (by kernel_rfl) ?_;go_wp2
      go_roundw
      case rel=>exact ⟨x+1,k2,av++[⟨true,u⟩],_,rfl,⟨by have:=HX.out;have:=HCx.out;omega⟩,HR2,⟨blk_far BT6.out (by have:=HO.out;show bt≠bo;omega) _⟩,⟨blk_put BO6.out 1 _ rfl⟩,by rw [show av.length+1=(av++[(⟨true,u⟩:S48)]).length by simp];exact ⟨Kd.R_far (p:=⟨bo,1,none⟩) R6.out (fun k_ hk_=>by have:=HO.out;show k_≠bo;omega) _⟩,⟨S_far_ HS6.out (p:=⟨bo,1,none⟩) (fun k_ hk_=>by have:=HO.out;show k_≠bo;omega) _⟩,⟨below_set HB6.out (by have:=HO.out;omega)⟩,⟨by have:=HW6.out;simpa using this⟩⟩
      case measure=>have:=HX.out;have:=HCx.out;simp only [intOf];omega
    ·rw [if_neg c] at hh2
     have d1:decide (x<n)=false:=decide_eq_false c
     obtain rfl:=Option.some.inj hh2;have o0:=(blk_cell BO.out 0).trans rfl;have o1:=(blk_cell BO.out 1).trans rfl;obtain ⟨AV,cV,hvv⟩:=Kd.R_slice RV.out;subst hvv;clear hh2 c hho hhx
     go_wp2_with ((with_reducible refine gate_builtin (b:= .append) (xs:= #[.tmp 54,.tmp 56]) rfl ?_);at_builtin;refine Kd.S_append k46 (w0:=w) w.heap.size rfl (.tmp 54) (.tmp 56) 41 46 (.agg #[(.int .i64 0),(.slice none 0 0)]) 32 rfl Try.underlying41 info46 rfl (by decide) (by omega) u3 acc (⟨cl,av⟩:S46) [.int .i64 cl,.slice AV av.length cV] (fun _=>True) (fun k_=>b2≤k_) rfl (by first|rfl|(go_simp;done)|(go_simp;rfl)) ?aP ?aK ?aF ?aO ?aB ?aS ?aL ?_;(case aP=>exact k46_mkM _ _ _ (⟨cl,av⟩:S46) (Kd.R_lower RV.out (by have:=HO.out;omega)));(case aK=>exact fun k_ hk_=>⟨trivial,fun e_=>by have:=(Kd.S_R HS1.out).1 k_ e_.symm;have:=HO.out;omega⟩);(case aF=>exact fun _ _=>trivial);(case aO=>exact Kd.S_mono HS1.out (fun k_ hk_=>⟨trivial,by have:=HO.out;omega⟩));(case aB=>exact HB3.out);(case aS=>exact HB3.out.size);(case aL=>have:=HAL.out;omega);intro v57 w9 ho hbn hgr hat;have HS9:=aK ho;have HB9:=aK hbn;clear ho hbn hgr hat o0 o1)
     go_roundw
     case rel=>exact ⟨j+1,acc++[⟨cl,av⟩],by rw [show wrap64 ((j:Int)+1)=((j+1:Nat):Int) by have:=HL.out;have:=HJ.out;unfold wrap64;omega],HJ.out,HH,HS9,HB9⟩
     case measure=>rw [show wrap64 ((j:Int)+1)=((j+1:Nat):Int) by have:=HL.out;have:=HJ.out;unfold wrap64;omega];have:=HJ.out;simp only [intOf,Int.toNat_natCast];omega
  ·have d0 : decide ((j : Int) < m.begins.length) = false := decide_eq_false (by omega)
   have hh:=HA.out;rw [List.drop_eq_nil_of_le (by omega),objsL] at hh;obtain rfl:=Option.some.inj hh;clear hh;go_wp2;go_ret;exact ⟨_,rfl,HS.out,HB.out⟩
def objsOf (k:Nat):Option Mm→Option (List S46)
  |none=>some []
  |some m=>memory_objs.f k m
def impl_MemObjs.f (k:Nat) (l0:List (S112)) (l1_0:List Int) (a1_1:Int) (a1_2:Int) (a1_3:Int) (l1_4:List Bool):Option (List S46):=(mopen k k l0 l1_0 a1_1 a1_2 a1_3 l1_4).bind fun r=>objsOf k r
set_option maxHeartbeats 8000000 in
set_option maxRecDepth 100000 in
theorem impl_MemObjs.calls (k:Nat) (A0:Option Addr) (c0:Nat) (l0:List (S112)) (A1_0:Option Addr) (c1_0:Nat) (l1_0:List Int) (a1_1:Int) (a1_2:Int) (a1_3:Int) (A1_4:Option Addr) (c1_4:Nat) (l1_4:List Bool) (r:List S46) (w:World) (hr0:Kd.C k112 w A0 l0.length l0) (hc0:l0.length≤c0) (hr1_0:Kd.C (Kd.int .i64) w A1_0 l1_0.length l1_0) (hc1_0:l1_0.length≤c1_0) (hr1_4:Kd.C Kd.bool w A1_4 l1_4.length l1_4) (hc1_4:l1_4.length≤c1_4) (h:impl_MemObjs.f k l0 l1_0 a1_1 a1_2 a1_3 l1_4=some r):
  Calls Try.prog 19 #[.slice A0 l0.length c0,.agg #[.slice A1_0 l1_0.length c1_0,.int .i64 a1_1,.int .i64 a1_2,.int .i64 a1_3,.slice A1_4 l1_4.length c1_4]] w fun e w'=> ∃v0_:Value,e= .returned (v0_)∧Kd.S k46 46 w' w.heap.size (fun _=>True) v0_ r∧Below w.heap.size w w':=by
 unfold impl_MemObjs.f at h;obtain ⟨m,hm,h⟩:=Option.bind_eq_some_iff.mp h;have HM:=aK hm;have HR0:=aK hr0;have HC0:=aK hc0;have HR1:=aK hr1_0;have HC1:=aK hc1_0;have HR4:=aK hr1_4;have HC4:=aK hc1_4;have HB:=aK (below_alloc (Below.refl w.heap.size w) (.cells #[.slice A1_0 l1_0.length c1_0,.int .i64 a1_1,.int .i64 a1_2,.int .i64 a1_3,.slice A1_4 l1_4.length c1_4] 27 (0,0)));have HH:=aK h;clear hr0 hc0 hr1_0 hc1_0 hr1_4 hc1_4 h hm;go_enter Try.func19,Try.ntmps19
 go_wp2_with fail
 go_at_call 35;refine (memOpen.calls k k A0 c0 l0 A1_0 c1_0 l1_0 a1_1 a1_2 a1_3 A1_4 c1_4 l1_4 m _ (Kd.C_below HR0.out HB.out) HC0.out (Kd.C_below HR1.out HB.out) HC1.out (Kd.C_below HR4.out HB.out) HC4.out HM.out).mono ?_
 cases m with
 |none=>
  rintro e w1 ⟨rfl,hb⟩;have HB1:=aK (below_step HB.out hb);have hh:=Option.some.inj HH.out;subst hh;clear hb HM HH;go_wp2;go_ret;exact ⟨_,rfl,Kd.S_nil _ _ _ _ _,HB1.out⟩
 |some m=>
  rintro e w1 ⟨g,rfl,hmo,hb⟩;have HB1:=aK (below_step HB.out hb);have HV:=aK (MO_MV hmo);clear hb HM hmo
  go_wp2_with fail
  go_at_call 50;refine (memory_objs.calls k g m r _ HV.out HH.out).mono ?_;rintro e w2 ⟨v,rfl,ho,hb⟩;have HB2:=aK (below_step HB1.out hb);have HO:=aK (Kd.S_lower ho (below_size HB1.out));clear hb ho;go_wp2;go_ret;exact ⟨_,rfl,HO.out,HB2.out⟩
def sizeOf (k:Nat) (a2:Int):Option Mm→Option Int
  |none=>some 0
  |some m=>(memory_has.f k m a2).bind fun b=>if b=true then thing_size.f m a2 else some 0
def impl_MemSize.f (k:Nat) (l0:List (S112)) (l1_0:List Int) (a1_1:Int) (a1_2:Int) (a1_3:Int) (l1_4:List Bool) (a2:Int):Option (Int):=(mopen k k l0 l1_0 a1_1 a1_2 a1_3 l1_4).bind fun r=>sizeOf k a2 r
set_option maxHeartbeats 8000000 in
set_option maxRecDepth 100000 in
theorem impl_MemSize.calls (k:Nat) (A0:Option Addr) (c0:Nat) (l0:List (S112)) (A1_0:Option Addr) (c1_0:Nat) (l1_0:List Int) (a1_1:Int) (a1_2:Int) (a1_3:Int) (A1_4:Option Addr) (c1_4:Nat) (l1_4:List Bool) (a2:Int) (r:Int) (w:World) (hr0:Kd.C k112 w A0 l0.length l0) (hc0:l0.length≤c0) (hr1_0:Kd.C (Kd.int .i64) w A1_0 l1_0.length l1_0) (hc1_0:l1_0.length≤c1_0) (hr1_4:Kd.C Kd.bool w A1_4 l1_4.length l1_4) (hc1_4:l1_4.length≤c1_4) (h:impl_MemSize.f k l0 l1_0 a1_1 a1_2 a1_3 l1_4 a2=some r):
  Calls Try.prog 25 #[.slice A0 l0.length c0,.agg #[.slice A1_0 l1_0.length c1_0,.int .i64 a1_1,.int .i64 a1_2,.int .i64 a1_3,.slice A1_4 l1_4.length c1_4],.int .i64 a2] w fun e w'=>e= .returned (.int .i64 r)∧Below w.heap.size w w':=by
 unfold impl_MemSize.f at h;obtain ⟨m,hm,h⟩:=Option.bind_eq_some_iff.mp h;have HM:=aK hm;have HR0:=aK hr0;have HC0:=aK hc0;have HR1:=aK hr1_0;have HC1:=aK hc1_0;have HR4:=aK hr1_4;have HC4:=aK hc1_4;have HB:=aK (below_alloc (Below.refl w.heap.size w) (.cells #[.slice A1_0 l1_0.length c1_0,.int .i64 a1_1,.int .i64 a1_2,.int .i64 a1_3,.slice A1_4 l1_4.length c1_4] 27 (0,0)));have HH:=aK h;clear hr0 hc0 hr1_0 hc1_0 hr1_4 hc1_4 h hm;go_enter Try.func25,Try.ntmps25
 go_wp2_with fail
 go_at_call 35;refine (memOpen.calls k k A0 c0 l0 A1_0 c1_0 l1_0 a1_1 a1_2 a1_3 A1_4 c1_4 l1_4 m _ (Kd.C_below HR0.out HB.out) HC0.out (Kd.C_below HR1.out HB.out) HC1.out (Kd.C_below HR4.out HB.out) HC4.out HM.out).mono ?_
 cases m with
 |none=>
  rintro e w1 ⟨rfl,hb⟩;have HB1:=aK (below_step HB.out hb);have hh:=Option.some.inj HH.out;subst hh;clear hb HM HH;go_wp2;go_ret;exact ⟨rfl,HB1.out⟩
 | some m =>
  rintro e w1 ⟨g,rfl,hmo,hb⟩;have HB1:=aK (below_step HB.out hb);have HMO:=aK hmo;have hh:=HH.out;unfold sizeOf at hh;obtain ⟨b,hq,hh⟩:=Option.bind_eq_some_iff.mp hh;have HQ:=aK hq;clear hb HM HH hmo hq
  cases b with
  |false=>
   rw [if_neg (by simp)] at hh;have hh:=Option.some.inj hh;subst hh
   go_wp2_with (go_at_call 53;refine (memory_has.calls k g m a2 false _ (MO_MV HMO.out) HQ.out).mono ?_;rintro e w2 ⟨rfl,hd⟩;have HB2:=aK (below_step HB1.out hd.below);clear hd)
   go_ret;exact ⟨rfl,HB2.out⟩
  |true=>
   rw [if_pos rfl] at hh;have HS:=aK hh;clear hh
   go_wp2_with (first|(go_at_call 53;refine (memory_has.calls k g m a2 true _ (MO_MV HMO.out) HQ.out).mono ?_;rintro e w2 ⟨rfl,hd⟩;have HB2:=aK (below_step HB1.out hd.below);have HMO2:=aK (MO_below HMO.out hd.below);clear hd)|(go_at_call 54;refine (memory_thing.calls g a2 _).mono ?_;rintro e w3 ⟨rfl,hd⟩;have HB3:=aK (below_step HB2.out hd);have HMO3:=aK (MO_below HMO2.out hd);clear hd)|(go_at_call 55;refine (thing_size.calls g m a2 r _ (MO_MV HMO3.out) HS.out).mono ?_;rintro e w4 ⟨rfl,hd⟩;have HB4:=aK (below_step HB3.out hd);clear hd))
   go_ret;exact ⟨rfl,HB4.out⟩
theorem obj_cells {w:World} {A:Option Addr} {s:List S46} (h:Kd.C k46 w A s.length s) (i:Nat) (hi:i<s.length): ∃ad A1 c1,A=some ad∧w.cell? (ad.add (i*2))=some (.int .i64 (rd_T46 s (i:Int)).f0)∧w.cell? ⟨(ad.add (i*2)).block,(ad.add (i*2)).off+1,none⟩=some (.slice A1 (rd_T46 s (i:Int)).f1.length c1)∧Kd.C k48 w A1 (rd_T46 s (i:Int)).f1.length (rd_T46 s (i:Int)).f1:=by
 obtain ⟨ad,A1,c1,e,h0,h1,_,h3⟩:=at_T46 h (i:Int) (by omega) (by omega);rw [Int.toNat_natCast] at h0 h1;exact ⟨ad,A1,c1,e,h0,h1,h3⟩
theorem val_cells {w:World} {A:Option Addr} {s:List S48} (h:Kd.C k48 w A s.length s) (i:Nat) (hi:i<s.length): ∃ad,A=some ad∧w.cell? (ad.add (i*2))=some (.bool (rd_T48 s (i:Int)).f0)∧w.cell? ⟨(ad.add (i*2)).block,(ad.add (i*2)).off+1,none⟩=some (.int .i64 (rd_T48 s (i:Int)).f1):=by
 obtain ⟨ad,e,h0,h1⟩:=at_T48 h (i:Int) (by omega) (by omega);rw [Int.toNat_natCast] at h0 h1;exact ⟨ad,e,h0,h1⟩
end Go.Proofs.Ytnlieahdakafbaa.K
namespace Go.Proofs.Ytnlieahdakafbaa.Pure
open Go.RowKit Go.Proofs.Ytnlieahdakafbaa.K Go.Proofs.YtnlieahdakafbaaW.PrintWords Go.Proofs.YtnlieahdakafbaaW.PrintLast Go.Proofs.YtnlieahdakafbaaW.PrintMore
set_option linter.unusedVariables false
set_option linter.unusedSimpArgs false
theorem leInts_l0 (xs:List Int) (hl:xs.length≤1048576) (d:Nat): ∀(k i:Nat),i+d=xs.length→d<k→laws_leInts.l0 k xs xs i=some true:=by
 induction d with
 |zero=>
  intro k i hi hk;obtain ⟨k,rfl⟩: ∃m,k=m+1:=⟨k - 1,by omega⟩;rw [laws_leInts.l0,if_neg (by omega)]
 |succ d ih=>
  intro k i hi hk;obtain ⟨k,rfl⟩: ∃m,k=m+1:=⟨k - 1,by omega⟩;rw [laws_leInts.l0,if_pos (by omega),if_pos (by omega),if_pos (by omega),if_pos rfl,wrap_inc (n:=1048577) (by omega) (by omega) (by omega)];have:=ih k (i+1) (by omega) (by omega)
  rw [show ((i+1:Nat):Int)=(i:Int)+1 by omega] at this;exact this
theorem leInts_self (xs:List Int) (hl:xs.length≤1048576) (k:Nat) (hk:1048578≤k):laws_leInts.f k xs xs=some true:=by
 unfold laws_leInts.f;rw [if_pos rfl];exact leInts_l0 xs hl xs.length k 0 (by omega) (by omega)
theorem leMem_l0 (ws:List Int) (y t o:Int) (cs:List Bool) (hl:cs.length≤1048576) (d:Nat): ∀(k i:Nat),i+d=cs.length→d<k→laws_leMem.l0 k i ws y t o cs ws y t o cs=some true:=by
 induction d with
 |zero=>
  intro k i hi hk;obtain ⟨k,rfl⟩: ∃m,k=m+1:=⟨k - 1,by omega⟩;rw [laws_leMem.l0,if_neg (by omega)]
 |succ d ih=>
  intro k i hi hk;obtain ⟨k,rfl⟩: ∃m,k=m+1:=⟨k - 1,by omega⟩;rw [laws_leMem.l0,if_pos (by omega),if_pos (by omega),if_pos (by omega),if_neg (by simp),wrap_inc (n:=1048577) (by omega) (by omega) (by omega)];have:=ih k (i+1) (by omega) (by omega)
  rw [show ((i+1:Nat):Int)=(i:Int)+1 by omega] at this;exact this
theorem leMem_at (ws:List Int) (y t o:Int) (cs:List Bool) (hw:ws.length≤1048576) (hl:cs.length≤1048576) (k:Nat) (hk:1048580≤k):laws_leMem.f k ws y t o cs ws y t o cs=some true:=by
 unfold laws_leMem.f;rw [leInts_self ws hw k (by omega),Option.bind_some,if_pos rfl,if_pos rfl,if_pos rfl,if_pos rfl];obtain ⟨k,rfl⟩: ∃m,k=m+1:=⟨k - 1,by omega⟩;rw [laws_leMem.j0,if_neg (by simp)];exact leMem_l0 ws y t o cs hl cs.length k 0 (by omega) (by omega)
end Go.Proofs.Ytnlieahdakafbaa.Pure
namespace Go.Proofs.Ytnlieahdakafbaa.K
open Go.RowKit Go.Proofs.YtnlieahdakafbaaW.PrintWords Go.Proofs.YtnlieahdakafbaaW.PrintLast Go.Proofs.YtnlieahdakafbaaW.PrintMore
attribute [local go_sem] max2_int min2_int max_two min_two max_three min_three max_four min_four
set_option linter.unusedVariables false
set_option linter.unusedSimpArgs false
def spec_l21Number.l0:Nat→List Int→List Int→Int→Option (List Int)
  |0,_,_,_=>none
  |k+1,x1,x5,x6=>if x6<(x1.length:Int) then (if 0≤x6 then (if 0≤(rd x1 x6) then (if (rd x1 x6)<(x5.length:Int) then (spec_l21Number.l0 k x1 (x5.set ((rd x1 x6):Int).toNat (wrap64 (x6+1))) (wrap64 (x6+1))) else (none)) else (none)) else (none)) else (some x5)
def spec_l21Number.f (k:Nat) (a0:Int) (l1:List Int):Option (List Int):=if 0≤a0 then (if (a0:Int).toNat≤35184372088832 then (spec_l21Number.l0 k l1 (List.replicate (a0:Int).toNat 0) 0) else (none)) else (none)
def spec_l21Obj.l0:Nat→List Int→Int→List Bool→Int→List Int→Int→Int→Int→List Bool→Int→List (S48)→Option (Int×(List (S48)))
  |0,_,_,_,_,_,_,_,_,_,_,_=>none
  |k+1,x2,x3,x9,x11,x400000,x400001,x400002,x400003,x400004,x409000,x409001=>if x11<(x9.length:Int) then (if 0≤x11 then (if 0≤(wrap64 (x3+x11)) then (if (wrap64 (x3+x11))<(x400000.length:Int) then (if rdOf false x9 x11=true then (if (rd x400000 (wrap64 (x3+x11)))>0 then (if 0≤(wrap64 ((rd x400000 (wrap64 (x3+x11))) - 1)) then (if (wrap64 ((rd x400000 (wrap64 (x3+x11))) - 1))<(x2.length:Int) then (if x409001.length<8796093022208 then (spec_l21Obj.l0 k x2 x3 x9 (wrap64 (x11+1)) x400000 x400001 x400002 x400003 x400004 x409000 (x409001++[(⟨rdOf false x9 x11,rd x2 (wrap64 ((rd x400000 (wrap64 (x3+x11))) - 1))⟩:S48)])) else (none)) else (none)) else (none)) else (if x409001.length<8796093022208 then (spec_l21Obj.l0 k x2 x3 x9 (wrap64 (x11+1)) x400000 x400001 x400002 x400003 x400004 x409000 (x409001++[(⟨rdOf false x9 x11,rd x400000 (wrap64 (x3+x11))⟩:S48)])) else (none))) else (if x409001.length<8796093022208 then (spec_l21Obj.l0 k x2 x3 x9 (wrap64 (x11+1)) x400000 x400001 x400002 x400003 x400004 x409000 (x409001++[(⟨rdOf false x9 x11,rd x400000 (wrap64 (x3+x11))⟩:S48)])) else (none))) else (none)) else (none)) else (none)) else (some (x409000,x409001))
def spec_l21Obj.f (k:Nat) (l0:List (S112)) (l1_0:List Int) (a1_1:Int) (a1_2:Int) (a1_3:Int) (l1_4:List Bool) (l2:List Int) (a3:Int):Option (Int×(List (S48))):=(spec_l21Refs.f k l0 l1_0 a3).bind fun t401=>(if 0≤a3 then (if a3<(l1_0.length:Int) then ((spec_l21Head.f (rd l1_0 a3)).bind fun t409=>(spec_l21Obj.l0 k l2 a3 t401 t409 l1_0 a1_1 a1_2 a1_3 l1_4 (rd l1_0 a3) (([]:List (S48))))) else (none)) else (none))
def spec_l21Obj.B6:List Nat:=[0,0,3,7,0,16,0,0,192,496,1008,2047,0,8191]
def spec_l21Objs.l0:Nat→List (S112)→List Int→List Int→List (S46)→Int→List Int→Int→Int→Int→List Bool→Option ((List (S46)))
  |0,_,_,_,_,_,_,_,_,_,_=>none
  |k+1,x0,x5,x7,x8,x9,x424000,x424001,x424002,x424003,x424004=>if x9<(x5.length:Int) then (if 0≤x9 then ((spec_l21Obj.f k x0 x424000 x424001 x424002 x424003 x424004 x7 (rd x5 x9)).bind fun bt435=>(if x8.length<4398046511104 then (spec_l21Objs.l0 k x0 x5 x7 (x8++[(⟨bt435.1,bt435.2⟩:S46)]) (wrap64 (x9+1)) x424000 x424001 x424002 x424003 x424004) else (none))) else (none)) else (some x8)
def spec_l21Objs.f (k:Nat) (l0:List (S112)) (l1_0:List Int) (a1_1:Int) (a1_2:Int) (a1_3:Int) (l1_4:List Bool):Option ((List (S46))):=(spec_l21Walk.f k l0 l1_0 a1_1 a1_2 a1_3 l1_4).bind fun bt424=>((spec_l21Number.f k (l1_0.length:Int) bt424.1).bind fun t428=>(spec_l21Objs.l0 k l0 bt424.1 t428 (([]:List (S46))) 0 l1_0 a1_1 a1_2 a1_3 l1_4))
def spec_MemObjs.f (k:Nat) (l0:List (S112)) (l1_0:List Int) (a1_1:Int) (a1_2:Int) (a1_3:Int) (l1_4:List Bool):Option ((List (S46))):=(spec_MemOk.f k l0 l1_0 a1_1 a1_2 a1_3 l1_4).bind fun t443=>(if t443=true then ((spec_l21Objs.f k l0 l1_0 a1_1 a1_2 a1_3 l1_4).bind fun t444=>(some t444)) else (some (([]:List (S46)))))
end Go.Proofs.Ytnlieahdakafbaa.K
namespace Go.Proofs.Ytnlieahdakafbaa.Pure
open Go.RowKit Go.Proofs.Ytnlieahdakafbaa.K Go.Proofs.YtnlieahdakafbaaW.PrintWords Go.Proofs.YtnlieahdakafbaaW.PrintLast Go.Proofs.YtnlieahdakafbaaW.PrintMore
set_option linter.unusedVariables false
set_option linter.unusedSimpArgs false
theorem refs_eq {cs:Cs} {ws:List Int} {y t o:Int} {cards:List Bool} (hb:Bnd cs ws y t o cards) {c hd cnt x:Int} (hc:c=rd ws x) (h0:0≤x) (hhd:hd=1∨hd=2) (hcn:0≤cnt) (hcn8:cnt≤8) (hsz:x+hd+cnt≤ws.length) (hhe:spec_l21Head.f c=some hd) (hl21: ∀k,20≤k→spec_l21Size.f k cs ws x ws.length=some (hd+cnt)) (hcc:c= -1∨c= -2∨(0≤c∧c<cs.length∧hd=1∧cnt=(cfl cs c).length)):
  ∀k,200≤k→spec_l21Refs.f k cs ws x=some (refsL cs c hd (hd+cnt)):=by
 intro k hk;unfold spec_l21Refs.f;rw [hl21 k (by omega),Option.bind_some,if_pos (by omega),if_pos (by omega),if_pos h0,if_pos (by omega),←hc,hhe,Option.bind_some]
 have:=refs_l0 hb.ok (c:=c) (hd:=hd) (s:=(hd+cnt).toNat) (by omega) hhd (by rcases hcc with z|z|z;exact .inl z;exact .inr (.inl z);exact .inr (.inr ⟨z.1,z.2.1,z.2.2.1,by omega⟩)) ((hd+cnt).toNat - hd.toNat) k hd.toNat (List.replicate (hd+cnt).toNat false) (by omega) (by omega) (by omega) (by simp) (fun i hi=>by
  rw [List.getD_eq_getElem?_getD,List.getElem?_replicate,if_pos hi]
  rw [decide_eq_false (by omega)];rfl)
 rw [show ((hd.toNat:Nat):Int)=hd by omega,show (((hd+cnt).toNat:Nat):Int)=hd+cnt by omega] at this;exact this
abbrev Vs:=S48
abbrev Os:=S46
theorem things_true {q:Nat} {m:Mm}: ∀{l:List Int},thingsOk q m l=some true→∀a∈l,wordsOk.f q m a=some true
 |[],_,a,ha=>by simp at ha
 | b :: r, h, a, ha => by
  rw [thingsOk] at h;obtain ⟨ok,h1,h2⟩:=Option.bind_eq_some_iff.mp h
  cases ok with
  |false=>simp at h2
  |true=>
   rw [if_pos rfl] at h2;rcases List.mem_cons.mp ha with e|e
   ·rw [e];exact h1
   ·exact things_true h2 a e
theorem wordsL_true {q:Nat} {m:Mm} {a n:Int}: ∀{j:Nat} {x:Int},wordsOk.l q m a n j x=some true→∀k,x≤k→k<n→wordAt q m a k=some true
 |0,_,h,_,_,_=>by simp [wordsOk.l] at h
 | j + 1, x, h, k, h0, h1 => by
  rw [wordsOk.l,if_pos (by omega)] at h;obtain ⟨ok,h2,h3⟩:=Option.bind_eq_some_iff.mp h
  cases ok with
  |false=>simp at h3
  |true=>
   rw [if_pos rfl] at h3;by_cases e:x=k
   ·rw [←e];exact h2
   ·exact wordsL_true h3 k (by omega) h1
theorem word_lead {cs:Cs} {ws W:List Int} {y t o:Int} {cards:List Bool} (hw:Wlk cs ws W) (m:Mm) (hm:m=⟨ws,y,t,o,cards,allF cs,W.map (· +1)⟩) (hok: ∀q,300≤q→thingsOk q m (W.map (· +1))=some true) {x hd cnt c k:Int} (hx:x∈W)
  (hco:thing_count.f m (x+1)=some cnt) (hfi:thing_first.f m (x+1)=some (x+hd)) (hle: ∀k,0≤k→k<cnt→thing_leads.f m (x+1) k=some (ldB cs c k)) (k0:0≤k) (k1:k<cnt) (hl:ldB cs c k=true):
  rd ws (x+hd+k)=0∨rd ws (x+hd+k) - 1∈W:=by
 have h1:=things_true (hok 300 (Nat.le_refl _)) (x+1) ((mem_map1 W (x+1)).mpr (by rw [show x+1 - 1=x by omega];exact hx));unfold wordsOk.f at h1;rw [hco,Option.bind_some] at h1
 split at h1
 case isFalse=>simp at h1
 have h2:=wordsL_true h1 k k0 k1;unfold wordAt at h2;rw [hfi,Option.bind_some] at h2
 split at h2
 case isFalse=>simp at h2
 rw [hle k k0 k1,Option.bind_some,hl,if_pos rfl] at h2;have e:m.words=ws:=by rw [hm]
 rw [e] at h2;by_cases z:rd ws (x+hd+k)=0
 ·exact .inl z
 ·rw [if_neg z, has_eq hw m (by rw [hm]) _ 300 (Nat.le_refl _), Option.bind_some] at h2
  by_cases z2:rd ws (x+hd+k) - 1∈W
  ·exact .inr z2
  ·rw [decide_eq_false z2] at h2;simp at h2
def idx (W:List Int) (x:Int):Nat:=W.idxOf x
theorem idx_lt {W:List Int} {x:Int} (h:x∈W):idx W x<W.length:=List.idxOf_lt_length_of_mem h
theorem idx_at {W:List Int} {x:Int} (h:x∈W):W[idx W x]'(idx_lt h)=x:=List.getElem_idxOf _
theorem number_eq {cs:Cs} {ws W:List Int} (hw:Wlk cs ws W) (m:Mm) (hm:m.begins=W.map (· +1)) {v:Int} (hv:v - 1∈W) (v0:v≠0): ∀q,300≤q→memory_number.f q m v=some ((idx W (v - 1):Int)+1):=by
 intro q hq;have hl:=hw.len;obtain ⟨p,hp,h,h1,h2⟩:=search_eq (map1_sorted hw.srt) (by rw [List.length_map];omega) v;unfold memory_number.f;rw [if_neg v0,hm,h q (by rw [List.length_map];omega),Option.bind_some];rw [List.length_map] at hp;have hx:=idx_lt hv;have ha:=idx_at hv
 have h3:p≤idx W (v - 1):=Nat.le_of_not_lt fun z=>by
  have:=h1 (idx W (v - 1)) (by rw [List.length_map];exact hx) z
  rw [List.getElem_map,ha] at this;omega
 have h4:p=idx W (v - 1):=by
  rcases Nat.eq_or_lt_of_le h3 with z|z
  ·exact z
  ·have h5 := h2 p (by rw [List.length_map]; omega) (Nat.le_refl _)
   rw [List.getElem_map] at h5;have:=sorted_lt hw.srt z hx
   omega
 rw [←h4];show some (wrap64 ((p:Int)+1))=_
 rw [wrap64_of (by omega) (by omega)]
def valAt (cs:Cs) (ws W:List Int) (c b k:Int):Vs:=if ldB cs c k=true then ⟨true,if rd ws (b+k)=0 then 0 else (idx W (rd ws (b+k) - 1):Int)+1⟩ else ⟨false,rd ws (b+k)⟩
def valsL (cs:Cs) (ws W:List Int) (c b:Int):Nat→Int→List Vs
  |0,_=>[]
  |d+1,k=>valAt cs ws W c b k::valsL cs ws W c b d (k+1)
theorem valsL_length (cs:Cs) (ws W:List Int) (c b:Int): ∀d k,(valsL cs ws W c b d k).length=d
  |0,_=>rfl
  |d+1,k=>by rw [valsL,List.length_cons,valsL_length]
theorem objVals_eq {cs:Cs} {ws:List Int} {y t o:Int} {cards:List Bool} (hb:Bnd cs ws y t o cards) {W:List Int} (hw:Wlk cs ws W) (m:Mm) (hm:m=⟨ws,y,t,o,cards,allF cs,W.map (· +1)⟩) (hok: ∀q,300≤q→thingsOk q m (W.map (· +1))=some true) {x hd cnt c:Int} (hx:x∈W) (hhd:hd=1∨hd=2) (hcn8:cnt≤8) (hsz:x+hd+cnt≤ws.length)
  (hco:thing_count.f m (x+1)=some cnt) (hfi:thing_first.f m (x+1)=some (x+hd)) (hle: ∀k,0≤k→k<cnt→thing_leads.f m (x+1) k=some (ldB cs c k)) (q:Nat) (hq:300≤q):
  ∀(d j:Nat) (k:Int) (acc:List Vs),0≤k→k+d=cnt→d<j→acc.length≤100 - d→objVals q m (x+1) cnt j k acc=some (acc++valsL cs ws W c (x+hd) d k):=by
 have n0:=hb.n0;have n1:=hb.n1;have y0:=hb.y0;have y1:=hb.y1;have hr:=wlk_range hw hx;intro d
 induction d with
 |zero=>
  intro j k acc k0 hk hj hacc;obtain ⟨j,rfl⟩: ∃i,j=i+1:=⟨j - 1,by omega⟩;rw [objVals,if_neg (by omega),valsL,List.append_nil]
 | succ d ih =>
  intro j k acc k0 hk hj hacc;obtain ⟨j,rfl⟩: ∃i,j=i+1:=⟨j - 1,by omega⟩;have hmw:m.words=ws:=by rw [hm]
  have hg:memory_get.f m (x+1) k=some (rd ws (x+hd+k)):=by
   unfold memory_get.f;rw [hfi,Option.bind_some,hmw,if_pos (by omega)]
  rw [objVals,if_pos (by omega),hg,Option.bind_some,hle k k0 (by omega),Option.bind_some,if_pos (by omega),valsL]
  have step: ∀v:Vs,v=valAt cs ws W c (x+hd) k→objVals q m (x+1) cnt j (k+1) (acc++[v])=some (acc++valAt cs ws W c (x+hd) k::valsL cs ws W c (x+hd) d (k+1)):=fun v e=>by
   rw [ih j (k+1) (acc++[v]) (by omega) (by omega) (by omega) (by simp<;>omega),e];simp
  by_cases l:ldB cs c k=true
  ·rw [if_pos l]
   rcases word_lead hw m hm hok hx hco hfi hle k0 (by omega) l with z|z
   ·have : memory_number.f q m (rd ws (x + hd + k)) = some 0 := by unfold memory_number.f; rw [if_pos z]
    rw [this,Option.bind_some];exact step _ (by unfold valAt;rw [if_pos l,if_pos z])
   ·have hz := wlk_range hw z
    rw [number_eq hw m (by rw [hm]) z (by omega) q hq,Option.bind_some];exact step _ (by unfold valAt;rw [if_pos l,if_neg (by omega)])
  ·rw [if_neg l]
   exact step _ (by unfold valAt;rw [if_neg l])
theorem l21Copy_eq (ws:List Int) (y t o:Int) (cards:List Bool) (h0:ws.length≤1048576) (h4:cards.length≤1048576):spec_l21Copy.f ws y t o cards=some (ws,y,t,o,cards):=by
 unfold spec_l21Copy.f;rw [Option.bind_some,if_pos (by simp;omega),Option.bind_some,if_pos (by simp;omega)];simp
theorem is_eq {cs:Cs} {ws:List Int} {y t o:Int} {cards:List Bool} (hb:Bnd cs ws y t o cards) {W:List Int} (hw:Wlk cs ws W) (hk: ∀k,4000000≤k→spec_l21Walk.f k cs ws y t o cards=some (W,true)) (a:Int):
  ∀k,4000000≤k→spec_l21Is.f k cs ws y t o cards a=some (decide (a - 1∈W)):=by
 intro k hk2;have n0:=hb.n0;have n1:=hb.n1;have y0:=hb.y0;have y1:=hb.y1;unfold spec_l21Is.f;rw [hk k hk2,Option.bind_some,spec_l6In_eq,Option.bind_some];simp only [decide_eq_true_eq]
 by_cases c:1≤a∧a≤(ws.length:Int)
 ·rw [if_pos c,starts_eq (fun x hx=>wlk_range hw hx) (by have:=hw.len;omega) (by omega) k (by omega),Option.bind_some,wrap64_of (n:=a - 1) (by omega) (by omega),if_pos (by omega),startsL_len,if_pos (by omega),startsL_at W ws.length (by omega) (by omega)]
 ·rw [if_neg c,decide_eq_false (fun h=>c (by have:=wlk_range hw h;omega))]
theorem MemPut_eq {cs : Cs} (hf : fewF cs) {ws : List Int} {y t o : Int} {cards : List Bool} (hn : ws.length ≤ 1048576) (hc : cards.length ≤ 1048576) (a b v : Int) :
    ∃s:List Int×Int×Int×Int×List Bool×Bool,s.1.length≤1048576∧s.2.2.2.2.1.length≤1048576∧(∀k,4000000≤k→impl_MemPut.f k cs ws y t o cards a b v=some s)∧∀k,4000000≤k→spec_MemPut.f k cs ws y t o cards a b v=some s:=by
  obtain ⟨r,h1,h2,h3⟩:=open_eq2 (cs:=cs) hf (ws:=ws) (y:=y) (t:=t) (o:=o) (cards:=cards) hn hc
  cases r with
  |none=>exact ⟨([],0,0,0,[],false),by simp,by simp,fun k hk=>by unfold impl_MemPut.f;rw [h1 k hk];rfl,fun k hk=>by unfold spec_MemPut.f;rw [h2 k hk];rfl⟩
  | some m =>
    obtain ⟨W,hb,hw,hm,hk,hp,_,_⟩:=h3 m rfl;have n0:=hb.n0;have n1:=hb.n1;have y0:=hb.y0;have y1:=hb.y1;have t0:=hb.t0;have t1:=hb.t1;have o0:=hb.o0;have o1:=hb.o1;have cd:=hb.cd;have hh:=has_eq hw m (by rw [hm]) a;have hi:=is_eq hb hw hk a
    have hS: ∀k,4000000≤k→spec_MemPut.f k cs ws y t o cards a b v=(spec_l21Inside.f k cs ws y t o cards a b).bind fun i=>if i.2=true then (spec_l21Refs.f k cs ws (wrap64 (a - 1))).bind fun R=>
        if 0≤wrap64 (wrap64 (i.1 - a)+1)∧wrap64 (wrap64 (i.1 - a)+1)<(R.length:Int) then (spec_l21Walk.f k cs ws y t o cards).bind fun W=>
          if rdOf false R (wrap64 (wrap64 (i.1 - a)+1))=true then (spec_l21Starts.f k (ws.length:Int) W.1).bind fun T=>(spec_l21Lead.f T v).bind fun ld=>sput_end k ld ws y t o cards i.1 v true
          else (spec_l1Word.f v).bind fun z=>sput_end k z ws y t o cards i.1 v false
        else none
      else some ([],0,0,0,[],false):=fun k hk2=>by
      unfold spec_MemPut.f;rw [h2 k hk2,Option.bind_some];simp only [Option.isSome_some,if_true]
    have hI0: ∀k,impl_MemPut.f k cs ws y t o cards a b v=(mopen k k cs ws y t o cards).bind fun r=>putOf k a b v r:=fun k=>rfl
    by_cases c:a - 1∈W
    case neg=>
      refine ⟨([],0,0,0,[],false),by simp,by simp,fun k hk2=>?_,fun k hk2=>?_⟩
      · rw [hI0, h1 k hk2, Option.bind_some]
        unfold putOf memory_hasIn.f
        dsimp only
        rw [hh k (by omega),Option.bind_some,decide_eq_false c];rfl
      · rw [hS k hk2]
        unfold spec_l21Inside.f;rw [hi k hk2,Option.bind_some,decide_eq_false c];rfl
    case pos=>
    obtain ⟨cc,hd,cnt,hcc,h0,hhd,hcn,hcn8,hsz,hco,hfi,hhe,hl21,hle,hcl⟩:=thing_facts hb hw m hm c;rw [show a - 1+1=a by omega] at hco hfi hle
    have hI: ∀k,4000000≤k→spec_l21Inside.f k cs ws y t o cards a b=some (wrap64 (wrap64 (a - 1+hd)+b),decide (0≤b∧b≤cnt - 1)):=fun k hk2=>by
      unfold spec_l21Inside.f
      rw [hi k hk2,Option.bind_some,decide_eq_true c,if_pos rfl,wrap64_of (n:=a - 1) (by omega) (by omega),if_pos (by omega),if_pos (by omega),←hcc,hhe,Option.bind_some,hl21 k (by omega),Option.bind_some,spec_l6In_eq,Option.bind_some,
        show hd+cnt - hd=cnt by omega,wrap64_of (n:=cnt) (by omega) (by omega),wrap64_of (n:=cnt - 1) (by omega) (by omega)]
    by_cases z:0≤b∧b≤cnt - 1
    case neg=>
      refine ⟨([],0,0,0,[],false),by simp,by simp,fun k hk2=>?_,fun k hk2=>?_⟩
      · rw [hI0, h1 k hk2, Option.bind_some]
        unfold putOf memory_hasIn.f
        dsimp only
        rw [hh k (by omega),Option.bind_some,decide_eq_true c,if_pos rfl];by_cases z0:0≤b
        · rw [if_pos z0,hco,Option.bind_some,decide_eq_false (show¬b<cnt by omega)];rfl
        · rw [if_neg z0];rfl
      · rw [hS k hk2,hI k hk2,Option.bind_some,decide_eq_false z];rfl
    case pos=>
    obtain ⟨i,hii⟩: ∃i,i=a - 1+hd+b:=⟨_,rfl⟩;have hiw:wrap64 (wrap64 (a - 1+hd)+b)=i:=by rw [wrap64_of (n:=a - 1+hd) (by omega) (by omega),wrap64_of (by omega) (by omega),hii]
    have hRl:((refsL cs cc hd (hd+cnt)).length:Int)=hd+cnt:=by unfold refsL;rw [List.length_map,List.length_range];omega
    have hrd:rdOf false (refsL cs cc hd (hd+cnt)) (hd+b)=ldB cs cc b:=by rw [refsL_at cs cc hd (hd+cnt) (by omega) (by omega) (by omega),show hd+b - hd=b by omega]
    have hpart:=part_facts hb hp c hl21;have hcd:i≥y→(i - y)/4<(cards.length:Int):=fun _=>by omega
    have hS2: ∀k,4000000≤k→spec_MemPut.f k cs ws y t o cards a b v=if ldB cs cc b=true then sput_end k (decide (v=0)||decide (v - 1∈W)) ws y t o cards i v true else sput_end k (decide (-128≤v∧v≤127)) ws y t o cards i v false:=fun k hk2=>by
      rw [hS k hk2,hI k hk2,Option.bind_some,decide_eq_true z,if_pos rfl]
      dsimp only
      rw [wrap64_of (n:=a - 1) (by omega) (by omega),refs_eq hb hcc h0 hhd hcn hcn8 hsz hhe hl21 hcl k (by omega),Option.bind_some,hiw,wrap64_of (n:=i - a) (by omega) (by omega),wrap64_of (n:=i - a+1) (by omega) (by omega),show i - a+1=hd+b by omega,if_pos (by omega),hk k hk2,Option.bind_some,hrd];by_cases l:ldB cs cc b=true
      · rw [if_pos l,if_pos l,starts_eq (fun x hx=>wlk_range hw hx) (by have:=hw.len;omega) (by omega) k (by omega),Option.bind_some,lead_eq hw hn,Option.bind_some]
      · rw [if_neg l, if_neg l]
        unfold spec_l1Word.f;rw [spec_l6In_eq];rfl
    have hE: ∀k (ok ref:Bool),sput_end k ok ws y t o cards i v ref=if ok=true then some ((putM ws y cards i v ref).1,y,t,o,(putM ws y cards i v ref).2,true) else some ([],0,0,0,[],false):=fun k ok ref=>by
      unfold sput_end
      cases ok with
      |false=>rfl
      |true=>rw [if_pos rfl,if_pos rfl,l21Copy_eq ws y t o cards hn hc,Option.bind_some];dsimp only;rw [l21Put_eq ref hn (by omega) (by omega) y0 y1 hcd,Option.bind_some]
    have hl1: ∀ref,(putM ws y cards i v ref).1.length≤1048576:=fun ref=>by unfold putM;rw [List.length_set];exact hn
    have hl4: ∀ref,(putM ws y cards i v ref).2.length≤1048576:=fun ref=>by unfold putM;dsimp only;split;rw [List.length_set];exact hc;exact hc
    have hP: ∀k,4000000≤k→impl_MemPut.f k cs ws y t o cards a b v=(memory_put.f k m a b v).bind fun p=>if p.1=true then some (p.2.words,p.2.young,p.2.top,p.2.old,p.2.cards,true) else some ([],0,0,0,[],false):=fun k hk2=>by
      rw [hI0,h1 k hk2,Option.bind_some];unfold putOf memory_hasIn.f
      dsimp only
      rw [hh k (by omega),Option.bind_some,decide_eq_true c,if_pos rfl,if_pos z.1,hco,Option.bind_some,decide_eq_true (show b<cnt by omega),Option.bind_some,if_pos rfl]
    have hmem:m.words=ws∧m.young=y∧m.top=t∧m.old=o∧m.cards=cards:=by rw [hm];exact ⟨rfl,rfl,rfl,rfl,rfl⟩
    obtain ⟨m0,m1,m2,m3,m4⟩:=hmem
    have hQ: ∀k,memory_put.f k m a b v=if ldB cs cc b=true then
        (if v=0 then some (true,m.setW i v) else (memory_has.f k m v).bind fun h=>if h=true then
          (if a>y then (if v>y then some (true,m.setW i v) else (if 0≤Int.tdiv (i - y) 4∧Int.tdiv (i - y) 4<(cards.length:Int) then some (true,(m.setC (Int.tdiv (i - y) 4)).setW i v) else none)) else some (true,m.setW i v)) else some (false,m))
        else (impl_isWord.f v).bind fun z=>if z=true then some (true,m.setW i v) else some (false,m):=fun k=>by
      unfold memory_put.f;rw [hfi,Option.bind_some,hle b z.1 (by omega),Option.bind_some,m0,m1,m4,show a - 1+hd+b=i from hii.symm,if_pos (by omega)]
    by_cases l:ldB cs cc b=true
    case neg=>
      have hw8:impl_isWord.f v=some (decide (-128≤v∧v≤127)):=by
        unfold impl_isWord.f;by_cases q:v≥ -128
        · rw [if_pos q];simp [show -128≤v from q]
        · rw [if_neg q];simp [show¬ -128≤v from q]
      by_cases q: -128≤v∧v≤127
      · refine ⟨((putM ws y cards i v false).1, y, t, o, (putM ws y cards i v false).2, true), hl1 false, hl4 false, fun k hk2 => ?_, fun k hk2 => ?_⟩
        · rw [hP k hk2, hQ, if_neg l, hw8, decide_eq_true q, Option.bind_some, if_pos rfl, Option.bind_some, if_pos rfl]
          unfold Mm.setW putM;simp [m0,m1,m2,m3,m4]
        · rw [hS2 k hk2,if_neg l,hE,decide_eq_true q,if_pos rfl]
      · refine ⟨([], 0, 0, 0, [], false), by simp, by simp, fun k hk2 => ?_, fun k hk2 => ?_⟩
        · rw [hP k hk2,hQ,if_neg l,hw8,decide_eq_false q];rfl
        · rw [hS2 k hk2,if_neg l,hE,decide_eq_false q];rfl
    case pos=>
    by_cases v0:v=0
    · refine ⟨((putM ws y cards i v true).1, y, t, o, (putM ws y cards i v true).2, true), hl1 true, hl4 true, fun k hk2 => ?_, fun k hk2 => ?_⟩
      · rw [hP k hk2, hQ, if_pos l, if_pos v0, Option.bind_some, if_pos rfl]
        unfold Mm.setW putM
        dsimp only
        rw [if_neg (by omega),m0,m1,m2,m3,m4]
      · rw [hS2 k hk2,if_pos l,hE,decide_eq_true v0];rfl
    have hhv:=has_eq hw m (by rw [hm]) v;by_cases vw:v - 1∈W
    case neg=>
      refine ⟨([],0,0,0,[],false),by simp,by simp,fun k hk2=>?_,fun k hk2=>?_⟩
      · rw [hP k hk2,hQ,if_pos l,if_neg v0,hhv k (by omega),decide_eq_false vw];rfl
      · rw [hS2 k hk2,if_pos l,hE,decide_eq_false v0,decide_eq_false vw];rfl
    case pos=>
    have hvr:=wlk_range hw vw;refine ⟨((putM ws y cards i v true).1,y,t,o,(putM ws y cards i v true).2,true),hl1 true,hl4 true,fun k hk2=>?_,fun k hk2=>?_⟩
    · rw [hP k hk2, hQ, if_pos l, if_neg v0, hhv k (by omega), decide_eq_true vw, Option.bind_some, if_pos rfl]
      by_cases g1:a>y
      · rw [if_pos g1]
        by_cases g2:v>y
        · rw [if_pos g2, Option.bind_some, if_pos rfl]
          unfold Mm.setW putM
          dsimp only
          rw [if_neg (by omega),m0,m1,m2,m3,m4]
        · have := hcd (by omega)
          rw [if_neg g2,Int.tdiv_eq_ediv_of_nonneg (by omega),if_pos (by omega),Option.bind_some,if_pos rfl];unfold Mm.setW Mm.setC putM
          dsimp only
          rw [if_pos ⟨rfl,by omega,by omega,by omega⟩,m0,m1,m2,m3,m4]
      · rw [if_neg g1, Option.bind_some, if_pos rfl]
        unfold Mm.setW putM
        dsimp only
        rw [if_neg (by omega),m0,m1,m2,m3,m4]
    · rw [hS2 k hk2,if_pos l,hE,decide_eq_false v0,decide_eq_true vw];rfl
end Go.Proofs.Ytnlieahdakafbaa.Pure
namespace Go.Proofs.Ytnlieahdakafbaa.K
open Go.RowKit Go.Proofs.YtnlieahdakafbaaW.PrintWords Go.Proofs.YtnlieahdakafbaaW.PrintLast Go.Proofs.YtnlieahdakafbaaW.PrintMore
attribute [local go_sem] max2_int min2_int max_two min_two max_three min_three max_four min_four
set_option linter.unusedVariables false
set_option linter.unusedSimpArgs false
def getOf (k:Nat) (a2 a3:Int):Option Mm→Option (Int×Bool)
  |none=>some (0,false)
  |some m=>(memory_hasIn.f k m a2 a3).bind fun b=>if b=true then (memory_get.f m a2 a3).bind fun x=>some (x,true) else some (0,false)
def impl_MemGet.f (k:Nat) (l0:List (S112)) (l1_0:List Int) (a1_1:Int) (a1_2:Int) (a1_3:Int) (l1_4:List Bool) (a2:Int) (a3:Int):Option (Int×Bool):=(mopen k k l0 l1_0 a1_1 a1_2 a1_3 l1_4).bind fun r=>getOf k a2 a3 r
theorem eqA48 (d:Nat) (w:World) (x0 y0:Bool) (x1 y1:Int):
  (Op.equalIn (d+2) 48 (.agg #[.bool x0,.int .i64 x1]) (.agg #[.bool y0,.int .i64 y1])).run Try.prog w= .ok (x0==y0&&(x1==y1)) w:=by
 refine eqA_of Try.underlying48 (by kernel_rfl) ?_;refine eqf_cons (by rfl) (by go_simp;rfl) (by go_simp;rfl) (by go_simp) ?_;exact eqf_last (by rfl) (by go_simp;rfl) (by go_simp;rfl) (by go_simp)
end Go.Proofs.Ytnlieahdakafbaa.K
namespace Go.Proofs.Ytnlieahdakafbaa.K
open Go.RowKit Go.Proofs.YtnlieahdakafbaaW.PrintWords Go.Proofs.YtnlieahdakafbaaW.PrintLast Go.Proofs.YtnlieahdakafbaaW.PrintMore
attribute [local go_sem] max2_int min2_int max_two min_two max_three min_three max_four min_four
set_option linter.unusedVariables false
set_option linter.unusedSimpArgs false
attribute [local go_sem high] eqA48
def laws_leVals.l0:Nat→List (S48)→List (S48)→Int→Option (Bool)
  |0,_,_,_=>none
  |k+1,x0,x1,x5=>if x5<(x0.length:Int) then (if 0≤x5 then (if x5<(x1.length:Int) then (if (!(((rd_T48 x0 x5).f0)==((rd_T48 x1 x5).f0))||(!(((rd_T48 x0 x5).f1)==((rd_T48 x1 x5).f1))))=true then (some false) else (laws_leVals.l0 k x0 x1 (wrap64 (x5+1)))) else (none)) else (none)) else (some true)
def laws_leVals.f (k:Nat) (l0:List (S48)) (l1:List (S48)):Option (Bool):=if (l0.length:Int)=(l1.length:Int) then (laws_leVals.l0 k l0 l1 0) else (some false)
end Go.Proofs.Ytnlieahdakafbaa.K
namespace Go.Proofs.Ytnlieahdakafbaa.K
open Go.RowKit Go.Proofs.YtnlieahdakafbaaW.PrintWords Go.Proofs.YtnlieahdakafbaaW.PrintLast Go.Proofs.YtnlieahdakafbaaW.PrintMore
attribute [local go_sem] max2_int min2_int max_two min_two max_three min_three max_four min_four
set_option linter.unusedVariables false
set_option linter.unusedSimpArgs false
def laws_leObjs.l0:Nat→List (S46)→List (S46)→Int→Option (Bool)
  |0,_,_,_=>none
  |k+1,x0,x1,x5=>if x5<(x0.length:Int) then (if 0≤x5 then (if x5<(x1.length:Int) then (if ((rd_T46 x0 x5).f0)=((rd_T46 x1 x5).f0) then ((laws_leVals.f k ((rd_T46 x0 x5).f1) ((rd_T46 x1 x5).f1)).bind fun t393=>(if t393=true then (laws_leObjs.l0 k x0 x1 (wrap64 (x5+1))) else (some false))) else (some false)) else (none)) else (none)) else (some true)
def laws_leObjs.f (k:Nat) (l0:List (S46)) (l1:List (S46)):Option (Bool):=if (l0.length:Int)=(l1.length:Int) then (laws_leObjs.l0 k l0 l1 0) else (some false)
def laws_leVal.l0:Nat→List Int→Int→Int→Option (Bool×Int)
  |0,_,_,_=>none
  |k+1,x0,x1,x5=>if x5<(x0.length:Int) then (if 0≤x5 then (if (rd x0 x5)=x1 then (some (true,wrap64 (x5+1))) else (laws_leVal.l0 k x0 x1 (wrap64 (x5+1)))) else (none)) else (some (true,0))
def laws_leVal.f (k:Nat) (l0:List Int) (a1:Int):Option (Bool×Int):=laws_leVal.l0 k l0 a1 0
end Go.Proofs.Ytnlieahdakafbaa.K
namespace Go.Proofs.Ytnlieahdakafbaa.Pure
open Go.RowKit Go.Proofs.Ytnlieahdakafbaa.K Go.Proofs.YtnlieahdakafbaaW.PrintWords Go.Proofs.YtnlieahdakafbaaW.PrintLast Go.Proofs.YtnlieahdakafbaaW.PrintMore
set_option linter.unusedVariables false
set_option linter.unusedSimpArgs false
theorem walk_parts {cs:Cs} {ws:List Int} {y t o:Int} {cards:List Bool} (hb:Bnd cs ws y t o cards) {W:List Int} (hk: ∀k,4000000≤k→spec_l21Walk.f k cs ws y t o cards=some (W,true)):
  W=(pw ws (allF cs) t t.toNat 0).1++(pw ws (allF cs) o (o - y).toNat y).1∧(pw ws (allF cs) t t.toNat 0).2=true∧(pw ws (allF cs) o (o - y).toNat y).2=true:=by
 have n0:=hb.n0;have n1:=hb.n1;have y0:=hb.y0;have y1:=hb.y1;have t0:=hb.t0;have t1:=hb.t1;have o0:=hb.o0;have o1:=hb.o1;have l1:=pw_len ws (allF cs) t t.toNat 0;have l2:=pw_len ws (allF cs) o (o - y).toNat y;have h:=hk 4000000 (Nat.le_refl _);unfold spec_l21Walk.f spec_l21Part.f at h;rw [pw_part hb.ok (by omega) (by omega) t.toNat 0 [] 4000000 (by omega) (by omega) (by omega) (by simp;omega),Option.bind_some,pw_part hb.ok (by omega) (by omega) (o - y).toNat y [] 4000000 (by omega) (by omega) (by omega) (by simp;omega),Option.bind_some] at h;simp only [List.nil_append] at h;rw [if_pos (by omega),Option.bind_some] at h
 cases c:(pw ws (allF cs) t t.toNat 0).2 with
 |true=>
  rw [c,if_pos rfl] at h;have h2:=Option.some.inj h;exact ⟨(Prod.mk.inj h2).1.symm,rfl,(Prod.mk.inj h2).2⟩
 |false=>
  rw [c,if_neg (by simp)] at h;have h2:=Option.some.inj h;exact absurd (Prod.mk.inj h2).2 (by simp)
theorem size_in {cs:Cs} {ws:List Int} {y t o:Int} {cards:List Bool} (hb:Bnd cs ws y t o cards) {W:List Int} (hw:Wlk cs ws W) (m:Mm) (hm:m=⟨ws,y,t,o,cards,allF cs,W.map (· +1)⟩)
  (h1: ∀k,4000000≤k→mopen k k cs ws y t o cards=some (some m)) {x:Int} (hx:x∈W):0<mstep ws (allF cs) ws.length x∧mstep ws (allF cs) ws.length x≤ws.length∧∀k,4000000≤k→impl_MemSize.f k cs ws y t o cards (x+1)=some (mstep ws (allF cs) ws.length x):=by
 have n0:=hb.n0;have n1:=hb.n1;have y0:=hb.y0;have y1:=hb.y1;have hh:=has_eq hw m (by rw [hm]) (x+1);have hxr:=wlk_range hw hx;obtain ⟨cc,hd,cnt,hcc,h0,hhd,hcn,hcn8,hsz,hco,hfi,hhe,hl21,_⟩:=thing_facts hb hw m hm hx;have h20:=hl21 4000000 (by omega);rw [l21Size_eq hb.ok (by omega) h0 (Int.le_refl _) 4000000 (by omega),if_pos hxr.2] at h20;have h20:=Option.some.inj h20;have hl:=mwalk_lt ws (allF cs) ws.length x;refine ⟨by omega,by omega,fun k hk2=>?_⟩;unfold impl_MemSize.f;rw [h1 k hk2,Option.bind_some];show ((memory_has.f k m (x+1)).bind fun b=>if b=true then thing_size.f m (x+1) else some 0)=_
 rw [hh k (by omega),Option.bind_some,show x+1 - 1=x by omega,decide_eq_true hx,if_pos rfl];unfold thing_size.f;rw [hfi,Option.bind_some,hco,Option.bind_some,show x+hd - (x+1 - 1)+cnt=hd+cnt by omega,wrap64_of (by omega) (by omega),h20]
def hdN (c:Int):Int:=if c<0 then 2 else 1
def szN (cs:Cs) (ws:List Int) (x:Int):Int:=mstep ws (allF cs) ws.length x
def VOk (cs:Cs) (W:List Int) (c k v:Int):Prop:=if ldB cs c k=true then v=0∨v - 1∈W else -128≤v∧v≤127
def Wd (cs:Cs) (ws:List Int) (y:Int) (cards:List Bool) (W:List Int) (x i k:Int):Prop:=
  VOk cs W (rd ws x) k (rd ws i)∧(ldB cs (rd ws x) k=true→x≥y→1≤rd ws i→rd ws i≤y→rdOf false cards ((i - y)/4)=true)
structure Opn (cs:Cs) (ws:List Int) (y t o:Int) (cards:List Bool) (W:List Int):Prop where
 b:Bnd cs ws y t o cards
 z: ∀j:Nat,j<ws.length→Zr ws y t o j
 w1:(pw ws (allF cs) t t.toNat 0).2=true
 w2:(pw ws (allF cs) o (o - y).toNat y).2=true
 w:W=(pw ws (allF cs) t t.toNat 0).1++(pw ws (allF cs) o (o - y).toNat y).1
 d: ∀x∈W,∀k,0≤k→k<szN cs ws x - hdN (rd ws x)→Wd cs ws y cards W x (x+hdN (rd ws x)+k) k
def mmOf (cs:Cs) (ws:List Int) (y t o:Int) (cards:List Bool) (W:List Int):Mm:=⟨ws,y,t,o,cards,allF cs,W.map (· +1)⟩
theorem parts_zero {cs:Cs} {ws:List Int} {y t o:Int} {cards:List Bool} (hb:Bnd cs ws y t o cards):impl_partsOk.f ws y t o cards=some true↔∀j:Nat,j<ws.length→Zr ws y t o j:=by
 have n0:=hb.n0;have n1:=hb.n1;have y0:=hb.y0;have y1:=hb.y1;have t0:=hb.t0;have t1:=hb.t1;have o0:=hb.o0;have o1:=hb.o1;have cd:=hb.cd;have w:wrap64 ((ws.length:Int) - y)=(ws.length:Int) - y:=wrap64_of (by omega) (by omega)
 have w4:cardsN (wrap64 ((ws.length:Int) - y))=((ws.length:Int) - y+3)/4:=by
  rw [w];unfold cardsN;rw [wrap64_of (n:=(ws.length:Int) - y+4) (by omega) (by omega),wrap64_of (n:=(ws.length:Int) - y+4 - 1) (by omega) (by omega),Int.tdiv_eq_ediv_of_nonneg (by omega),show (ws.length:Int) - y+4 - 1=(ws.length:Int) - y+3 by omega,wrap64_of (by omega) (by omega)]
 have e0:pOk ws y t o cards 0=true:=decide_eq_true ⟨y0,y1⟩
 have e1:pOk ws y t o cards 1=true:=decide_eq_true (by rw [w];exact ⟨n0,n1⟩)
 have e2:pOk ws y t o cards 2=true:=decide_eq_true ⟨t0,t1⟩
 have e3:pOk ws y t o cards 3=true:=decide_eq_true ⟨o0,o1⟩
 have e4:pOk ws y t o cards 4=true:=beq_iff_eq.mpr (by rw [w4];exact cd)
 have h5:pOk ws y t o cards 5=true↔∀j:Nat,t≤j→(j:Int)≤y - 1→ws.getD j 0=0:=by
  show ((ws.take y.toNat).drop t.toNat).all (· ==0)=true↔_
  rw [all_drop_iff]
  constructor
  ·intro h j h1 h2
   have:=h j (by omega) (by rw [List.length_take];omega)
   rw [List.getD_eq_getElem?_getD,List.getElem?_take,if_pos (by omega)] at this;rw [List.getD_eq_getElem?_getD];exact this
  ·intro h j h1 h2
   rw [List.length_take] at h2;rw [List.getD_eq_getElem?_getD,List.getElem?_take,if_pos (by omega)];have:=h j (by omega) (by omega)
   rw [List.getD_eq_getElem?_getD] at this;exact this
 have h6:pOk ws y t o cards 6=true↔∀j:Nat,o≤j→j<ws.length→ws.getD j 0=0:=by
  show ((ws.drop y.toNat).drop (o - y).toNat).all (· ==0)=true↔_
  rw [List.drop_drop,all_drop_iff]
  constructor
  ·intro h j h1 h2;exact h j (by omega) h2
  ·intro h j h1 h2;exact h j (by omega) h2
 unfold impl_partsOk.f;rw [if_pos (by omega),e0,e1,e2,e3,e4];simp only [Bool.true_and,Option.some.injEq,Bool.and_eq_true]
 rw [h5,h6]
 constructor
 ·rintro ⟨q1, q2⟩ j hj z
  rcases z with z|z
  ·exact q1 j z.1 z.2
  ·exact q2 j z hj
 ·intro q
  exact ⟨fun j h1 h2=>q j (by omega) (Or.inl ⟨h1,h2⟩),fun j h1 h2=>q j h2 (Or.inr h1)⟩
theorem thing_know {cs:Cs} {ws:List Int} {y t o:Int} {cards:List Bool} (hb:Bnd cs ws y t o cards) {W:List Int} (hw:Wlk cs ws W) {x:Int} (hx:x∈W):
  0≤x∧x<ws.length∧0≤szN cs ws x - hdN (rd ws x)∧szN cs ws x - hdN (rd ws x)≤8∧x+szN cs ws x≤ws.length∧(hdN (rd ws x)=1∨hdN (rd ws x)=2)∧(rd ws x<0→hdN (rd ws x)=2)∧
   thing_count.f (mmOf cs ws y t o cards W) (x+1)=some (szN cs ws x - hdN (rd ws x))∧thing_first.f (mmOf cs ws y t o cards W) (x+1)=some (x+hdN (rd ws x))∧
   (∀k,0≤k→k<szN cs ws x - hdN (rd ws x)→thing_leads.f (mmOf cs ws y t o cards W) (x+1) k=some (ldB cs (rd ws x) k))∧∀k,20≤k→spec_l21Size.f k cs ws x ws.length=some (szN cs ws x):=by
 have n0:=hb.n0;have n1:=hb.n1;have y0:=hb.y0;have y1:=hb.y1;obtain ⟨cc,hd,cnt,hcc,h0,hhd,hcn,hcn8,hsz,hco,hfi,hhe,hl21,hle,hcl⟩:=thing_facts (t:=t) (o:=o) (cards:=cards) hb hw _ rfl hx;have hxr:=wlk_range hw hx;have h20:=hl21 20 (Nat.le_refl _);rw [l21Size_eq hb.ok (by omega) h0 (Int.le_refl _) 20 (by omega),if_pos hxr.2] at h20;have h20:=Option.some.inj h20
 have hh:hdN (rd ws x)=hd:=by
  unfold spec_l21Head.f at hhe;unfold hdN;rw [←hcc];by_cases c:cc<0
  ·rw [if_pos c] at hhe ⊢;exact Option.some.inj hhe
  ·rw [if_neg c] at hhe ⊢;exact Option.some.inj hhe
 have hs:szN cs ws x - hdN (rd ws x)=cnt:=by unfold szN;rw [hh,h20];omega
 have hs2:szN cs ws x=hd+cnt:=by unfold szN;exact h20
 rw [hs,hh];refine ⟨h0,hxr.2,hcn,hcn8,by omega,hhd,fun hn=>?_,hco,hfi,fun k k0 k1=>by rw [←hcc];exact hle k k0 k1,fun k hk=>by rw [hs2];exact hl21 k hk⟩;rw [←hh];unfold hdN;rw [if_pos hn]
theorem word_iff {cs:Cs} {ws:List Int} {y t o:Int} {cards:List Bool} (hb:Bnd cs ws y t o cards) {W:List Int} (hw:Wlk cs ws W) {x:Int} (hx:x∈W) {k:Int} (k0:0≤k) (k1:k<szN cs ws x - hdN (rd ws x)) (q:Nat) (hq:300≤q):
  wordAt q (mmOf cs ws y t o cards W) (x+1) k=some true↔Wd cs ws y cards W x (x+hdN (rd ws x)+k) k:=by
 have n0:=hb.n0;have n1:=hb.n1;have y0:=hb.y0;have y1:=hb.y1;have cd:=hb.cd;obtain ⟨h0,h1,h2,h3,h4,h5,_,hco,hfi,hle,_⟩:=thing_know (t:=t) (o:=o) (cards:=cards) hb hw hx;obtain ⟨i,hi⟩: ∃i,i=x+hdN (rd ws x)+k:=⟨_,rfl⟩;obtain ⟨v,hv⟩: ∃v,v=rd ws i:=⟨_,rfl⟩;rw [←hi];have hi0:x<i∧i<ws.length:=by omega
 have hA:wordAt q (mmOf cs ws y t o cards W) (x+1) k=if ldB cs (rd ws x) k=true then (if v=0 then some true else (memory_has.f q (mmOf cs ws y t o cards W) v).bind fun h=>if h=true then cardOk (mmOf cs ws y t o cards W) (x+1) v i else some false) else impl_isWord.f v:=by
  unfold wordAt;rw [hfi,Option.bind_some,show (mmOf cs ws y t o cards W).words=ws from rfl,←hi,if_pos (by omega),hle k k0 k1,Option.bind_some,←hv]
 rw [hA];unfold Wd VOk;rw [←hv];by_cases l:ldB cs (rd ws x) k=true
 case neg=>
  rw [if_neg l,if_neg l]
  have hw8:impl_isWord.f v=some (decide (-128≤v∧v≤127)):=by
   unfold impl_isWord.f;by_cases q:v≥ -128
   ·rw [if_pos q];simp [show -128≤v from q]
   ·rw [if_neg q];simp [show¬ -128≤v from q]
  rw [hw8,Option.some.injEq,decide_eq_true_iff];exact ⟨fun h=>⟨h,fun e=>absurd e l⟩,fun h=>h.1⟩
 case pos=>
 rw [if_pos l,if_pos l];by_cases v0:v=0
 ·rw [if_pos v0]
  exact ⟨fun _=>⟨.inl v0,fun _ _ e=>by omega⟩,fun _=>rfl⟩
 rw [if_neg v0,has_eq hw _ rfl v q hq,Option.bind_some];by_cases vw:v - 1∈W
 case neg=>
  rw [decide_eq_false vw];exact ⟨fun h=>by simp at h,fun h=>absurd (h.1.resolve_left v0) vw⟩
 case pos=>
 have hvr:=wlk_range hw vw;rw [decide_eq_true vw,if_pos rfl]
 have hC:cardOk (mmOf cs ws y t o cards W) (x+1) v i=if x≥y then (if 1≤v∧v≤y then some (rdOf false cards ((i - y)/4)) else some true) else some true:=by
  unfold cardOk;show (if x+1>y then (if v>y then some true else (if 0≤wrap64 (Int.tdiv (wrap64 (i - y)) 4)∧wrap64 (Int.tdiv (wrap64 (i - y)) 4)<(cards.length:Int) then some (rdOf false cards (wrap64 (Int.tdiv (wrap64 (i - y)) 4))) else none)) else some true)=_
  by_cases z1:x≥y
  ·rw [if_pos (show x + 1 > y by omega), if_pos z1]
   by_cases z2:v>y
   ·rw [if_pos z2,if_neg (by omega)]
   ·rw [if_neg z2,if_pos (show 1≤v∧v≤y by omega),wrap64_of (n:=i - y) (by omega) (by omega),Int.tdiv_eq_ediv_of_nonneg (by omega),wrap64_of (n:=(i - y)/4) (by omega) (by omega),if_pos (by omega)]
  ·rw [if_neg (show¬x+1>y by omega),if_neg z1]
 rw [hC];by_cases z1:x≥y
 ·rw [if_pos z1]
  by_cases z2:1≤v∧v≤y
  ·rw [if_pos z2, Option.some.injEq]
   exact ⟨fun h=>⟨.inr vw,fun _ _ _ _=>h⟩,fun h=>h.2 l z1 z2.1 z2.2⟩
  ·rw [if_neg z2]
   exact ⟨fun _=>⟨.inr vw,fun _ _ a b=>absurd ⟨a,b⟩ z2⟩,fun _=>rfl⟩
 ·rw [if_neg z1]
  exact ⟨fun _=>⟨.inr vw,fun _ a=>absurd a z1⟩,fun _=>rfl⟩
theorem wordsl_iff (q:Nat) (m:Mm) (a n:Int): ∀(d:Nat) (k:Int) (j:Nat),0≤k→k+d=n→d+1≤j→(wordsOk.l q m a n j k=some true↔∀i,k≤i→i<n→wordAt q m a i=some true):=by
 intro d
 induction d with
 |zero=>
  intro k j h0 hd hj;obtain ⟨j,rfl⟩: ∃i,j=i+1:=⟨j - 1,by omega⟩;rw [wordsOk.l,if_neg (by omega)];exact ⟨fun _ i h1 h2=>by omega,fun _=>rfl⟩
 | succ d ih =>
  intro k j h0 hd hj;obtain ⟨j,rfl⟩: ∃i,j=i+1:=⟨j - 1,by omega⟩;rw [wordsOk.l,if_pos (by omega)];have ih:=ih (k+1) j (by omega) (by omega) (by omega)
  constructor
  ·intro h i h1 h2
   obtain ⟨b,hb,h⟩:=Option.bind_eq_some_iff.mp h
   cases b with
   |false=>simp at h
   |true=>
    rw [if_pos rfl] at h;rcases Int.lt_or_eq_of_le h1 with z|z
    ·exact ih.mp h i (by omega) h2
    ·rw [←z];exact hb
  ·intro h
   rw [h k (by omega) (by omega),Option.bind_some,if_pos rfl];exact ih.mpr (fun i h1 h2=>h i (by omega) h2)
theorem things_iff (q:Nat) (m:Mm): ∀L:List Int,thingsOk q m L=some true↔∀a∈L,wordsOk.f q m a=some true
 |[]=>by simp [thingsOk]
 | a :: r => by
  have ih:=things_iff q m r;rw [thingsOk]
  constructor
  ·intro h z hz
   obtain ⟨b,hb,h⟩:=Option.bind_eq_some_iff.mp h
   cases b with
   |false=>simp at h
   |true=>
    rw [if_pos rfl] at h;rcases List.mem_cons.mp hz with rfl|hz
    ·exact hb
    ·exact ih.mp h z hz
  ·intro h
   rw [h a (List.mem_cons_self ..),Option.bind_some,if_pos rfl];exact ih.mpr (fun z hz=>h z (List.mem_cons_of_mem _ hz))
theorem allw_iff {cs:Cs} {ws:List Int} {y t o:Int} {cards:List Bool} (hb:Bnd cs ws y t o cards) {W:List Int} (hw:Wlk cs ws W) (q:Nat) (hq:300≤q):
  thingsOk q (mmOf cs ws y t o cards W) (W.map (· +1))=some true↔∀x∈W,∀k,0≤k→k<szN cs ws x - hdN (rd ws x)→Wd cs ws y cards W x (x+hdN (rd ws x)+k) k:=by
 rw [things_iff]
 have one: ∀x∈W,wordsOk.f q (mmOf cs ws y t o cards W) (x+1)=some true↔∀k,0≤k→k<szN cs ws x - hdN (rd ws x)→Wd cs ws y cards W x (x+hdN (rd ws x)+k) k:=fun x hx=>by
  obtain ⟨h0,h1,h2,h3,h4,h5,_,hco,hfi,hle,_⟩:=thing_know (t:=t) (o:=o) (cards:=cards) hb hw hx;unfold wordsOk.f;rw [hco,Option.bind_some,if_pos (by omega),wordsl_iff q _ (x+1) _ (szN cs ws x - hdN (rd ws x)).toNat 0 _ (by omega) (by omega) (by omega)];exact ⟨fun h k k0 k1=>(word_iff hb hw hx k0 k1 q hq).mp (h k k0 k1),fun h k k0 k1=>(word_iff hb hw hx k0 k1 q hq).mpr (h k k0 k1)⟩
 constructor
 ·intro h x hx
  exact (one x hx).mp (h (x+1) (List.mem_map.mpr ⟨x,hx,rfl⟩))
 ·intro h a ha
  obtain ⟨x,hx,rfl⟩:=List.mem_map.mp ha;exact (one x hx).mpr (h x hx)
theorem Opn.wlk {cs:Cs} {ws:List Int} {y t o:Int} {cards:List Bool} {W:List Int} (h:Opn cs ws y t o cards W):Wlk cs ws W:=by
 have n0:=h.b.n0;have n1:=h.b.n1;have y0:=h.b.y0;have y1:=h.b.y1;have t0:=h.b.t0;have t1:=h.b.t1;have o0:=h.b.o0;have o1:=h.b.o1;have l1:=pw_len ws (allF cs) t t.toNat 0;have l2:=pw_len ws (allF cs) o (o - y).toNat y;have m1:=pw_mem ws (allF cs) t t.toNat 0;have m2:=pw_mem ws (allF cs) o (o - y).toNat y;have s1:=pw_sorted ws (allF cs) t t.toNat 0;have s2:=pw_sorted ws (allF cs) o (o - y).toNat y;rw [h.w];refine ⟨fun x hx=>?_,?_,by rw [List.length_append];omega⟩
 ·rcases List.mem_append.mp hx with z | z
  ·have:=m1 x z;exact ⟨t,by omega,by omega,by omega,by omega,by omega⟩
  ·have:=m2 x z;exact ⟨o,by omega,by omega,by omega,by omega,by omega⟩
 ·rw [List.pairwise_append]
  exact ⟨s1,s2,fun a ha b hb'=>by have:=m1 a ha;have:=m2 b hb';omega⟩
theorem Opn.to {cs:Cs} {ws:List Int} {y t o:Int} {cards:List Bool} {W:List Int} (h:Opn cs ws y t o cards W): ∀k,4000000≤k→mopen k k cs ws y t o cards=some (some (mmOf cs ws y t o cards W)):=by
 intro k hk;have n0:=h.b.n0;have n1:=h.b.n1;have y0:=h.b.y0;have y1:=h.b.y1;have t0:=h.b.t0;have t1:=h.b.t1;have o0:=h.b.o0;have o1:=h.b.o1;have cd:=h.b.cd;have l1:=pw_len ws (allF cs) t t.toNat 0;have l2:=pw_len ws (allF cs) o (o - y).toNat y;have hp:impl_partsOk.f ws y t o cards=some true:=(parts_zero h.b).mpr h.z
 have ht:=(allw_iff h.b h.wlk k (by omega)).mpr h.d;unfold mopen
 rw [impl_ClassesOk_eq cs k (by omega),h.b.ok,Option.bind_some,if_pos rfl,hp,Option.bind_some,if_pos rfl,allFields_eq h.b.ok k (by omega),Option.bind_some,if_pos ⟨allF_all h.b.ok,by omega,by omega⟩,
  pw_mwalk ws (allF cs) t t.toNat 0 [] k (by omega) (by omega),Option.bind_some,if_pos h.w1,if_pos (by simp;omega),pw_mwalk ws (allF cs) o (o - y).toNat y _ k (by omega) (by omega),Option.bind_some,if_pos h.w2,if_pos (by simp;omega)]
 simp only [List.nil_append,←List.map_append]
 rw [←h.w];unfold mmOf at ht ⊢;rw [ht];rfl
theorem opn_of {cs:Cs} (hf:fewF cs) {ws:List Int} {y t o:Int} {cards:List Bool} (hn:ws.length≤1048576) (hc:cards.length≤1048576):
  ∃r:Option Mm,(∀k,4000000≤k→mopen k k cs ws y t o cards=some r)∧(∀k,4000000≤k→spec_MemOk.f k cs ws y t o cards=some r.isSome)∧∀m,r=some m→∃W,Opn cs ws y t o cards W∧m=mmOf cs ws y t o cards W∧(∀k,4000000≤k→spec_l21Walk.f k cs ws y t o cards=some (W,true)):=by
 obtain ⟨r,h1,h2,h3⟩:=open_eq2 (cs:=cs) hf (ws:=ws) (y:=y) (t:=t) (o:=o) (cards:=cards) hn hc;refine ⟨r,h1,h2,fun m hm=>?_⟩;obtain ⟨W,hb,hw,hm2,hk,hp,hW,ht⟩:=h3 m hm;obtain ⟨e,p1,p2⟩:=walk_parts hb hk;refine ⟨W,⟨hb,?_,p1,p2,e,?_⟩,hm2,hk⟩
 ·refine (parts_zero hb).mp ?_
  obtain ⟨p,hp1,_,_⟩:=bounds_eq (cs:=cs) (y:=y) (t:=t) (o:=o) hf hb.ok hn hc
  cases p with
  |true=>exact hp1
  |false=>
   have q:=h1 4000000 (Nat.le_refl _);unfold mopen at q;rw [impl_ClassesOk_eq cs 4000000 (by omega),hb.ok,Option.bind_some,if_pos rfl,hp1,Option.bind_some,if_neg (by simp)] at q;rw [hm] at q;simp at q
 ·have := ht 300 (Nat.le_refl _)
  rw [hm2] at this;exact (allw_iff hb hw 300 (Nat.le_refl _)).mp this
end Go.Proofs.Ytnlieahdakafbaa.Pure
namespace Go.Proofs.Ytnlieahdakafbaa.K
open Go.RowKit Go.Proofs.YtnlieahdakafbaaW.PrintWords Go.Proofs.YtnlieahdakafbaaW.PrintLast Go.Proofs.YtnlieahdakafbaaW.PrintMore
attribute [local go_sem] max2_int min2_int max_two min_two max_three min_three max_four min_four
set_option linter.unusedVariables false
set_option linter.unusedSimpArgs false
def impl_MemOk.f (k:Nat) (l0:List (S112)) (l1_0:List Int) (a1_1:Int) (a1_2:Int) (a1_3:Int) (l1_4:List Bool):Option (Bool):=(mopen k k l0 l1_0 a1_1 a1_2 a1_3 l1_4).bind fun r=>some r.isSome
end Go.Proofs.Ytnlieahdakafbaa.K
namespace Go.Proofs.Ytnlieahdakafbaa.Pure
open Go.RowKit Go.Proofs.Ytnlieahdakafbaa.K Go.Proofs.YtnlieahdakafbaaW.PrintWords Go.Proofs.YtnlieahdakafbaaW.PrintLast Go.Proofs.YtnlieahdakafbaaW.PrintMore
set_option linter.unusedVariables false
set_option linter.unusedSimpArgs false
def Chn (sz:Int→Int) (e:Int):Int→List Int→Prop
  |i,[]=>i=e
  |i,x::r=>x=i∧Chn sz e (i+sz i) r
theorem pw_chn (ws:List Int) (F:List (List Int)) (e N:Int) (hN:e≤N): ∀(n:Nat) (i:Int),(e - i).toNat≤n→i≤e→(pw ws F e n i).2=true→Chn (mstep ws F N) e i (pw ws F e n i).1
 |0,i,h,hi,_=>by simp only [pw,Chn];omega
 | n + 1, i, h, hi, ht => by
  rw [pw] at ht ⊢;by_cases c:i<e
  ·rw [if_pos c] at ht ⊢
   by_cases c2:mstep ws F e i=0
   ·rw [if_pos c2] at ht;simp at ht
   ·rw [if_neg c2] at ht ⊢
    have hl:=mwalk_lt ws F e i;have hu:=mstep_up (ws:=ws) (F:=F) (e:=e) (x:=i) (by omega) hN;refine ⟨rfl,?_⟩;rw [hu];exact pw_chn ws F e N hN n (i+mstep ws F e i) (by omega) (by omega) ht
  ·rw [if_neg c];simp only [Chn];omega
theorem rd_set_ne {ws:List Int} {i j:Int} (v:Int) (hi:0≤i) (hj:0≤j) (h:j≠i):rd (ws.set i.toNat v) j=rd ws j:=by
  unfold rd;rw [List.getD_eq_getElem?_getD,List.getD_eq_getElem?_getD,List.getElem?_set_ne (by omega)]
theorem rd_set_eq {ws:List Int} {i:Int} (v:Int) (hi:0≤i) (h:i<ws.length):rd (ws.set i.toNat v) i=v:=by
  unfold rd;rw [List.getD_eq_getElem?_getD,List.getElem?_set_self (by omega)];rfl
theorem pw_congr {ws ws':List Int} {F:List (List Int)} {e:Int}: ∀(n:Nat) (i:Int),(∀x∈(pw ws F e n i).1,mstep ws' F e x=mstep ws F e x)→(pw ws F e n i).2=true→pw ws' F e n i=pw ws F e n i
 |0,i,_,_=>rfl
 | n + 1, i, hm, ht => by
  rw [pw] at hm ht ⊢;rw [pw];by_cases c:i<e
  ·rw [if_pos c] at hm ht ⊢
   rw [if_pos c];by_cases c2:mstep ws F e i=0
   ·rw [if_pos c2] at ht;simp at ht
   ·rw [if_neg c2] at hm ht ⊢
    have h0:=hm i (List.mem_cons_self ..);rw [h0,if_neg c2,pw_congr n (i+mstep ws F e i) (fun x hx=>hm x (List.mem_cons_of_mem _ hx)) ht]
  ·rw [if_neg c,if_neg c]
theorem chn_apart {sz:Int→Int} {e:Int}: ∀(L:List Int) (i:Int),Chn sz e i L→(∀x∈L,0<sz x)→(∀x∈L,i≤x)∧∀x∈L,∀z∈L,x<z→x+sz x≤z
 |[],_,_,_=>⟨by simp,by simp⟩
 | a :: r, i, ⟨ha, hr⟩, hp => by
  have h1:=hp a (List.mem_cons_self ..);obtain ⟨q1,q2⟩:=chn_apart r _ hr (fun x hx=>hp x (List.mem_cons_of_mem _ hx));subst ha;refine ⟨fun x hx=>?_,fun x hx z hz hxz=>?_⟩
  ·rcases List.mem_cons.mp hx with rfl | hx
   ·exact Int.le_refl _
   ·have:=q1 x hx;omega
  ·rcases List.mem_cons.mp hx with e | hx2
   ·rcases List.mem_cons.mp hz with e2 | hz2
    ·omega
    ·subst e;exact q1 z hz2
   ·rcases List.mem_cons.mp hz with e2 | hz2
    ·have:=q1 x hx2;omega
    ·exact q2 x hx2 z hz2 hxz
section
variable {cs:Cs} {ws:List Int} {y t o:Int} {cards:List Bool} {W:List Int}
theorem Opn.part (h:Opn cs ws y t o cards W) {x:Int} (hx:x∈W):(0≤x∧x+szN cs ws x≤t∧0<szN cs ws x∧x∈(pw ws (allF cs) t t.toNat 0).1)∨(y≤x∧x+szN cs ws x≤o∧0<szN cs ws x∧x∈(pw ws (allF cs) o (o - y).toNat y).1):=by
 have n0:=h.b.n0;have n1:=h.b.n1;have t1:=h.b.t1;have o1:=h.b.o1;have y1:=h.b.y1;rw [h.w] at hx;unfold szN;rcases List.mem_append.mp hx with z|z
 ·have m := pw_mem ws (allF cs) t t.toNat 0 x z
  rw [mstep_up m.2.2.1 (show t≤ws.length by omega)];exact .inl ⟨by omega,by omega,by omega,z⟩
 ·have m := pw_mem ws (allF cs) o (o - y).toNat y x z
  rw [mstep_up m.2.2.1 (show o≤ws.length by omega)];exact .inr ⟨by omega,by omega,by omega,z⟩
theorem Opn.apart (h:Opn cs ws y t o cards W) {x z:Int} (hx:x∈W) (hz:z∈W) (hxz:x<z):x+szN cs ws x≤z:=by
 have n0:=h.b.n0;have n1:=h.b.n1;have t0:=h.b.t0;have t1:=h.b.t1;have o0:=h.b.o0;have o1:=h.b.o1;have y1:=h.b.y1;have c1:=pw_chn ws (allF cs) t ws.length (by omega) t.toNat 0 (by omega) (by omega) h.w1;have c2:=pw_chn ws (allF cs) o ws.length (by omega) (o - y).toNat y (by omega) (by omega) h.w2;have pos: ∀x∈W,0<mstep ws (allF cs) ws.length x:=fun x hx=>by have:=h.part hx;unfold szN at this;omega
 have a1:=chn_apart _ _ c1 (fun x hx=>pos x (by rw [h.w];exact List.mem_append_left _ hx));have a2:=chn_apart _ _ c2 (fun x hx=>pos x (by rw [h.w];exact List.mem_append_right _ hx));rcases h.part hx with ⟨p1,p2,p3,p4⟩|⟨p1,p2,p3,p4⟩
 ·rcases h.part hz with ⟨q1, q2, q3, q4⟩ | ⟨q1, q2, q3, q4⟩
  ·exact a1.2 x p4 z q4 hxz
  ·omega
 ·rcases h.part hz with ⟨q1, q2, q3, q4⟩ | ⟨q1, q2, q3, q4⟩
  ·omega
  ·exact a2.2 x p4 z q4 hxz
theorem Opn.know (h:Opn cs ws y t o cards W) {x:Int} (hx:x∈W):0≤x∧x<ws.length∧0≤szN cs ws x - hdN (rd ws x)∧szN cs ws x - hdN (rd ws x)≤8∧x+szN cs ws x≤ws.length∧(hdN (rd ws x)=1∨hdN (rd ws x)=2)∧(rd ws x<0→hdN (rd ws x)=2):=by
  obtain ⟨a,b,c,d,e,f,g,_⟩:=thing_know h.b h.wlk hx;exact ⟨a,b,c,d,e,f,g⟩
theorem putM_card {i v:Int} {ref:Bool} (j:Int) (h:rdOf false cards j=true):rdOf false (putM ws y cards i v ref).2 j=true:=by
 unfold putM
 dsimp only
 split
 ·unfold rdOf at h ⊢
  rw [List.getD_eq_getElem?_getD] at h ⊢;rw [List.getElem?_set]
  split
  ·rename_i e
   split
   ·rfl
   ·rename_i q
    rw [←e,List.getElem?_eq_none (by omega)] at h;simp at h
  ·exact h
 ·exact h
theorem putM_len (i v:Int) (ref:Bool):(putM ws y cards i v ref).1.length=ws.length∧(putM ws y cards i v ref).2.length=cards.length:=by
 unfold putM;refine ⟨List.length_set,?_⟩
 dsimp only
 split
 ·exact List.length_set
 ·rfl
theorem put_keep (h : Opn cs ws y t o cards W) {x : Int} (hx : x ∈ W) {k : Int} (k0 : 0 ≤ k) (k1 : k < szN cs ws x - hdN (rd ws x)) {v : Int} (hv : VOk cs W (rd ws x) k v) {i : Int} (hi : i = x + hdN (rd ws x) + k) :
    Opn cs (putM ws y cards i v (ldB cs (rd ws x) k)).1 y t o (putM ws y cards i v (ldB cs (rd ws x) k)).2 W∧∀z∈W,rd (putM ws y cards i v (ldB cs (rd ws x) k)).1 z=rd ws z∧szN cs (putM ws y cards i v (ldB cs (rd ws x) k)).1 z=szN cs ws z:=by
  have n0:=h.b.n0;have n1:=h.b.n1;have y0:=h.b.y0;have y1:=h.b.y1;have t0:=h.b.t0;have t1:=h.b.t1;have o0:=h.b.o0;have o1:=h.b.o1;have cd:=h.b.cd;obtain ⟨x0,x1,c0,c8,xe,hh,hn2⟩:=h.know hx;have hl:=putM_len (ws:=ws) (y:=y) (cards:=cards) i v (ldB cs (rd ws x) k);have hcm:=fun j=>putM_card (ws:=ws) (y:=y) (cards:=cards) (i:=i) (v:=v) (ref:=ldB cs (rd ws x) k) j
  have hw1:(putM ws y cards i v (ldB cs (rd ws x) k)).1=ws.set i.toNat v:=rfl
  have hc2:ldB cs (rd ws x) k=true→x≥y→1≤v→v≤y→rdOf false (putM ws y cards i v (ldB cs (rd ws x) k)).2 ((i - y)/4)=true:=fun l zy v1 v2=>by
    unfold putM rdOf
    dsimp only
    rw [if_pos ⟨l,by omega,v1,v2⟩,List.getD_eq_getElem?_getD,List.getElem?_set_self (by omega)];rfl
  obtain ⟨ws',e1⟩: ∃z,z=(putM ws y cards i v (ldB cs (rd ws x) k)).1:=⟨_,rfl⟩;obtain ⟨cards',e2⟩: ∃z,z=(putM ws y cards i v (ldB cs (rd ws x) k)).2:=⟨_,rfl⟩;rw [←e1] at hl hw1 ⊢;rw [←e2] at hl hc2 ⊢;replace hcm: ∀j,rdOf false cards j=true→rdOf false cards' j=true:=fun j=>by rw [e2];exact hcm j
  clear e1 e2
  have ne: ∀z∈W,z≠i∧(rd ws z<0→z+1≠i):=fun z hz=>by
    obtain ⟨z0,z1,d0,d8,ze,hzh,hz2⟩:=h.know hz;rcases Int.lt_trichotomy x z with q|q|q
    · have:=h.apart hx hz q;omega
    · subst q;exact ⟨by omega,fun hn=>by have:=hz2 hn;omega⟩
    · have:=h.apart hz hx q;exact ⟨by omega,fun hn=>by have:=hz2 hn;omega⟩
  have r1: ∀z∈W,rd ws' z=rd ws z:=fun z hz=>by rw [hw1];exact rd_set_ne v (by omega) (h.know hz).1 (ne z hz).1
  have ms: ∀e z,z∈W→mstep ws' (allF cs) e z=mstep ws (allF cs) e z:=fun e z hz=>by
    unfold mstep;rw [r1 z hz];by_cases c:rd ws z<0
    · rw [if_pos c,if_pos c,hw1,rd_set_ne v (by omega) (by have:=(h.know hz).1;omega) ((ne z hz).2 c)]
    · rw [if_neg c,if_neg c]
  have hsz: ∀z∈W,szN cs ws' z=szN cs ws z:=fun z hz=>by unfold szN;rw [hl.1,ms _ z hz]
  have p1:=pw_congr (ws':=ws') t.toNat 0 (fun z hz=>ms t z (by rw [h.w];exact List.mem_append_left _ hz)) h.w1;have p2:=pw_congr (ws':=ws') (o - y).toNat y (fun z hz=>ms o z (by rw [h.w];exact List.mem_append_right _ hz)) h.w2;refine ⟨⟨⟨h.b.ok,y0,y1,by rw [hl.1];exact n0,by rw [hl.1];exact n1,t0,t1,o0,by rw [hl.1];exact o1,by rw [hl.1,hl.2];exact cd⟩,fun j hj z=>?_,by rw [p1];exact h.w1,by rw [p2];exact h.w2,by rw [p1,p2];exact h.w,fun z hz k' k0' k1'=>?_⟩,fun z hz=>⟨r1 z hz,hsz z hz⟩⟩
  · rw [hl.1] at hj
    have hp:=h.part hx;have:=h.z j hj z
    rw [hw1,List.getD_eq_getElem?_getD,List.getElem?_set_ne (by omega),←List.getD_eq_getElem?_getD];exact this
  · rw [hsz z hz, r1 z hz] at k1'
    rw [r1 z hz];have hd:=h.d z hz k' k0' k1';obtain ⟨z0,z1,d0,d8,ze,hzh,hz2⟩:=h.know hz;by_cases q:z=x∧k'=k
    · obtain ⟨q1, q2⟩ := q
      subst q1 q2;rw [←hi];unfold Wd;rw [r1 z hz,hw1,rd_set_eq v (by omega) (by omega)];exact ⟨hv,hc2⟩
    · have hne : z + hdN (rd ws z) + k' ≠ i := by
        rcases Int.lt_trichotomy x z with q2|q2|q2
        · have:=h.apart hx hz q2;omega
        · subst q2;intro e;exact q ⟨rfl,by omega⟩
        · have:=h.apart hz hx q2;omega
      unfold Wd at hd ⊢;rw [r1 z hz,hw1,rd_set_ne v (by omega) (by omega) hne];exact ⟨hd.1,fun l zy v1 v2=>hcm _ (hd.2 l zy v1 v2)⟩
def InT (cs:Cs) (ws:List Int) (W:List Int) (a k:Int):Prop:=a - 1∈W∧0≤k∧k<szN cs ws (a - 1) - hdN (rd ws (a - 1))
theorem hasin_eq (h:Opn cs ws y t o cards W) (a k:Int) (f:Nat) (hf:300≤f):(InT cs ws W a k→memory_hasIn.f f (mmOf cs ws y t o cards W) a k=some true)∧(¬InT cs ws W a k→memory_hasIn.f f (mmOf cs ws y t o cards W) a k=some false):=by
 have hh:=has_eq h.wlk (mmOf cs ws y t o cards W) rfl a f hf;unfold memory_hasIn.f;rw [hh,Option.bind_some];by_cases c:a - 1∈W
 case neg=>rw [decide_eq_false c];exact ⟨fun q=>absurd q.1 c,fun _=>rfl⟩
 obtain ⟨_,_,_,_,_,_,_,hco,_⟩:=thing_know (t:=t) (o:=o) (cards:=cards) h.b h.wlk c;rw [show a - 1+1=a by omega] at hco;rw [decide_eq_true c,if_pos rfl];by_cases z0:0≤k
 ·rw [if_pos z0, hco, Option.bind_some]
  exact ⟨fun q=>by rw [decide_eq_true q.2.2],fun q=>by rw [decide_eq_false (fun e=>q ⟨c,z0,e⟩)]⟩
 ·rw [if_neg z0]
  exact ⟨fun q=>absurd q.2.1 z0,fun _=>rfl⟩
theorem put_in (h:Opn cs ws y t o cards W) {a k v:Int} (hi:InT cs ws W a k) (hv:VOk cs W (rd ws (a - 1)) k v) (f:Nat) (hf:4000000≤f):
  impl_MemPut.f f cs ws y t o cards a k v=some ((putM ws y cards (a - 1+hdN (rd ws (a - 1))+k) v (ldB cs (rd ws (a - 1)) k)).1,y,t,o,(putM ws y cards (a - 1+hdN (rd ws (a - 1))+k) v (ldB cs (rd ws (a - 1)) k)).2,true):=by
 have n0:=h.b.n0;have n1:=h.b.n1;have y0:=h.b.y0;have y1:=h.b.y1;have cd:=h.b.cd;obtain ⟨x0,x1,c0,c8,xe,hh,hn2,hco,hfi,hle,_⟩:=thing_know (t:=t) (o:=o) (cards:=cards) h.b h.wlk hi.1;rw [show a - 1+1=a by omega] at hfi hle;have hi2:=hi.2;obtain ⟨i,hii⟩: ∃i,i=a - 1+hdN (rd ws (a - 1))+k:=⟨_,rfl⟩;unfold impl_MemPut.f;rw [h.to f hf,Option.bind_some];unfold putOf
 dsimp only
 rw [(hasin_eq h a k f (by omega)).1 hi,Option.bind_some,if_pos rfl];unfold memory_put.f;rw [hfi,Option.bind_some,hle k hi2.1 hi2.2,Option.bind_some,show (mmOf cs ws y t o cards W).words=ws from rfl,show (mmOf cs ws y t o cards W).young=y from rfl,show (mmOf cs ws y t o cards W).cards=cards from rfl,←hii,if_pos (by omega)];unfold VOk at hv;by_cases l:ldB cs (rd ws (a - 1)) k=true
 ·rw [if_pos l] at hv ⊢
  by_cases v0:v=0
  ·rw [if_pos v0, Option.bind_some, if_pos rfl]
   unfold Mm.setW putM mmOf
   dsimp only
   rw [if_neg (by omega)]
  ·have vw := hv.resolve_left v0
   have hvr:=wlk_range h.wlk vw;rw [if_neg v0,has_eq h.wlk _ rfl v f (by omega),Option.bind_some,decide_eq_true vw,if_pos rfl];by_cases g1:a>y
   ·rw [if_pos g1]
    by_cases g2:v>y
    ·rw [if_pos g2, Option.bind_some, if_pos rfl]
     unfold Mm.setW putM mmOf
     dsimp only
     rw [if_neg (by omega)]
    ·rw [if_neg g2, Int.tdiv_eq_ediv_of_nonneg (by omega), if_pos (by omega), Option.bind_some, if_pos rfl]
     unfold Mm.setW Mm.setC putM mmOf
     dsimp only
     rw [if_pos ⟨l,by omega,by omega,by omega⟩]
   ·have hp := h.part hi.1
    have t1:=h.b.t1;rw [if_neg g1,Option.bind_some,if_pos rfl];unfold Mm.setW putM mmOf
    dsimp only
    rw [if_neg (by omega)]
 ·rw [if_neg l] at hv ⊢
  have hw8:impl_isWord.f v=some true:=by
   unfold impl_isWord.f;rw [if_pos (show v≥ -128 from hv.1)];simp [hv.2]
  rw [hw8,Option.bind_some,if_pos rfl,Option.bind_some,if_pos rfl];unfold Mm.setW putM mmOf
  dsimp only
  rw [if_neg (fun q=>l q.1)]
theorem put_out (h:Opn cs ws y t o cards W) {a k v:Int} (hi: ¬(InT cs ws W a k∧VOk cs W (rd ws (a - 1)) k v)) (f:Nat) (hf:4000000≤f):
  impl_MemPut.f f cs ws y t o cards a k v=some ([],0,0,0,[],false):=by
 have n0:=h.b.n0;have n1:=h.b.n1;have y0:=h.b.y0;have y1:=h.b.y1;have cd:=h.b.cd;unfold impl_MemPut.f;rw [h.to f hf,Option.bind_some];unfold putOf
 dsimp only
 by_cases c:InT cs ws W a k
 case neg=>rw [(hasin_eq h a k f (by omega)).2 c];rfl
 have hv: ¬VOk cs W (rd ws (a - 1)) k v:=fun q=>hi ⟨c,q⟩
 obtain ⟨x0,x1,c0,c8,xe,hh,hn2,hco,hfi,hle,_⟩:=thing_know (t:=t) (o:=o) (cards:=cards) h.b h.wlk c.1;rw [show a - 1+1=a by omega] at hfi hle;have hi2:=c.2;rw [(hasin_eq h a k f (by omega)).1 c,Option.bind_some,if_pos rfl];unfold memory_put.f;rw [hfi,Option.bind_some,hle k hi2.1 hi2.2,Option.bind_some,show (mmOf cs ws y t o cards W).words=ws from rfl,show (mmOf cs ws y t o cards W).young=y from rfl,show (mmOf cs ws y t o cards W).cards=cards from rfl,if_pos (by omega)];unfold VOk at hv;by_cases l:ldB cs (rd ws (a - 1)) k=true
 ·rw [if_pos l] at hv ⊢
  rw [if_neg (fun e=>hv (.inl e)),has_eq h.wlk _ rfl v f (by omega),Option.bind_some,decide_eq_false (fun e=>hv (.inr e))];rfl
 ·rw [if_neg l] at hv ⊢
  have hw8:impl_isWord.f v=some false:=by
   unfold impl_isWord.f;by_cases q:v≥ -128
   ·rw [if_pos q];simp [show¬v≤127 from fun e=>hv ⟨q,e⟩]
   ·rw [if_neg q]
  rw [hw8];rfl
theorem walk_imp (h:Opn cs ws y t o cards W) (f:Nat) (hf:4000000≤f):impl_MemWalk.f f cs ws y t o cards=some (W.map (· +1)):=by
  unfold impl_MemWalk.f;rw [h.to f hf,Option.bind_some];rfl
theorem size_imp (h:Opn cs ws y t o cards W) {x:Int} (hx:x∈W) (f:Nat) (hf:4000000≤f):impl_MemSize.f f cs ws y t o cards (x+1)=some (szN cs ws x):=(size_in h.b h.wlk _ rfl h.to hx).2.2 f hf
end
def objOf (cs:Cs) (ws W:List Int) (x:Int):Os:=⟨rd ws x,valsL cs ws W (rd ws x) (x+hdN (rd ws x)) (szN cs ws x - hdN (rd ws x)).toNat 0⟩
theorem objs_imp {cs:Cs} {ws:List Int} {y t o:Int} {cards:List Bool} {W:List Int} (h:Opn cs ws y t o cards W) (k:Nat) (hk:4000000≤k):impl_MemObjs.f k cs ws y t o cards=some (W.map (objOf cs ws W)):=by
 have n0:=h.b.n0;have n1:=h.b.n1;have y0:=h.b.y0;have y1:=h.b.y1;have hw:=h.wlk;have wl:=hw.len;have hok: ∀q,300≤q→thingsOk q (mmOf cs ws y t o cards W) (W.map (· +1))=some true:=fun q hq=>(allw_iff h.b hw q hq).mpr h.d
 have key: ∀(L:List Int) (acc:List Os),(∀x∈L,x∈W)→acc.length+L.length≤1000→objsL k (mmOf cs ws y t o cards W) (L.map (· +1)) acc=some (acc++L.map (objOf cs ws W)):=by
  intro L
  induction L with
  |nil=>intro acc _ _;simp [objsL]
  | cons x r ih =>
   intro acc hL ha;have hx:=hL x (List.mem_cons_self ..);simp only [List.length_cons] at ha;obtain ⟨x0,x1,c0,c8,xe,hh,hn2,hco,hfi,hle,_⟩:=thing_know (t:=t) (o:=o) (cards:=cards) h.b hw hx
   have hcls:thing_class.f (mmOf cs ws y t o cards W) (x+1)=some (rd ws x):=by
    unfold thing_class.f;rw [show (mmOf cs ws y t o cards W).words=ws from rfl,if_pos (by omega),show x+1 - 1=x by omega]
   have hv:=objVals_eq h.b hw (mmOf cs ws y t o cards W) rfl hok hx hh c8 (by omega) hco hfi hle k (by omega) (szN cs ws x - hdN (rd ws x)).toNat k 0 [] (by omega) (by omega) (by omega) (by simp<;>omega);rw [List.map_cons,objsL,hcls,Option.bind_some,hco,Option.bind_some,hv,Option.bind_some,if_pos (by omega),ih _ (fun z hz=>hL z (List.mem_cons_of_mem _ hz)) (by simp<;>omega)];simp [objOf]
 unfold impl_MemObjs.f;rw [h.to k hk,Option.bind_some];show memory_objs.f k (mmOf cs ws y t o cards W)=_
 unfold memory_objs.f;rw [show (mmOf cs ws y t o cards W).begins=W.map (· +1) from rfl,if_pos (by rw [List.length_map];omega)];have:=key W [] (fun x hx=>hx) (by simp<;>omega)
 simpa using this
theorem valsL_at (cs:Cs) (ws W:List Int) (c b:Int): ∀(d:Nat) (k:Int) (i:Nat),i<d→(valsL cs ws W c b d k).getD i ⟨false,0⟩=valAt cs ws W c b (k+i)
 |0,_,_,h=>by omega
 |d+1,k,0,_=>by rw [valsL,List.getD_cons_zero];simp
 |d+1,k,i+1,h=>by
  rw [valsL,List.getD_cons_succ,valsL_at cs ws W c b d (k+1) i (by omega),show k+1+(i:Int)=k+((i+1:Nat):Int) by omega]
theorem put_yes {cs:Cs} {ws:List Int} {y t o:Int} {cards:List Bool} {W:List Int} (h:Opn cs ws y t o cards W) {a k v:Int} {p:List Int×Int×Int×Int×List Bool×Bool} (hp:impl_MemPut.f 5000000 cs ws y t o cards a k v=some p) (ht:p.2.2.2.2.2=true):
  InT cs ws W a k∧VOk cs W (rd ws (a - 1)) k v∧p=((putM ws y cards (a - 1+hdN (rd ws (a - 1))+k) v (ldB cs (rd ws (a - 1)) k)).1,y,t,o,(putM ws y cards (a - 1+hdN (rd ws (a - 1))+k) v (ldB cs (rd ws (a - 1)) k)).2,true):=by
 by_cases c:InT cs ws W a k∧VOk cs W (rd ws (a - 1)) k v
 ·have := put_in h c.1 c.2 5000000 (by decide)
  rw [this] at hp;exact ⟨c.1,c.2,(Option.some.inj hp).symm⟩
 ·have := put_out h c 5000000 (by decide)
  rw [this] at hp;rw [←Option.some.inj hp] at ht;simp at ht
theorem putcard_eq {cs:Cs} (hf:fewF cs) {ws:List Int} {y t o:Int} {cards:List Bool} (hn:ws.length≤1000) (hc:cards.length≤1000) (a b v:Int):
  ∃ (p1 : List Int) (p2 p3 p4 : Int) (p5 : List Bool) (p6 : Bool), impl_MemPut.f 5000000 cs ws y t o cards a b v = some (p1, p2, p3, p4, p5, p6) ∧ spec_MemPut.f 5000000 cs ws y t o cards a b v = some (p1, p2, p3, p4, p5, p6) ∧ laws_leMem.f 5000000 p1 p2 p3 p4 p5 p1 p2 p3 p4 p5 = some true ∧
   (p6 = true → (0 ≤ p2 ∧ p2 ≤ 1000 ∧ p1.length ≤ 1000 ∧ p5.length = cards.length) ∧ (∀ i : Int, 0 ≤ i → i < cards.length → rdOf false cards i = true → rdOf false p5 i = true) ∧ ∃ (wl : List Int) (s : List Os), (wl.length = s.length ∧ s.length ≤ 200) ∧ impl_MemWalk.f 5000000 cs p1 p2 p3 p4 p5 = some wl ∧ impl_MemObjs.f 5000000 cs p1 p2 p3 p4 p5 = some s ∧
    ∀ i : Int, 0 ≤ i → i < wl.length → (1 ≤ rd wl i ∧ rd wl i ≤ 1000 ∧ (rd_T46 s i).f1.length ≤ 100) ∧ ∃ z : Int, (0 ≤ z ∧ z ≤ 1000) ∧ impl_MemSize.f 5000000 cs p1 p2 p3 p4 p5 (rd wl i) = some z ∧
     ∀ k : Int, 0 ≤ k → k < (rd_T46 s i).f1.length → 0 ≤ rd wl i - 1 + (z - (rd_T46 s i).f1.length) + k ∧ rd wl i - 1 + (z - (rd_T46 s i).f1.length) + k < p1.length ∧
      (p2 < rd wl i → (rd_T48 (rd_T46 s i).f1 k).f0 = true → 0 < rd p1 (rd wl i - 1 + (z - (rd_T46 s i).f1.length) + k) → rd p1 (rd wl i - 1 + (z - (rd_T46 s i).f1.length) + k) ≤ p2 →
       0≤rd wl i - 1+(z - (rd_T46 s i).f1.length)+k - p2∧(rd wl i - 1+(z - (rd_T46 s i).f1.length)+k - p2)/4<p5.length∧rdOf false p5 ((rd wl i - 1+(z - (rd_T46 s i).f1.length)+k - p2)/4)=true)):=by
 obtain ⟨⟨p1,p2,p3,p4,p5,p6⟩,l1,l5,e1,e2⟩:=MemPut_eq (cs:=cs) hf (ws:=ws) (y:=y) (t:=t) (o:=o) (cards:=cards) (by omega) (by omega) a b v;obtain ⟨r,h1,h2,h3⟩:=opn_of (cs:=cs) hf (ws:=ws) (y:=y) (t:=t) (o:=o) (cards:=cards) (by omega) (by omega);dsimp only at l1 l5;refine ⟨p1,p2,p3,p4,p5,p6,e1 5000000 (by decide),e2 5000000 (by decide),leMem_at p1 p2 p3 p4 p5 l1 l5 5000000 (by decide),fun hp6=>?_⟩
 cases r with
 |none=>
  have:=e1 5000000 (by decide)
  unfold impl_MemPut.f at this;rw [h1 5000000 (by decide)] at this;simp only [Option.bind_some,putOf,Option.some.injEq,Prod.mk.injEq] at this;rw [hp6] at this;simp at this
 | some m =>
  obtain ⟨W,h,hm,hk⟩:=h3 m rfl;obtain ⟨hi,hv,hp⟩:=put_yes h (e1 5000000 (by decide)) hp6;simp only [Prod.mk.injEq] at hp;obtain ⟨r1,r2,r3,r4,r5,_⟩:=hp;obtain ⟨i,hii⟩: ∃i,i=a - 1+hdN (rd ws (a - 1))+b:=⟨_,rfl⟩;rw [←hii] at r1 r5;obtain ⟨K,hK⟩:=put_keep h hi.1 hi.2.1 hi.2.2 hv hii;have hl:=putM_len (ws:=ws) (y:=y) (cards:=cards) i v (ldB cs (rd ws (a - 1)) b);have hcm:=fun j=>putM_card (ws:=ws) (y:=y) (cards:=cards) (i:=i) (v:=v) (ref:=ldB cs (rd ws (a - 1)) b) j
  rw [←r1,←r5] at K hl;replace hcm: ∀j,rdOf false cards j=true→rdOf false p5 j=true:=fun j=>by rw [r5];exact hcm j
  have n0:=K.b.n0;have n1:=K.b.n1;have y0:=K.b.y0;have y1:=K.b.y1;have cd:=K.b.cd;subst r2 r3 r4;have wl:=K.wlk.len;refine ⟨⟨by omega,by omega,by omega,hl.2⟩,fun i _ _ q=>hcm i q,W.map (· +1),W.map (objOf cs p1 W),⟨by rw [List.length_map,List.length_map],by rw [List.length_map];exact wl⟩,walk_imp K 5000000 (by decide),objs_imp K 5000000 (by decide),fun i i0 i1=>?_⟩;rw [List.length_map] at i1;obtain ⟨i,rfl⟩: ∃q:Nat,i=q:=⟨i.toNat,by omega⟩;have hj:i<W.length:=by omega
  have hr:rd (W.map (· +1)) (i:Int)=W[i]+1:=by rw [rd_mem (by rw [List.length_map];exact hj),List.getElem_map]
  have hro:rd_T46 (W.map (objOf cs p1 W)) (i:Int)=objOf cs p1 W W[i]:=by
   unfold rd_T46;rw [Int.toNat_natCast,List.getD_eq_getElem?_getD,List.getElem?_eq_getElem (by rw [List.length_map];exact hj),List.getElem_map];rfl
  rw [hr,hro];have hz:=List.getElem_mem hj;generalize W[i]=z at hz;obtain ⟨z0,z1,d0,d8,ze,hzh,hz2⟩:=K.know hz;have hlen:((objOf cs p1 W z).f1.length:Int)=szN cs p1 z - hdN (rd p1 z):=by unfold objOf;rw [valsL_length];omega
  rw [hlen];refine ⟨⟨by omega,by omega,by omega⟩,szN cs p1 z,⟨by omega,by omega⟩,size_imp K hz 5000000 (by decide),fun k k0 k1=>?_⟩
  have hvv:rd_T48 (objOf cs p1 W z).f1 k=valAt cs p1 W (rd p1 z) (z+hdN (rd p1 z)) k:=by
   have:=valsL_at cs p1 W (rd p1 z) (z+hdN (rd p1 z)) (szN cs p1 z - hdN (rd p1 z)).toNat 0 k.toNat (by omega)
   rw [show (0:Int)+(k.toNat:Int)=k by omega] at this;exact this
  rw [hvv,show z+1 - 1+(szN cs p1 z - (szN cs p1 z - hdN (rd p1 z)))+k=z+hdN (rd p1 z)+k by omega];have hd:=(K.d z hz k k0 k1).2;have hw:=(K.d z hz k k0 k1).1;refine ⟨by omega,by omega,fun q1 q2 q3 q4=>?_⟩
  have l:ldB cs (rd p1 z) k=true:=by
   unfold valAt at q2;by_cases l:ldB cs (rd p1 z) k=true
   ·exact l
   ·rw [if_neg l] at q2;simp at q2
  have:=hd l (by omega) (by omega) q4
  exact ⟨by omega,by omega,this⟩
end Go.Proofs.Ytnlieahdakafbaa.Pure
