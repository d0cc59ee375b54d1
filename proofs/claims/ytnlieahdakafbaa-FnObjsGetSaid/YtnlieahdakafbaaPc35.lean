import Derived.Test.YtnlieahdakafbaaPc24
import Derived.Test.YtnlieahdakafbaaPc30
import Derived.Test.YtnlieahdakafbaaPc26
import Derived.Test.YtnlieahdakafbaaPc29
import Derived.Test.YtnlieahdakafbaaPc34
namespace Go.Proofs.Ytnlieahdakafbaa.K
open Go.RowKit Go.Proofs.YtnlieahdakafbaaW.PrintWords Go.Proofs.YtnlieahdakafbaaW.PrintLast Go.Proofs.YtnlieahdakafbaaW.PrintMore
attribute [local go_sem] max2_int min2_int max_two min_two max_three min_three max_four min_four
set_option linter.unusedVariables false
set_option linter.unusedSimpArgs false
def objVals (q:Nat) (m:Mm) (a n:Int):Nat→Int→List S48→Option (List S48)
  |0,_,_=>none
  | j + 1, x, acc => if x < n then (memory_get.f m a x).bind fun v => (thing_leads.f m a x).bind fun d => if acc.length ≤ 1048576 ∧ x ≤ 1048576 then
      (if d=true then (memory_number.f q m v).bind fun u=>objVals q m a n j (x+1) (acc++[⟨true,u⟩]) else objVals q m a n j (x+1) (acc++[⟨false,v⟩])) else none else some acc
def objsL (q:Nat) (m:Mm):List Int→List S46→Option (List S46)
  |[],acc=>some acc
  |a::r,acc=>(thing_class.f m a).bind fun c=>(thing_count.f m a).bind fun n=>(objVals q m a n q 0 []).bind fun vs=>if acc.length≤1048576∧0≤n then objsL q m r (acc++[⟨c,vs⟩]) else none
def memory_objs.f (q:Nat) (m:Mm):Option (List S46):=if m.begins.length≤1048576 then objsL q m m.begins [] else none
theorem S_grown_ {α:Type} {d:Kd α} {e base:Nat} {ok:Nat→Prop} {w w1:World} {v:Value} {xs:List α} {row:Option Nat} (h:Kd.S d e w base ok v xs) (hg:w.grownBy w1 row) (hne: ∀k,ok k→some k≠row):Kd.S d e w1 base ok v xs:=by
  obtain ⟨f,hR⟩:=h;exact ⟨f,Kd.R_grown hR hg hne⟩
theorem S_far_ {α:Type} {d:Kd α} {e base:Nat} {ok:Nat→Prop} {w:World} {v:Value} {xs:List α} (h:Kd.S d e w base ok v xs) {p:Addr} (hne: ∀k,ok k→k≠p.block) (u:Value):Kd.S d e (w.setCell p u) base ok v xs:=by
  obtain ⟨f,hR⟩:=h;exact ⟨f,Kd.R_far hR hne u⟩
set_option maxHeartbeats 32000000 in
set_option maxRecDepth 100000 in
theorem memory_objs.calls (q:Nat) (g:Nat) (m:Mm) (r:List S46) (w:World) (hm:MV w g m) (h:memory_objs.f q m=some r):
  Calls Try.prog 50 #[.pointer (some ⟨g,0,none⟩)] w fun e w'=> ∃v0_:Value,e= .returned v0_∧Kd.S k46 46 w' w.heap.size (fun _=>True) v0_ r∧Below w.heap.size w w':=by
 unfold memory_objs.f at h
 split at h
 case isFalse=>simp at h
 case isTrue hl=>
 have HL:=aK hl;have HM:=aK hm;have HA0:=aK h;obtain ⟨AW,cW,AC,cC,AF,cF,AB,cB,h0,_,_,_,hB,_,_,_,lB⟩:=hm;have HBg:=aK hB;have g6:=(blk_cell h0 6).trans rfl;clear h h0 hB lB;go_enter Try.func50,Try.ntmps50;go_wp2
 go_loopw [3,15] (fun v3 v15 wr=> ∃(j:Nat) (acc:List S46),v15= .int .i64 j∧j≤m.begins.length∧Aside0 (objsL q m (m.begins.drop j) acc=some r)∧Aside0 (Kd.S k46 46 wr w.heap.size (fun _=>True) v3 acc)∧Aside0 (Below w.heap.size w wr)) (fun _ v15 _=>m.begins.length - (intOf v15).toNat)
 case atStart=>exact ⟨0,[],rfl,Nat.zero_le _,by rw [List.drop_zero];exact HA0,⟨Kd.S_nil _ _ _ _ _⟩,⟨Below.refl _ _⟩⟩
 case round =>
  clear HA0 g6;obtain ⟨j,acc,rfl,hj,HA,HS,HB⟩:=hrel;by_cases c:j<m.begins.length
  ·have d0 : decide ((j : Int) < m.begins.length) = true := decide_eq_true (by omega)
   obtain ⟨ad,e0,hx⟩:=Kd.at_int (Kd.C_below HBg.out HB.out) (j:Int) (by omega) (by omega)
   cases e0
   have p1:=eq_true (show (0:Int)≤(j:Int) by omega);have p2:=eq_true (show (j:Int)<(m.begins.length:Int) by omega);obtain ⟨a,ha⟩: ∃a,a=rd m.begins j:=⟨_,rfl⟩;rw [←ha,Int.toNat_natCast] at hx;have hh:=HA.out;have hea:m.begins[j]=a:=by rw [ha];unfold rd;rw [Int.toNat_natCast,List.getD_eq_getElem?_getD,List.getElem?_eq_getElem c];rfl
   rw [List.drop_eq_getElem_cons c,hea,objsL] at hh;obtain ⟨cl,hc,hh⟩:=Option.bind_eq_some_iff.mp hh;obtain ⟨n,hn,hh⟩:=Option.bind_eq_some_iff.mp hh;obtain ⟨vs,hv,hh⟩:=Option.bind_eq_some_iff.mp hh
   split at hh
   case isFalse=>simp at hh
   case isTrue hal=>
   have HC:=aK hc;have HN:=aK hn;have HV:=aK hv;have HH:=aK hh;have HAL:=aK hal;have HJ:=aK c;clear hc hn hv hh hal ha hea HA hj;obtain ⟨b1,hb1⟩: ∃b,b=wr.heap.size:=⟨_,rfl⟩;have HS1:=aK (show Kd.S k46 46 wr w.heap.size (fun k_=>k_<b1) _ acc from Kd.S_mono (Kd.S_bound HS.out) (fun k_ hk_=>by rw [hb1];exact hk_.2.2.1));have HZ:=aK (show w.heap.size≤b1 by rw [hb1];exact HB.out.size);clear HS c
   go_wp2_with fail
   go_at_call 54;refine (memory_thing.calls g a _).mono ?_;rintro e w1 ⟨rfl,hb⟩;have HB1:=aK (below_step HB.out hb);replace HS1:=aK (Kd.S_below HS1.out hb);have h1:=below_size hb;rw [←hb1] at h1;clear hb hb1 HB hx p1 p2;unfold thV;obtain ⟨bt,hbt⟩: ∃b,b=w1.heap.size:=⟨_,rfl⟩
   go_wp2_with fail
   go_at_call 85;refine (thing_class.calls g m a cl _ (MV_below HM.out (below_alloc HB1.out _)) HC.out).mono ?_;rintro e w2 ⟨rfl,hb⟩;have BT:=aK (box_new hb);have HB2:=aK (below_step (below_alloc HB1.out _) hb);replace HS1:=aK (Kd.S_below (Kd.S_alloc HS1.out _) hb);have h2:bt<w2.heap.size:=by rw [hbt];exact blk_lt BT.out
   rw [←hbt] at BT h1 ⊢;clear hb hbt HB1;obtain ⟨bo,hbo⟩: ∃b,b=w2.heap.size:=⟨_,rfl⟩;have t0: ∀o,(w2.alloc o).cell? ⟨bt,0,none⟩=_:=fun o=>(blk_cell (blk_alloc BT.out o) 0).trans rfl
   have t1: ∀o,(w2.alloc o).cell? ⟨bt,1,none⟩=_:=fun o=>(blk_cell (blk_alloc BT.out o) 1).trans rfl
   have t0':=(blk_cell BT.out 0).trans rfl;have t1':=(blk_cell BT.out 1).trans rfl
   go_wp2_with fail
   go_at_call 71;refine (thing_count.calls g m a n _ (MV_below HM.out (below_alloc HB2.out _)) HN.out).mono ?_;rintro e w3 ⟨rfl,hb⟩;have BO:=aK (box_new hb);replace BT:=aK (blk_below (blk_alloc BT.out _) hb);have HB3:=aK (below_step (below_alloc HB2.out _) hb);replace HS1:=aK (Kd.S_below (Kd.S_alloc HS1.out _) hb);have h3:bo<w3.heap.size:=by rw [hbo];exact blk_lt BO.out
   rw [←hbo] at BO h2 ⊢;obtain ⟨b2,hb2⟩: ∃b,b=w3.heap.size:=⟨_,rfl⟩;rw [←hb2] at h3;have HO:=aK (show w.heap.size≤b1∧b1≤bt∧bt<bo∧bo<b2 from ⟨HZ.out,h1,h2,h3⟩);have RV:=aK (show Kd.R k48 48 w3 b2 (fun k_=>b2≤k_) (.slice none 0 0) [] from Kd.R_nil _ _ _ _ _);have HW:=aK (show b2≤w3.heap.size by omega);clear hb hbo hb2 HB2 t0 t1 t0' t1' h1 h2 h3 HZ;go_wp2
   go_loopw [27] (fun v27 wi=> ∃(x:Int) (k2:Nat) (av:List S48) (vv:Value),v27= .int .i64 x∧Aside0 (0≤x∧x≤n)∧Aside0 (objVals q m a n k2 x av=some vs)∧Aside0 (wi.heap[bt]? =some (.cells #[.pointer (some ⟨g,0,none⟩),.int .i64 a] 86 (0,0)))∧Aside0 (wi.heap[bo]? =some (.cells #[.int .i64 cl,vv] 46 (0,0)))∧Aside0 (Kd.R k48 48 wi b2 (fun k_=>b2≤k_) vv av)∧Aside0 (Kd.S k46 46 wi w.heap.size (fun k_=>k_<b1) u3 acc)∧Aside0 (Below w.heap.size w wi)∧Aside0 (b2≤wi.heap.size)) (fun v27 _=>(n - intOf v27).toNat)
   case atStart=>exact ⟨0,q,[],_,rfl,⟨by have:=HAL.out;omega⟩,HV,BT,BO,RV,HS1,HB3,HW⟩
   case round=>
   clear HV BT BO RV HS1 HB3 HW;obtain ⟨x,k2,av,vv,rfl,HX,HA,BT,BO,RV,HS1,HB3,HW⟩:=hrel;have hh2:=HA.out;clear HA
   cases k2 with
   |zero=>exact absurd hh2 (by simp [objVals])
   | succ k2 =>
    unfold objVals at hh2;have hho:=HO.out;have hhx:=HX.out;by_cases c:x<n
    ·rw [if_pos c] at hh2
     have d1:decide (x<n)=true:=decide_eq_true c
     obtain ⟨v,hv,hh2⟩:=Option.bind_eq_some_iff.mp hh2;obtain ⟨d,hd,hh2⟩:=Option.bind_eq_some_iff.mp hh2
     split at hh2
     case isFalse=>simp at hh2
     case isTrue hal2=>
     have HG:=aK hv;have HD:=aK hd;have HA2:=aK hal2;have HH2:=aK hh2;clear hv hd hh2;have q1:IntKind.i64.wrap (x+1)=x+1:=IntWalk.i64_in _ ⟨by omega,by omega⟩
     have HCx:=aK c;clear c hho hhx hal2
     go_wp2_with fail
     go_at_call 48;refine (memory_get.calls g m a x v _ (MV_below HM.out HB3.out) HG.out).mono ?_;rintro e w4 ⟨rfl,hb⟩;replace BT:=aK (blk_below BT.out hb);replace BO:=aK (blk_below BO.out hb);replace RV:=aK (Kd.R_below RV.out hb);replace HS1:=aK (Kd.S_below HS1.out hb);replace HB3:=aK (below_step HB3.out hb);replace HW:=aK (Nat.le_trans HW.out (below_size hb));clear hb;have t0:=(blk_cell BT.out 0).trans rfl;have t1:=(blk_cell BT.out 1).trans rfl
     go_wp2_with fail
     go_at_call 73;refine (thing_leads.calls g m a x d _ (MV_below HM.out HB3.out) HD.out).mono ?_;rintro e w5 ⟨rfl,hb⟩;replace BT:=aK (blk_below BT.out hb);replace BO:=aK (blk_below BO.out hb);replace RV:=aK (Kd.R_below RV.out hb);replace HS1:=aK (Kd.S_below HS1.out hb);replace HB3:=aK (below_step HB3.out hb);replace HW:=aK (Nat.le_trans HW.out (below_size hb));clear hb t0 t1;obtain ⟨AV,cV,hvv⟩:=Kd.R_slice RV.out;subst hvv;have o1:=(blk_cell BO.out 1).trans rfl;have y1:=blk_frozen BO.out 1;have hh2:=HH2.out;clear HH2
     cases d with
     |false=>
      rw [if_neg (by simp)] at hh2;have HR2:=aK hh2;clear hh2
      go_wp2_with ((with_reducible refine gate_builtin (b:= .append) (xs:= #[.tmp 47,.tmp 50]) rfl ?_);at_builtin;refine Kd.R_append k48 (w0:=w5) b2 rfl (.tmp 47) (.tmp 50) 44 48 (.agg #[(.bool false),(.int .i64 0)]) 16 rfl Try.underlying44 info48 rfl (by decide) (by omega) (.slice AV av.length cV) av (⟨false,v⟩:S48) [.bool false,.int .i64 v] (fun k_=>b2≤k_) (fun _=>False) rfl (by first|rfl|(go_simp;done)|(go_simp;rfl)) ?aP (fun _ hk=>hk.elim) ?aF ?aO ?aB ?aS ?aL ?_;(case aP=>exact k48_mkM _ _ _ (⟨false,v⟩:S48));(case aB=>exact Below.refl _ _);(case aF=>exact fun k hk=>Nat.le_trans HW.out hk);(case aO=>exact RV.out);(case aS=>exact HW.out);(case aL=>have:=HA2.out;omega);intro v67 w6 ho hbn hgr hat;obtain ⟨AN,cN,e67⟩:=Kd.R_slice ho;subst e67;have hob: ∀k,k<b2→some k≠(Value.slice AV av.length cV).ownBlock:=fun k hk e_=>(by have:=RV.out.1 k e_.symm;omega);have BT6:=aK (blk_grown BT.out hgr (hob bt (by have:=HO.out;omega)));have BO6:=aK (blk_grown BO.out hgr (hob bo (by have:=HO.out;omega)));have HS6:=aK (S_grown_ HS1.out hgr (fun k hk=>hob k (by have:=HO.out;omega)));have R6:=aK ho;have HB6:=aK (HB3.out.trans (hbn.mono (by have:=HO.out;omega)));have HW6:=aK (Nat.le_trans HW.out hbn.size);have o6:=(blk_cell BO6.out 1).trans rfl;have y6:=blk_frozen BO6.out 1;clear ho hbn hgr hat hob;clear o1 y1)
      go_roundw
      case rel=>exact ⟨x+1,k2,av++[⟨false,v⟩],_,rfl,⟨by have:=HX.out;have:=HCx.out;omega⟩,HR2,⟨blk_far BT6.out (by have:=HO.out;show bt≠bo;omega) _⟩,⟨blk_put BO6.out 1 _ rfl⟩,by rw [show av.length+1=(av++[(⟨false,v⟩:S48)]).length by simp];exact ⟨Kd.R_far (p:=⟨bo,1,none⟩) R6.out (fun k_ hk_=>by have:=HO.out;show k_≠bo;omega) _⟩,⟨S_far_ HS6.out (p:=⟨bo,1,none⟩) (fun k_ hk_=>by have:=HO.out;show k_≠bo;omega) _⟩,⟨below_set HB6.out (by have:=HO.out;omega)⟩,⟨by have:=HW6.out;simpa using this⟩⟩
      case measure=>have:=HX.out;have:=HCx.out;simp only [intOf];omega
     | true =>
      rw [if_pos rfl] at hh2;obtain ⟨u,hu,hh2⟩:=Option.bind_eq_some_iff.mp hh2;have HNu:=aK hu;have HR2:=aK hh2;clear hh2 hu;go_wp2;refine sT 10 (S:=fun w'=>Aside0 (Below w5.heap.size w5 w')∧w'.cell? ⟨bo,1,none⟩=some (.slice AV av.length cV)) (ds:=[7,9]) ⟨⟨below_drew1 (Below.refl _ _)⟩,(by go_simp)⟩ (fun hHeld=>?_);refine pS 0 37 #[true,false,false,false,false,false,false,false,false,false] ?_;refine pS 2 39 #[true,false,true,false,false,false,false,false,false,false] ?_;refine pS 3 40 #[true,false,true,true,false,false,false,false,false,false] ?_;refine tS 1 38 #[true,true,true,true,false,false,false,false,false,false] rfl rfl (by kernel_rfl) hHeld (by rintro w' ⟨s0,s1⟩;go_simp;with_reducible rfl) ?_;refine oS 4 41 #[true,true,true,true,true,false,false,false,false,false] rfl rfl (fun K hK=>?_);refine gO Try.func87 #[.pointer (some ⟨g,0,none⟩),.int .i64 v] ?_;(with_reducible refine (memory_number.calls q g m v u _ (MV_below HM.out (below_step HB3.out hHeld.1.out)) HNu.out).mono ?_);rintro e w7 ⟨rfl,hb7⟩;refine ⟨_,rfl,?_⟩;refine hK.out _ _ ⟨⟨below_step hHeld.1.out hb7⟩,(pw_cell_below hb7 hHeld.2)⟩ (fun hHeld=>?_);clear hK K;refine nS 41 ?_;refine oS 5 42 #[true,true,true,true,true,true,false,false,false,false] rfl rfl (fun K hK=>?_);refine gO Try.func86 #[.int .i64 u] ?_;(with_reducible refine (impl_leadingTo.calls u true u _ rfl).mono ?_);rintro e w8 ⟨rfl,hd8⟩;have hb8:=hd8;refine ⟨_,rfl,?_⟩;refine hK.out _ _ ⟨⟨below_step hHeld.1.out hb8⟩,(pw_cell_below hb8 hHeld.2)⟩ (fun hHeld=>?_);clear hK K;refine nS 42 ?_;refine one_ (i:=6) (N:=some 43) #[true,true,true,true,true,true,true,false,false,false] rfl rfl (by kernel_rfl) (by decide) (fun K hK=>?_);have HBW:=aK hHeld.1.out;refine value_ (w1:=?_) (v:=?_) (by rfl) rfl ?_ ?_;rotate_left 2
      ·go_simp
       constructor
       ·rfl
       ·rfl
      refine hK.out _ _ ⟨⟨below_alloc hHeld.1.out _⟩,(pw_cell_below (below_alloc (Below.refl _ _) _) hHeld.2)⟩ (fun hHeld=>?_);clear hK K;refine nS 43 ?_;refine last_ (i:=7) (N:=some 44) #[true,true,true,true,true,true,true,true,false,false] rfl rfl (by kernel_rfl) (by decide) (fun K hK=>?_);refine Kd.R_append_step k48 (w0:=w5) b2 (by rfl) (.tmp 38) (.tmp 43) 44 48 (.agg #[(.bool false),(.int .i64 0)]) 16 rfl Try.underlying44 info48 rfl (by decide) (by omega) (.slice AV av.length cV) av (⟨true,u⟩:S48) [.bool true,.int .i64 u] (fun k_=>b2≤k_) (fun _=>False) rfl (by first|rfl|(go_simp;done)|(go_simp;rfl)) ?aP (fun _ hk=>hk.elim) ?aF ?aO ?aB ?aS ?aL ?_
      (case aP=>exact k48_mkM _ _ _ (⟨true,u⟩:S48))
      (case aB=>exact (HBW.out.mono HW.out))
      (case aF=>exact fun k hk=>Nat.le_trans (Nat.le_trans HW.out HBW.out.size) hk)
      (case aO=>exact (Kd.R_below RV.out HBW.out))
      (case aS=>exact (Nat.le_trans HW.out HBW.out.size))
      (case aL=>have:=HA2.out;omega)
      intro v67 w6 ho hbn hgr hat;obtain ⟨AN,cN,e67⟩:=Kd.R_slice ho;subst e67;have hob: ∀k,k<b2→some k≠(Value.slice AV av.length cV).ownBlock:=fun k hk e_=>(by have:=RV.out.1 k e_.symm;omega)
      have BT6:=aK (blk_grown (blk_below BT.out HBW.out) hgr (hob bt (by have:=HO.out;omega)));have BO6:=aK (blk_grown (blk_below BO.out HBW.out) hgr (hob bo (by have:=HO.out;omega)));have HS6:=aK (S_grown_ (Kd.S_below HS1.out HBW.out) hgr (fun k hk=>hob k (by have:=HO.out;omega)));have R6:=aK ho;have HB6:=aK (HB3.out.trans (hbn.mono (by have:=HO.out;omega)));have HW6:=aK (Nat.le_trans HW.out hbn.size);have o6:=(blk_cell BO6.out 1).trans rfl;have y6:=blk_frozen BO6.out 1;clear ho hbn hgr hat hob;clear o1 y1;refine hK.out _ _ ?_;clear hK K;refine nS 44 ?_;refine pS 8 45 #[true,true,true,true,true,true,true,true,true,false] ?_;refine last_ (i:=9) (N:=none) #[true,true,true,true,true,true,true,true,true,true] rfl rfl (by kernel_rfl) (by decide) (fun K hK=>?_);refine skip_ (w1:=?_) (by rfl) rfl ?_ ?_;rotate_left
      ·go_simp
       rfl
      refine hK.out _ _ ?_;clear hK K;refine done_ (by kernel_rfl) ?_;go_wp2
      go_roundw
      case rel=>exact ⟨x+1,k2,av++[⟨true,u⟩],_,rfl,⟨by have:=HX.out;have:=HCx.out;omega⟩,HR2,⟨blk_far BT6.out (by have:=HO.out;show bt≠bo;omega) _⟩,⟨blk_put BO6.out 1 _ rfl⟩,by rw [show av.length+1=(av++[(⟨true,u⟩:S48)]).length by simp];exact ⟨Kd.R_far (p:=⟨bo,1,none⟩) R6.out (fun k_ hk_=>by have:=HO.out;show k_≠bo;omega) _⟩,⟨S_far_ HS6.out (p:=⟨bo,1,none⟩) (fun k_ hk_=>by have:=HO.out;show k_≠bo;omega) _⟩,⟨below_set HB6.out (by have:=HO.out;omega)⟩,⟨by have:=HW6.out;simpa using this⟩⟩
      case measure=>have:=HX.out;have:=HCx.out;simp only [intOf];omega
    ·rw [if_neg c] at hh2
     have d1:decide (x<n)=false:=decide_eq_false c
     obtain rfl:=Option.some.inj hh2;have o0:=(blk_cell BO.out 0).trans rfl;have o1:=(blk_cell BO.out 1).trans rfl;obtain ⟨AV,cV,hvv⟩:=Kd.R_slice RV.out;subst hvv;clear hh2 c hho hhx
     go_wp2_with ((with_reducible refine gate_builtin (b:= .append) (xs:= #[.tmp 54,.tmp 56]) rfl ?_);at_builtin;refine Kd.S_append k46 (w0:=w) w.heap.size rfl (.tmp 54) (.tmp 56) 41 46 (.agg #[(.int .i64 0),(.slice none 0 0)]) 32 rfl Try.underlying41 info46 rfl (by decide) (by omega) u3 acc (⟨cl,av⟩:S46) [.int .i64 cl,.slice AV av.length cV] (fun _=>True) (fun k_=>b2≤k_) rfl (by first|rfl|(go_simp;done)|(go_simp;rfl)) ?aP ?aK ?aF ?aO ?aB ?aS ?aL ?_;(case aP=>exact k46_mkM _ _ _ (⟨cl,av⟩:S46) (Kd.R_lower RV.out (by have:=HO.out;omega)));(case aK=>exact fun k_ hk_=>⟨trivial,fun e_=>by have:=(Kd.S_R HS1.out).1 k_ e_.symm;have:=HO.out;omega⟩);(case aF=>exact fun _ _=>trivial);(case aO=>exact Kd.S_mono HS1.out (fun k_ hk_=>⟨trivial,by have:=HO.out;omega⟩));(case aB=>exact HB3.out);(case aS=>exact HB3.out.size);(case aL=>have:=HAL.out;omega);intro v57 w9 ho hbn hgr hat;have HS9:=aK ho;have HB9:=aK hbn;clear ho hbn hgr hat o0 o1)
     go_roundw
     case rel=>exact ⟨j+1,acc++[⟨cl,av⟩],by rw [show wrap64 ((j:Int)+1)=((j+1:Nat):Int) by have:=HL.out;have:=HJ.out;unfold wrap64;omega],HJ.out,HH,HS9,HB9⟩
     case measure=>rw [show wrap64 ((j:Int)+1)=((j+1:Nat):Int) by have:=HL.out;have:=HJ.out;unfold wrap64;omega];have:=HJ.out;simp only [intOf,Int.toNat_natCast];omega
  ·have d0 : decide ((j : Int) < m.begins.length) = false := decide_eq_false (by omega)
   have hh:=HA.out;rw [List.drop_eq_nil_of_le (by omega),objsL] at hh;obtain rfl:=Option.some.inj hh;clear hh;go_wp2;go_ret;exact ⟨_,rfl,HS.out,HB.out⟩
def objsOf (k:Nat):Option Mm→Option (List S46)
  |none=>some []
  |some m=>memory_objs.f k m
def impl_MemObjs.f (k:Nat) (l0:List (S112)) (l1_0:List Int) (a1_1:Int) (a1_2:Int) (a1_3:Int) (l1_4:List Bool):Option (List S46):=(mopen k k l0 l1_0 a1_1 a1_2 a1_3 l1_4).bind fun r=>objsOf k r
set_option maxHeartbeats 8000000 in
set_option maxRecDepth 100000 in
theorem impl_MemObjs.calls (k:Nat) (A0:Option Addr) (c0:Nat) (l0:List (S112)) (A1_0:Option Addr) (c1_0:Nat) (l1_0:List Int) (a1_1:Int) (a1_2:Int) (a1_3:Int) (A1_4:Option Addr) (c1_4:Nat) (l1_4:List Bool) (r:List S46) (w:World) (hr0:Kd.C k112 w A0 l0.length l0) (hc0:l0.length≤c0) (hr1_0:Kd.C (Kd.int .i64) w A1_0 l1_0.length l1_0) (hc1_0:l1_0.length≤c1_0) (hr1_4:Kd.C Kd.bool w A1_4 l1_4.length l1_4) (hc1_4:l1_4.length≤c1_4) (h:impl_MemObjs.f k l0 l1_0 a1_1 a1_2 a1_3 l1_4=some r):
  Calls Try.prog 19 #[.slice A0 l0.length c0,.agg #[.slice A1_0 l1_0.length c1_0,.int .i64 a1_1,.int .i64 a1_2,.int .i64 a1_3,.slice A1_4 l1_4.length c1_4]] w fun e w'=> ∃v0_:Value,e= .returned (v0_)∧Kd.S k46 46 w' w.heap.size (fun _=>True) v0_ r∧Below w.heap.size w w':=by
 unfold impl_MemObjs.f at h;obtain ⟨m,hm,h⟩:=Option.bind_eq_some_iff.mp h;have HM:=aK hm;have HR0:=aK hr0;have HC0:=aK hc0;have HR1:=aK hr1_0;have HC1:=aK hc1_0;have HR4:=aK hr1_4;have HC4:=aK hc1_4;have HB:=aK (below_alloc (Below.refl w.heap.size w) (.cells #[.slice A1_0 l1_0.length c1_0,.int .i64 a1_1,.int .i64 a1_2,.int .i64 a1_3,.slice A1_4 l1_4.length c1_4] 27 (0,0)));have HH:=aK h;clear hr0 hc0 hr1_0 hc1_0 hr1_4 hc1_4 h hm;go_enter Try.func19,Try.ntmps19
 go_wp2_with fail
 go_at_call 35;refine (memOpen.calls k k A0 c0 l0 A1_0 c1_0 l1_0 a1_1 a1_2 a1_3 A1_4 c1_4 l1_4 m _ (Kd.C_below HR0.out HB.out) HC0.out (Kd.C_below HR1.out HB.out) HC1.out (Kd.C_below HR4.out HB.out) HC4.out HM.out).mono ?_
 cases m with
 |none=>
  rintro e w1 ⟨rfl,hb⟩;have HB1:=aK (below_step HB.out hb);have hh:=Option.some.inj HH.out;subst hh;clear hb HM HH;go_wp2;go_ret;exact ⟨_,rfl,Kd.S_nil _ _ _ _ _,HB1.out⟩
 |some m=>
  rintro e w1 ⟨g,rfl,hmo,hb⟩;have HB1:=aK (below_step HB.out hb);have HV:=aK (MO_MV hmo);clear hb HM hmo
  go_wp2_with fail
  go_at_call 50;refine (memory_objs.calls k g m r _ HV.out HH.out).mono ?_;rintro e w2 ⟨v,rfl,ho,hb⟩;have HB2:=aK (below_step HB1.out hb);have HO:=aK (Kd.S_lower ho (below_size HB1.out));clear hb ho;go_wp2;go_ret;exact ⟨_,rfl,HO.out,HB2.out⟩
theorem eqA48 (d:Nat) (w:World) (x0 y0:Bool) (x1 y1:Int):
  (Op.equalIn (d+2) 48 (.agg #[.bool x0,.int .i64 x1]) (.agg #[.bool y0,.int .i64 y1])).run Try.prog w= .ok (x0==y0&&(x1==y1)) w:=by
 refine eqA_of Try.underlying48 (by kernel_rfl) ?_;refine eqf_cons (by rfl) (by go_simp;rfl) (by go_simp;rfl) (by go_simp) ?_;exact eqf_last (by rfl) (by go_simp;rfl) (by go_simp;rfl) (by go_simp)
end Go.Proofs.Ytnlieahdakafbaa.K
namespace Go.Proofs.Ytnlieahdakafbaa.K
open Go.RowKit Go.Proofs.YtnlieahdakafbaaW.PrintWords Go.Proofs.YtnlieahdakafbaaW.PrintLast Go.Proofs.YtnlieahdakafbaaW.PrintMore
attribute [local go_sem] max2_int min2_int max_two min_two max_three min_three max_four min_four
set_option linter.unusedVariables false
set_option linter.unusedSimpArgs false
attribute [local go_sem high] eqA48
def laws_leVals.l0:Nat→List (S48)→List (S48)→Int→Option (Bool)
  |0,_,_,_=>none
  |k+1,x0,x1,x5=>if x5<(x0.length:Int) then (if 0≤x5 then (if x5<(x1.length:Int) then (if (!(((rd_T48 x0 x5).f0)==((rd_T48 x1 x5).f0))||(!(((rd_T48 x0 x5).f1)==((rd_T48 x1 x5).f1))))=true then (some false) else (laws_leVals.l0 k x0 x1 (wrap64 (x5+1)))) else (none)) else (none)) else (some true)
def laws_leVals.f (k:Nat) (l0:List (S48)) (l1:List (S48)):Option (Bool):=if (l0.length:Int)=(l1.length:Int) then (laws_leVals.l0 k l0 l1 0) else (some false)
set_option maxHeartbeats 8000000 in
set_option maxRecDepth 100000 in
theorem laws_leVals.calls (k : Nat) (A0 : Option Addr) (c0 : Nat) (l0 : List (S48)) (A1 : Option Addr) (c1 : Nat) (l1 : List (S48)) (r : Bool) (w : World) (hr0 : Kd.C k48 w A0 l0.length l0) (hc0 : l0.length ≤ c0) (hr1 : Kd.C k48 w A1 l1.length l1) (hc1 : l1.length ≤ c1) (h : laws_leVals.f k l0 l1 = some r) :
  Calls Try.prog 51 #[.slice A0 l0.length c0,.slice A1 l1.length c1] w fun e w'=>e= .returned (.bool r)∧Drawn0 w w':=by
 have hu48:=Try.underlying48;have HR0:=aK hr0;have HC0:=aK hc0;clear hr0 hc0;have HR1:=aK hr1;have HC1:=aK hc1;clear hr1 hc1;have H:(if (l0.length:Int)=(l1.length:Int) then (laws_leVals.l0 k l0 l1 0) else (some false))=some r:=h
 clear h;by_cases c3:(l0.length:Int)=(l1.length:Int)
 ·rw [if_pos c3] at H
  have c3b0:((l0.length:Int)==(l1.length:Int))=true:=beq_iff_eq.mpr c3
  have c3b1:((l0.length:Int) !=(l1.length:Int))=false:=bne_eq_false_iff_eq.mpr c3
  have c3b2:(l0.length==l1.length)=true:=by first|simpa using c3|(simp at c3 ⊢;omega)
  clear c3;have H':=aK H;clear H;go_enter Try.func51,Try.ntmps51;go_wp2;repeat (go_quiet (fail);try go_wp2)
  go_loopg [5] k (fun kq v5 w'=> ∃(x5_1:Int),v5= .int .i64 x5_1∧Aside0 (laws_leVals.l0 kq l0 l1 x5_1=some r)∧Aside0 (kq≤k)∧Drawn0 w w')
  case atStart=>exact ⟨(0),zz6,H',⟨Nat.le_refl _⟩,by repeat (first|exact Drawn0.refl _|apply Drawn0.step)⟩
  case round =>
   clear H';(try clear c1);(try clear p2);(try clear c3);(try clear c3b0);(try clear c3b1);(try clear c3b2);obtain ⟨x5_1,rfl,HA,HK1,⟨m1,rfl⟩⟩:=hrel
   cases gk with
   |zero=>exact absurd HA.out (by simp [laws_leVals.l0])
   | succ k1 =>
    have H:=HA.out;clear HA;simp only [laws_leVals.l0] at H;by_cases c4:x5_1<(l0.length:Int)
    ·rw [if_pos c4] at H
     have c4b0:decide (x5_1<(l0.length:Int))=true:=decide_eq_true c4
     clear c4;by_cases c5:0≤x5_1
     ·rw [if_pos c5] at H
      have c5b0:decide (0≤x5_1)=true:=decide_eq_true c5
      clear c5;by_cases c6:x5_1<(l1.length:Int)
      ·rw [if_pos c6] at H
       have c6b0:decide (x5_1<(l1.length:Int))=true:=decide_eq_true c6
       clear c6;by_cases c7:(!(((rd_T48 l0 x5_1).f0)==((rd_T48 l1 x5_1).f0))||(!(((rd_T48 l0 x5_1).f1)==((rd_T48 l1 x5_1).f1))))=true
       ·rw [if_pos c7] at H
        have c7b0:(!(((rd_T48 l0 x5_1).f0)==((rd_T48 l1 x5_1).f0))||(!(((rd_T48 l0 x5_1).f1)==((rd_T48 l1 x5_1).f1))))=true:=c7
        clear c7;obtain rfl:=Option.some.inj H;have p387:0≤(x5_1:Int):=of_decide_eq_true zz3
        have q387:x5_1<(l0.length:Int):=of_decide_eq_true zz3
        obtain ⟨ad387,e387,hx387_0,hx387_1⟩:=at_T48 HR0.out x5_1 p387 q387
        cases e387
        replace p387:=eq_true p387;replace q387:=eq_true q387;have p388:0≤(x5_1:Int):=of_decide_eq_true zz3
        have q388:x5_1<(l1.length:Int):=of_decide_eq_true zz3
        obtain ⟨ad388,e388,hx388_0,hx388_1⟩:=at_T48 HR1.out x5_1 p388 q388
        cases e388
        replace p388:=eq_true p388;replace q388:=eq_true q388;go_wp2;repeat (go_quiet (fail);try go_wp2)
        go_ret;exact ⟨zz6,zz12⟩
       ·rw [if_neg c7] at H
        have c7b0:(!(((rd_T48 l0 x5_1).f0)==((rd_T48 l1 x5_1).f0))||(!(((rd_T48 l0 x5_1).f1)==((rd_T48 l1 x5_1).f1))))=false:=by simpa using c7
        clear c7;have H':=aK H;clear H;have p387:0≤(x5_1:Int):=of_decide_eq_true zz3
        have q387:x5_1<(l0.length:Int):=of_decide_eq_true zz3
        obtain ⟨ad387,e387,hx387_0,hx387_1⟩:=at_T48 HR0.out x5_1 p387 q387
        cases e387
        replace p387:=eq_true p387;replace q387:=eq_true q387;have p388:0≤(x5_1:Int):=of_decide_eq_true zz3
        have q388:x5_1<(l1.length:Int):=of_decide_eq_true zz3
        obtain ⟨ad388,e388,hx388_0,hx388_1⟩:=at_T48 HR1.out x5_1 p388 q388
        cases e388
        replace p388:=eq_true p388;replace q388:=eq_true q388;go_wp2;repeat (go_quiet (fail);try go_wp2)
        go_roundg k1
        case measure=>have:=HK1.out;omega
        case rel=>exact ⟨(wrap64 (x5_1+1)),zz6,H',⟨by have:=HK1.out;omega⟩,by repeat (first|exact Drawn0.refl _|apply Drawn0.step)⟩
      ·rw [if_neg c6] at H
       exact absurd H (by simp)
     ·rw [if_neg c5] at H
      exact absurd H (by simp)
    ·rw [if_neg c4] at H
     have c4b0:decide (x5_1<(l0.length:Int))=false:=decide_eq_false c4
     clear c4;obtain rfl:=Option.some.inj H;go_wp2;repeat (go_quiet (fail);try go_wp2)
     go_ret;exact ⟨zz6,zz12⟩
 ·rw [if_neg c3] at H
  have c3b0:((l0.length:Int)==(l1.length:Int))=false:=beq_eq_false_iff_ne.mpr c3
  have c3b1:((l0.length:Int) !=(l1.length:Int))=true:=bne_iff_ne.mpr c3
  have c3b2:(l0.length==l1.length)=false:=by first|simpa using c3|(simp at c3 ⊢;omega)
  obtain rfl:=Option.some.inj H;go_enter Try.func51,Try.ntmps51;go_wp2;repeat (go_quiet (fail);try go_wp2)
  go_ret;exact ⟨zz6,zz12⟩
end Go.Proofs.Ytnlieahdakafbaa.K
namespace Go.Proofs.Ytnlieahdakafbaa.K
open Go.RowKit Go.Proofs.YtnlieahdakafbaaW.PrintWords Go.Proofs.YtnlieahdakafbaaW.PrintLast Go.Proofs.YtnlieahdakafbaaW.PrintMore
attribute [local go_sem] max2_int min2_int max_two min_two max_three min_three max_four min_four
set_option linter.unusedVariables false
set_option linter.unusedSimpArgs false
def laws_leObjs.l0:Nat→List (S46)→List (S46)→Int→Option (Bool)
  |0,_,_,_=>none
  |k+1,x0,x1,x5=>if x5<(x0.length:Int) then (if 0≤x5 then (if x5<(x1.length:Int) then (if ((rd_T46 x0 x5).f0)=((rd_T46 x1 x5).f0) then ((laws_leVals.f k ((rd_T46 x0 x5).f1) ((rd_T46 x1 x5).f1)).bind fun t393=>(if t393=true then (laws_leObjs.l0 k x0 x1 (wrap64 (x5+1))) else (some false))) else (some false)) else (none)) else (none)) else (some true)
def laws_leObjs.f (k:Nat) (l0:List (S46)) (l1:List (S46)):Option (Bool):=if (l0.length:Int)=(l1.length:Int) then (laws_leObjs.l0 k l0 l1 0) else (some false)
set_option maxHeartbeats 8000000 in
set_option maxRecDepth 100000 in
theorem laws_leObjs.calls (k : Nat) (A0 : Option Addr) (c0 : Nat) (l0 : List (S46)) (A1 : Option Addr) (c1 : Nat) (l1 : List (S46)) (r : Bool) (w : World) (hr0 : Kd.C k46 w A0 l0.length l0) (hc0 : l0.length ≤ c0) (hr1 : Kd.C k46 w A1 l1.length l1) (hc1 : l1.length ≤ c1) (h : laws_leObjs.f k l0 l1 = some r) :
  Calls Try.prog 20 #[.slice A0 l0.length c0,.slice A1 l1.length c1] w fun e w'=>e= .returned (.bool r)∧Drawn0 w w':=by
 have HR0:=aK hr0;have HC0:=aK hc0;clear hr0 hc0;have HR1:=aK hr1;have HC1:=aK hc1;clear hr1 hc1;have H:(if (l0.length:Int)=(l1.length:Int) then (laws_leObjs.l0 k l0 l1 0) else (some false))=some r:=h
 clear h;by_cases c3:(l0.length:Int)=(l1.length:Int)
 ·rw [if_pos c3] at H
  have c3b0:((l0.length:Int)==(l1.length:Int))=true:=beq_iff_eq.mpr c3
  have c3b1:((l0.length:Int) !=(l1.length:Int))=false:=bne_eq_false_iff_eq.mpr c3
  have c3b2:(l0.length==l1.length)=true:=by first|simpa using c3|(simp at c3 ⊢;omega)
  clear c3;have H':=aK H;clear H;go_enter Try.func20,Try.ntmps20;go_wp2;repeat (go_quiet (fail);try go_wp2)
  go_loopg [5] k (fun kq v5 w'=> ∃(x5_1:Int),v5= .int .i64 x5_1∧Aside0 (laws_leObjs.l0 kq l0 l1 x5_1=some r)∧Aside0 (kq≤k)∧Drawn0 w w')
  case atStart=>exact ⟨(0),zz6,H',⟨Nat.le_refl _⟩,by repeat (first|exact Drawn0.refl _|apply Drawn0.step)⟩
  case round =>
   clear H';(try clear c1);(try clear c2);(try clear p2);(try clear c3);(try clear c3b0);(try clear c3b1);(try clear c3b2);obtain ⟨x5_1,rfl,HA,HK1,⟨m1,rfl⟩⟩:=hrel
   cases gk with
   |zero=>exact absurd HA.out (by simp [laws_leObjs.l0])
   | succ k1 =>
    have H:=HA.out;clear HA;simp only [laws_leObjs.l0] at H;by_cases c4:x5_1<(l0.length:Int)
    ·rw [if_pos c4] at H
     have c4b0:decide (x5_1<(l0.length:Int))=true:=decide_eq_true c4
     clear c4;by_cases c5:0≤x5_1
     ·rw [if_pos c5] at H
      have c5b0:decide (0≤x5_1)=true:=decide_eq_true c5
      clear c5;by_cases c6:x5_1<(l1.length:Int)
      ·rw [if_pos c6] at H
       have c6b0:decide (x5_1<(l1.length:Int))=true:=decide_eq_true c6
       clear c6;by_cases c7:((rd_T46 l0 x5_1).f0)=((rd_T46 l1 x5_1).f0)
       ·rw [if_pos c7] at H
        have c7b0:(((rd_T46 l0 x5_1).f0)==((rd_T46 l1 x5_1).f0))=true:=beq_iff_eq.mpr c7
        have c7b1:(((rd_T46 l0 x5_1).f0) !=((rd_T46 l1 x5_1).f0))=false:=bne_eq_false_iff_eq.mpr c7
        clear c7;replace H:=Option.bind_eq_some_iff.mp H;obtain ⟨t393,A80,H⟩:=H;(try dsimp only at H);have A8:=aK A80;clear A80;by_cases c9:t393=true
        ·subst c9
         rw [if_pos rfl] at H;have H':=aK H;clear H;have p389:0≤(x5_1:Int):=of_decide_eq_true zz3
         have q389:x5_1<(l0.length:Int):=of_decide_eq_true zz3
         obtain ⟨ad389,A389_1,c389_1,e389,hx389_0,hx389_1,hl389_1,hi389_1⟩:=at_T46 HR0.out x5_1 p389 q389
         cases e389
         have HR389_1:=aK hi389_1;have HC389_1:=aK hl389_1;clear hi389_1 hl389_1;replace p389:=eq_true p389;replace q389:=eq_true q389;have p390:0≤(x5_1:Int):=of_decide_eq_true zz3
         have q390:x5_1<(l1.length:Int):=of_decide_eq_true zz3
         obtain ⟨ad390,A390_1,c390_1,e390,hx390_0,hx390_1,hl390_1,hi390_1⟩:=at_T46 HR1.out x5_1 p390 q390
         cases e390
         have HR390_1:=aK hi390_1;have HC390_1:=aK hl390_1;clear hi390_1 hl390_1;replace p390:=eq_true p390;replace q390:=eq_true q390;have p391:0≤(x5_1:Int):=of_decide_eq_true zz3
         have q391:x5_1<(l0.length:Int):=of_decide_eq_true zz3
         obtain ⟨ad391,A391_1,c391_1,e391,hx391_0,hx391_1,hl391_1,hi391_1⟩:=at_T46 HR0.out x5_1 p391 q391;obtain rfl:ad389=ad391:=(by injection e391);have HR391_1:=aK hi391_1;have HC391_1:=aK hl391_1;clear hi391_1 hl391_1;replace p391:=eq_true p391;replace q391:=eq_true q391;have ea_:=Option.some.inj (hx389_1.symm.trans hx391_1);injection ea_ with ea_ en_ ec_;subst ea_;subst ec_;clear en_;have p392:0≤(x5_1:Int):=of_decide_eq_true zz3
         have q392:x5_1<(l1.length:Int):=of_decide_eq_true zz3
         obtain ⟨ad392,A392_1,c392_1,e392,hx392_0,hx392_1,hl392_1,hi392_1⟩:=at_T46 HR1.out x5_1 p392 q392;obtain rfl:ad390=ad392:=(by injection e392);have HR392_1:=aK hi392_1;have HC392_1:=aK hl392_1;clear hi392_1 hl392_1;replace p392:=eq_true p392;replace q392:=eq_true q392;have ea_:=Option.some.inj (hx390_1.symm.trans hx392_1);injection ea_ with ea_ en_ ec_;subst ea_;subst ec_;clear en_
         go_wp2_with (first|(go_at_call 51;(with_reducible refine (laws_leVals.calls k1 _ _ ((rd_T46 l0 x5_1).f1) _ _ ((rd_T46 l1 x5_1).f1) true _ ?side1 ?side2 ?side3 ?side4 A8.out).mono ?_);(case side1=>exact zz37);(case side2=>exact HC391_1.out);(case side3=>exact zz36);(case side4=>exact HC392_1.out);rintro e w' ⟨rfl,⟨nd,rfl⟩⟩;(try first|exact ⟨rfl,_,World.drewN_drewN _ _ _⟩|exact ⟨rfl,_,Eq.trans (World.drewN_drewN _ _ _) (congrArg (World.drewN _) (Nat.add_assoc _ _ _))⟩)))
         repeat (go_quiet (first|(go_at_call 51;(with_reducible refine (laws_leVals.calls k1 _ _ ((rd_T46 l0 x5_1).f1) _ _ ((rd_T46 l1 x5_1).f1) true _ ?side1 ?side2 ?side3 ?side4 A8.out).mono ?_);(case side1=>exact zz37);(case side2=>exact HC391_1.out);(case side3=>exact zz36);(case side4=>exact HC392_1.out);rintro e w' ⟨rfl,⟨nd,rfl⟩⟩;(try first|exact ⟨rfl,_,World.drewN_drewN _ _ _⟩|exact ⟨rfl,_,Eq.trans (World.drewN_drewN _ _ _) (congrArg (World.drewN _) (Nat.add_assoc _ _ _))⟩)));try go_wp2_with (first|(go_at_call 51;(with_reducible refine (laws_leVals.calls k1 _ _ ((rd_T46 l0 x5_1).f1) _ _ ((rd_T46 l1 x5_1).f1) true _ ?side1 ?side2 ?side3 ?side4 A8.out).mono ?_);(case side1=>exact zz37);(case side2=>exact HC391_1.out);(case side3=>exact zz36);(case side4=>exact HC392_1.out);rintro e w' ⟨rfl,⟨nd,rfl⟩⟩;(try first|exact ⟨rfl,_,World.drewN_drewN _ _ _⟩|exact ⟨rfl,_,Eq.trans (World.drewN_drewN _ _ _) (congrArg (World.drewN _) (Nat.add_assoc _ _ _))⟩))))
         go_roundg k1
         case measure=>have:=HK1.out;omega
         case rel=>exact ⟨(wrap64 (x5_1+1)),zz6,H',⟨by have:=HK1.out;omega⟩,by repeat (first|exact Drawn0.refl _|apply Drawn0.step)⟩
        ·replace c9 := Bool.eq_false_iff.mpr c9
         subst c9;rw [if_neg (show¬(false=true) by decide)] at H;obtain rfl:=Option.some.inj H;have p389:0≤(x5_1:Int):=of_decide_eq_true zz3
         have q389:x5_1<(l0.length:Int):=of_decide_eq_true zz3
         obtain ⟨ad389,A389_1,c389_1,e389,hx389_0,hx389_1,hl389_1,hi389_1⟩:=at_T46 HR0.out x5_1 p389 q389
         cases e389
         have HR389_1:=aK hi389_1;have HC389_1:=aK hl389_1;clear hi389_1 hl389_1;replace p389:=eq_true p389;replace q389:=eq_true q389;have p390:0≤(x5_1:Int):=of_decide_eq_true zz3
         have q390:x5_1<(l1.length:Int):=of_decide_eq_true zz3
         obtain ⟨ad390,A390_1,c390_1,e390,hx390_0,hx390_1,hl390_1,hi390_1⟩:=at_T46 HR1.out x5_1 p390 q390
         cases e390
         have HR390_1:=aK hi390_1;have HC390_1:=aK hl390_1;clear hi390_1 hl390_1;replace p390:=eq_true p390;replace q390:=eq_true q390;have p391:0≤(x5_1:Int):=of_decide_eq_true zz3
         have q391:x5_1<(l0.length:Int):=of_decide_eq_true zz3
         obtain ⟨ad391,A391_1,c391_1,e391,hx391_0,hx391_1,hl391_1,hi391_1⟩:=at_T46 HR0.out x5_1 p391 q391;obtain rfl:ad389=ad391:=(by injection e391);have HR391_1:=aK hi391_1;have HC391_1:=aK hl391_1;clear hi391_1 hl391_1;replace p391:=eq_true p391;replace q391:=eq_true q391;have ea_:=Option.some.inj (hx389_1.symm.trans hx391_1);injection ea_ with ea_ en_ ec_;subst ea_;subst ec_;clear en_;have p392:0≤(x5_1:Int):=of_decide_eq_true zz3
         have q392:x5_1<(l1.length:Int):=of_decide_eq_true zz3
         obtain ⟨ad392,A392_1,c392_1,e392,hx392_0,hx392_1,hl392_1,hi392_1⟩:=at_T46 HR1.out x5_1 p392 q392;obtain rfl:ad390=ad392:=(by injection e392);have HR392_1:=aK hi392_1;have HC392_1:=aK hl392_1;clear hi392_1 hl392_1;replace p392:=eq_true p392;replace q392:=eq_true q392;have ea_:=Option.some.inj (hx390_1.symm.trans hx392_1);injection ea_ with ea_ en_ ec_;subst ea_;subst ec_;clear en_
         go_wp2_with (first|(go_at_call 51;(with_reducible refine (laws_leVals.calls k1 _ _ ((rd_T46 l0 x5_1).f1) _ _ ((rd_T46 l1 x5_1).f1) false _ ?side1 ?side2 ?side3 ?side4 A8.out).mono ?_);(case side1=>exact zz37);(case side2=>exact HC391_1.out);(case side3=>exact zz36);(case side4=>exact HC392_1.out);rintro e w' ⟨rfl,⟨nd,rfl⟩⟩;(try first|exact ⟨rfl,_,World.drewN_drewN _ _ _⟩|exact ⟨rfl,_,Eq.trans (World.drewN_drewN _ _ _) (congrArg (World.drewN _) (Nat.add_assoc _ _ _))⟩)))
         repeat (go_quiet (first|(go_at_call 51;(with_reducible refine (laws_leVals.calls k1 _ _ ((rd_T46 l0 x5_1).f1) _ _ ((rd_T46 l1 x5_1).f1) false _ ?side1 ?side2 ?side3 ?side4 A8.out).mono ?_);(case side1=>exact zz37);(case side2=>exact HC391_1.out);(case side3=>exact zz36);(case side4=>exact HC392_1.out);rintro e w' ⟨rfl,⟨nd,rfl⟩⟩;(try first|exact ⟨rfl,_,World.drewN_drewN _ _ _⟩|exact ⟨rfl,_,Eq.trans (World.drewN_drewN _ _ _) (congrArg (World.drewN _) (Nat.add_assoc _ _ _))⟩)));try go_wp2_with (first|(go_at_call 51;(with_reducible refine (laws_leVals.calls k1 _ _ ((rd_T46 l0 x5_1).f1) _ _ ((rd_T46 l1 x5_1).f1) false _ ?side1 ?side2 ?side3 ?side4 A8.out).mono ?_);(case side1=>exact zz37);(case side2=>exact HC391_1.out);(case side3=>exact zz36);(case side4=>exact HC392_1.out);rintro e w' ⟨rfl,⟨nd,rfl⟩⟩;(try first|exact ⟨rfl,_,World.drewN_drewN _ _ _⟩|exact ⟨rfl,_,Eq.trans (World.drewN_drewN _ _ _) (congrArg (World.drewN _) (Nat.add_assoc _ _ _))⟩))))
         go_ret;exact ⟨zz6,zz12⟩
       ·rw [if_neg c7] at H
        have c7b0:(((rd_T46 l0 x5_1).f0)==((rd_T46 l1 x5_1).f0))=false:=beq_eq_false_iff_ne.mpr c7
        have c7b1:(((rd_T46 l0 x5_1).f0) !=((rd_T46 l1 x5_1).f0))=true:=bne_iff_ne.mpr c7
        obtain rfl:=Option.some.inj H;have p389:0≤(x5_1:Int):=of_decide_eq_true zz3
        have q389:x5_1<(l0.length:Int):=of_decide_eq_true zz3
        obtain ⟨ad389,A389_1,c389_1,e389,hx389_0,hx389_1,hl389_1,hi389_1⟩:=at_T46 HR0.out x5_1 p389 q389
        cases e389
        have HR389_1:=aK hi389_1;have HC389_1:=aK hl389_1;clear hi389_1 hl389_1;replace p389:=eq_true p389;replace q389:=eq_true q389;have p390:0≤(x5_1:Int):=of_decide_eq_true zz3
        have q390:x5_1<(l1.length:Int):=of_decide_eq_true zz3
        obtain ⟨ad390,A390_1,c390_1,e390,hx390_0,hx390_1,hl390_1,hi390_1⟩:=at_T46 HR1.out x5_1 p390 q390
        cases e390
        have HR390_1:=aK hi390_1;have HC390_1:=aK hl390_1;clear hi390_1 hl390_1;replace p390:=eq_true p390;replace q390:=eq_true q390;go_wp2;repeat (go_quiet (fail);try go_wp2)
        go_ret;exact ⟨zz6,zz12⟩
      ·rw [if_neg c6] at H
       exact absurd H (by simp)
     ·rw [if_neg c5] at H
      exact absurd H (by simp)
    ·rw [if_neg c4] at H
     have c4b0:decide (x5_1<(l0.length:Int))=false:=decide_eq_false c4
     clear c4;obtain rfl:=Option.some.inj H;go_wp2;repeat (go_quiet (fail);try go_wp2)
     go_ret;exact ⟨zz6,zz12⟩
 ·rw [if_neg c3] at H
  have c3b0:((l0.length:Int)==(l1.length:Int))=false:=beq_eq_false_iff_ne.mpr c3
  have c3b1:((l0.length:Int) !=(l1.length:Int))=true:=bne_iff_ne.mpr c3
  have c3b2:(l0.length==l1.length)=false:=by first|simpa using c3|(simp at c3 ⊢;omega)
  obtain rfl:=Option.some.inj H;go_enter Try.func20,Try.ntmps20;go_wp2;repeat (go_quiet (fail);try go_wp2)
  go_ret;exact ⟨zz6,zz12⟩
def spec_l21Number.l0:Nat→List Int→List Int→Int→Option (List Int)
  |0,_,_,_=>none
  |k+1,x1,x5,x6=>if x6<(x1.length:Int) then (if 0≤x6 then (if 0≤(rd x1 x6) then (if (rd x1 x6)<(x5.length:Int) then (spec_l21Number.l0 k x1 (x5.set ((rd x1 x6):Int).toNat (wrap64 (x6+1))) (wrap64 (x6+1))) else (none)) else (none)) else (none)) else (some x5)
def spec_l21Number.f (k:Nat) (a0:Int) (l1:List Int):Option (List Int):=if 0≤a0 then (if (a0:Int).toNat≤35184372088832 then (spec_l21Number.l0 k l1 (List.replicate (a0:Int).toNat 0) 0) else (none)) else (none)
theorem spec_l21Number.mono_l: ∀k,(∀y0 y1 y2,LeO (spec_l21Number.l0 k y0 y1 y2) (spec_l21Number.l0 (k+1) y0 y1 y2))
 |0=>fun _ _ _ r h=>by simp [spec_l21Number.l0] at h
 | k + 1 => by
  have ih0:=spec_l21Number.mono_l k
  ·intro y0 y1 y2
   unfold spec_l21Number.l0;repeat' first
   |(with_reducible exact ih0 _ _ _)
   |(with_reducible exact LeO.refl _)
   |(with_reducible exact LeO.none _)
   |(with_reducible refine LeO.ite ?_ ?_)
   |(with_reducible refine LeO.bind ?_ (fun _=>?_))
   |exact ih0 _ _ _
   |exact LeO.none _
   |refine LeO.ite ?_ ?_
   |refine LeO.bind ?_ (fun _=>?_)
set_option maxHeartbeats 8000000 in
set_option maxRecDepth 100000 in
theorem spec_l21Number.calls (k : Nat) (a0 : Int) (A1 : Option Addr) (c1 : Nat) (l1 : List Int) (r : List Int) (w : World) (hr1 : Kd.C (Kd.int .i64) w A1 l1.length l1) (hc1 : l1.length ≤ c1) (h : spec_l21Number.f k a0 l1 = some r) :
  Calls Try.prog 88 #[.int .i64 a0,.slice A1 l1.length c1] w fun e w'=> ∃v0_:Value,e= .returned (v0_)∧Kd.R (Kd.int .i64) 3 w' w.heap.size (fun _=>True) v0_ r∧Below w.heap.size w w':=by
 have HR1:=aK hr1;have HC1:=aK hc1;clear hr1 hc1;have HB:=aK (Below.refl w.heap.size w);have H:(if 0≤a0 then (if (a0:Int).toNat≤35184372088832 then (spec_l21Number.l0 k l1 (List.replicate (a0:Int).toNat 0) 0) else (none)) else (none))=some r:=h
 clear h;by_cases c3:0≤a0
 ·rw [if_pos c3] at H
  have c3b0:=eq_true c3;have c3b1:decide (0≤a0)=true:=decide_eq_true c3
  clear c3;by_cases c4:(a0:Int).toNat≤35184372088832
  ·rw [if_pos c4] at H
   have c4b0:=eq_true c4;have c4b1:decide ((a0:Int).toNat≤35184372088832)=true:=decide_eq_true c4
   clear c4;obtain ⟨y394,hy394⟩: ∃y_:List Int,y_=(List.replicate (a0:Int).toNat 0):=⟨_,rfl⟩;replace H:(spec_l21Number.l0 k l1 y394 0)=some r:=by first|(rw [hy394];with_reducible exact H)|(have H2_:=(Option.bind_some _ _).symm.trans H;rw [hy394];with_reducible exact H2_)|(have H2_:=(Option.bind_some _ _).symm.trans H;with_reducible exact H2_)|with_reducible exact H|(rw [hy394];exact H)|exact H
   have Ny394:=aK hy394;clear hy394;have H':=aK H;clear H;go_enter Try.func88,Try.ntmps88
   go_wp2_with (first|((with_reducible refine gate_dst (N:=8) rfl ?_);refine Kd.R_make (Kd.int .i64) _ 3 rfl (N:=8) rfl 24 _ _ rfl a0 rfl rfl Try.underlying24 (.int .i64 0) 8 info3 rfl (by decide) (by omega) 0 (ok:=fun _=>True) (okp:=fun _=>True) rfl (fun _ hk=>hk) trivial (of_decide_eq_true zz3) (Nat.le_trans (Nat.mul_le_mul_right _ (of_decide_eq_true zz3:a0.toNat≤35184372088832)) (by omega)) (Below.refl _ _) (Nat.le_refl _) ?_;intro v395 w5 ho6 hb hg_ hnew_;clear hg_ hnew_;(first|rw [←Ny394.out] at ho6|(simp only [Int.reduceToNat] at ho6;rw [←Ny394.out] at ho6));have HO396:=aK (Kd.R_lower ho6 (below_size zz1));replace HB:=aK (below_step zz1 hb);clear hb ho6))
   go_loopg [6] k (fun kq v6 w'=> ∃(x5_1:List Int) (x6_1:Int),v6= .int .i64 x6_1∧Aside0 (spec_l21Number.l0 kq l1 x5_1 x6_1=some r)∧Aside0 (kq≤k)∧Aside0 (Kd.R (Kd.int .i64) 3 w' w.heap.size (fun _=>True) v395 x5_1)∧Aside0 (Below w.heap.size w w'))
   case atStart=>exact ⟨(y394),(0),zz6,H',⟨Nat.le_refl _⟩,⟨by (with_reducible repeat (first|apply Kd.R_alloc|apply Kd.R_drewN|apply Kd.R_drew));exact HO396.out⟩,⟨by repeat (first|(with_reducible first|exact HB.out|apply below_alloc|apply pw_below_drewN|apply below_drew1)|exact HB.out)⟩⟩
   case round =>
    clear H';(try clear c1);(try clear p2);(try clear c3);(try clear c3b0);(try clear c3b1);(try clear c4);(try clear c4b0);(try clear c4b1);obtain ⟨x5_1,x6_1,rfl,HA,HK1,HO_5,HB⟩:=hrel
    cases gk with
    |zero=>exact absurd HA.out (by simp [spec_l21Number.l0])
    | succ k1 =>
     have H:=HA.out;clear HA;simp only [spec_l21Number.l0] at H;by_cases c7:x6_1<(l1.length:Int)
     ·rw [if_pos c7] at H
      have c7b0:decide (x6_1<(l1.length:Int))=true:=decide_eq_true c7
      clear c7;by_cases c8:0≤x6_1
      ·rw [if_pos c8] at H
       have c8b0:decide (0≤x6_1)=true:=decide_eq_true c8
       clear c8;by_cases c9:0≤(rd l1 x6_1)
       ·rw [if_pos c9] at H
        have c9b0:decide (0≤(rd l1 x6_1))=true:=decide_eq_true c9
        clear c9;by_cases c10:(rd l1 x6_1)<(x5_1.length:Int)
        ·rw [if_pos c10] at H
         have c10b0:decide ((rd l1 x6_1)<(x5_1.length:Int))=true:=decide_eq_true c10
         clear c10;obtain ⟨y398,hy398⟩: ∃y_:List Int,y_=(x5_1.set ((rd l1 x6_1):Int).toNat (wrap64 (x6_1+1))):=⟨_,rfl⟩;replace H:(spec_l21Number.l0 k1 l1 y398 (wrap64 (x6_1+1)))=some r:=by first|(rw [hy398];with_reducible exact H)|(have H2_:=(Option.bind_some _ _).symm.trans H;rw [hy398];with_reducible exact H2_)|(have H2_:=(Option.bind_some _ _).symm.trans H;with_reducible exact H2_)|with_reducible exact H|(rw [hy398];exact H)|exact H
         have Ny398:=aK hy398;clear hy398;have H':=aK H;clear H;have p397:0≤(x6_1:Int):=of_decide_eq_true zz3
         have q397:x6_1<(l1.length:Int):=of_decide_eq_true zz3
         obtain ⟨ad397,e397,hx397_0⟩:=Kd.at_int HR1.out x6_1 p397 q397
         cases e397
         replace hx397_0:=(HB.out.cell (World.block_lt_of_cell? w _ hx397_0)).trans hx397_0;replace p397:=eq_true p397;replace q397:=eq_true q397;have p11:0≤((rd l1 x6_1):Int):=of_decide_eq_true zz3
         have q11:((rd l1 x6_1):Int)<((x5_1.length:Int):Int):=of_decide_eq_true zz3
         obtain ⟨go11,co11,eo11,gb11,gl11,cl11,HG11⟩:=Kd.R_form HO_5.out (by omega)
         (first|cases eo11|(injection eo11 with ea_ en_ ec_;(first|subst ea_|(injection ea_ with ea_;subst ea_));subst ec_;clear en_))
         have GB11:=aK gb11;have GG11:=aK HG11;clear gb11 gl11 HG11;obtain ⟨hx11_0,hf11_0⟩:=Kd.R_celln 0 HO_5.out ((rd l1 x6_1):Int) p11 q11;replace p11:=eq_true p11;replace q11:=eq_true q11;have HP12:=Kd.R_putg HO_5.out ((rd l1 x6_1):Int) (wrap64 (x6_1+1))
         go_wp2_with (first|((with_reducible refine gate_store (t:=3) (p:=22) rfl ?_);refine store_event (t:=3) (p:=22) (v:=?vo_w13) (w1:=(wr.setCell ⟨go11,((rd l1 x6_1):Int).toNat,none⟩ (.int .i64 (wrap64 (x6_1+1))))) ?hg ?ho ?hn ?hr ?_;(case ho=>rfl);(case hg=>rfl);(case hn=>rfl);(case hr=>first|(go_simp;done)|(go_simp;rfl)|((try (first|(obtain ⟨_,_,rfl⟩:=Kd.R_slice HO_5.out)|(obtain ⟨_,_,rfl⟩:=Kd.S_slice HO_5.out)));first|(go_simp;done)|(go_simp;rfl)));intro w13 hw;have hg:wr.grownBy w13 (some go11):=(by rw [hw];exact HP12.2);have hp_:Kd.R (Kd.int .i64) 3 w13 w.heap.size (fun _=>True) (.slice (some ⟨go11,0,none⟩) x5_1.length co11) y398:=(by rw [hw,Ny398.out];exact HP12.1);clear HP12;replace HO_5:=aK (hp_);replace HB:=aK ((by rw [hw];exact below_set (HB.out) GB11.out:Below w.heap.size w w13));clear hg hw hp_))
         go_roundg k1
         case measure=>have:=HK1.out;omega
         case rel=>exact ⟨(y398),(wrap64 (x6_1+1)),zz6,H',⟨by have:=HK1.out;omega⟩,⟨by (with_reducible repeat (first|apply Kd.R_alloc|apply Kd.R_drewN|apply Kd.R_drew));exact HO_5.out⟩,⟨by repeat (first|(with_reducible first|exact HB.out|apply below_alloc|apply pw_below_drewN|apply below_drew1)|exact HB.out)⟩⟩
        ·rw [if_neg c10] at H
         exact absurd H (by simp)
       ·rw [if_neg c9] at H
        exact absurd H (by simp)
      ·rw [if_neg c8] at H
       exact absurd H (by simp)
     ·rw [if_neg c7] at H
      have c7b0:decide (x6_1<(l1.length:Int))=false:=decide_eq_false c7
      clear c7;obtain rfl:=Option.some.inj H;go_wp2;go_ret;exact ⟨_,by first|rfl|(simp [errW_none,errW_some]<;>rfl)|(simp [*,errW_none,errW_some]<;>rfl),by (with_reducible repeat (first|apply Kd.R_alloc|apply Kd.R_drewN|apply Kd.R_drew));exact HO_5.out,by repeat (first|(with_reducible first|exact HB.out|apply below_alloc|apply pw_below_drewN|apply below_drew1)|exact HB.out)⟩
  ·rw [if_neg c4] at H
   exact absurd H (by simp)
 ·rw [if_neg c3] at H
  exact absurd H (by simp)
end Go.Proofs.Ytnlieahdakafbaa.K
