import Derived.Test.YtnlieahdakafbaaPd24
import Derived.Test.YtnlieahdakafbaaPd26
import Derived.Test.YtnlieahdakafbaaPd25
import Derived.BigQuiet
import Derived.Laws.Bits64
namespace Go.Proofs.Ytnlieahdakafbaa.Pure
open Go.RowKit Go.Proofs.Ytnlieahdakafbaa.K Go.Proofs.YtnlieahdakafbaaW.PrintWords Go.Proofs.YtnlieahdakafbaaW.PrintLast Go.Proofs.YtnlieahdakafbaaW.PrintMore
set_option linter.unusedVariables false
set_option linter.unusedSimpArgs false
theorem fields_same (cs:Cs): ∀(k:Nat) (a:Int),spec_l2Fields.f k cs a=impl_classFields.f k cs a
  |0,a=>by rw [spec_l2Fields.f,impl_classFields.f]
  |k+1,a=>by rw [spec_l2Fields.f,impl_classFields.f,fields_same cs k]
theorem csOk_two {cs:Cs} (h:csOk cs=true) {i:Int} (h0:0≤i) (h1:i<cs.length):(flds cs i).length≤2:=by
 have h2:=csOk_at h h0 h1;unfold clsOk at h2;simp only [Bool.and_eq_true] at h2;have h3:=h2.2;by_cases c0:i=0
 ·rw [if_pos c0, decide_eq_true_eq] at h3
  rw [c0,h3.2];simp
 rw [if_neg c0] at h3;by_cases c1:i=1
 ·rw [if_pos c1, decide_eq_true_eq] at h3
  rw [c1,h3.2];simp
 rw [if_neg c1,decide_eq_true_eq] at h3;exact h3.2
theorem classFields_ev {cs:Cs} (h:csOk cs=true): ∀a:Int,0≤a→a<cs.length→∃fs,fs.length≤2*a.toNat∧∀k,a.toNat+1≤k→impl_classFields.f k cs a=some fs:=by
 refine cls_ind h ⟨[],by simp,fun k hk=>?_⟩ ?_
 ·obtain ⟨k, rfl⟩ : ∃ m, k = m + 1 := ⟨k - 1, by omega⟩
  rw [impl_classFields.f,if_pos rfl]
 ·intro a ha hl ⟨fs, hfs, hk⟩
  have hs:=csOk_sup h ha hl;have h2:=csOk_two h (by omega) hl;refine ⟨fs++flds cs a,by rw [List.length_append];omega,fun k hk2=>?_⟩;obtain ⟨k,rfl⟩: ∃m,k=m+1:=⟨k - 1,by omega⟩;have e:=hk k (by omega);rw [impl_classFields.f,if_neg (by omega),if_pos (by omega),if_pos hl];show ((impl_classFields.f k cs (sup cs a)).bind fun t=>if t.length+(flds cs a).length<17592186044416 then some (t++flds cs a) else none)=_
  rw [e,Option.bind_some,if_pos (by have:=csOk_len h;omega)]
def cfl (cs:Cs) (a:Int):List Int:=(impl_classFields.f 10 cs a).getD []
theorem cfl_eq {cs:Cs} (h:csOk cs=true) {a:Int} (h0:0≤a) (h1:a<cs.length):(cfl cs a).length≤8∧∀k,10≤k→impl_classFields.f k cs a=some (cfl cs a):=by
 have hl:=csOk_len h;obtain ⟨fs,hf,hk⟩:=classFields_ev h a h0 h1;have e:cfl cs a=fs:=by unfold cfl;rw [hk 10 (by omega)];rfl
 rw [e];exact ⟨by omega,fun k hk2=>hk k (by omega)⟩
def allF (cs:Cs):List (List Int):=(List.range cs.length).map (fun i:Nat=>cfl cs i)
theorem allF_len (cs:Cs):(allF cs).length=cs.length:=by unfold allF;simp
theorem allF_at (cs:Cs) {c:Int} (h0:0≤c) (h1:c<cs.length):rdL (allF cs) c=cfl cs c:=by
 have h2:c.toNat<cs.length:=by omega
 unfold rdL allF;rw [List.getD_eq_getElem?_getD,List.getElem?_map,List.getElem?_range h2];show cfl cs ((c.toNat:Nat):Int)=_
 rw [Int.toNat_of_nonneg h0]
theorem allF_short {cs:Cs} (h:csOk cs=true):FShort (allF cs):=by
 intro c h0 h1;rw [allF_len] at h1;rw [allF_at cs h0 h1];have:=(cfl_eq h h0 h1).1
 omega
theorem allF_all {cs:Cs} (h:csOk cs=true):(allF cs).all (fun r=>decide (r.length≤4294967296))=true:=by
 rw [List.all_eq_true];intro r hr;obtain ⟨i,hi,rfl⟩:=List.getElem_of_mem hr;have h2:=allF_short h (i:Int) (by omega) (by omega);unfold rdL at h2;rw [Int.toNat_natCast,List.getD_eq_getElem?_getD,List.getElem?_eq_getElem hi] at h2;exact decide_eq_true h2
theorem allFields_l0 {cs:Cs} (h:csOk cs=true) (d:Nat): ∀(k i:Nat),i+d=cs.length→d+11≤k→impl_allFields.l0 k cs ((List.range i).map (fun j:Nat=>cfl cs j)) cs.length i=some (allF cs):=by
 have hl:=csOk_len h
 induction d with
 |zero=>
  intro k i hi hk;obtain ⟨k,rfl⟩: ∃m,k=m+1:=⟨k - 1,by omega⟩;rw [impl_allFields.l0,if_neg (by omega)];unfold allF;rw [show i=cs.length by omega]
 |succ d ih=>
  intro k i hi hk;obtain ⟨k,rfl⟩: ∃m,k=m+1:=⟨k - 1,by omega⟩;rw [impl_allFields.l0,if_pos (by omega),(cfl_eq h (a:=(i:Int)) (by omega) (by omega)).2 k (by omega)];simp only [Option.bind_some]
  rw [if_pos (by simp;omega),wrap_inc (n:=1000) (by omega) (by omega) (by omega)];have:=ih k (i+1) (by omega) (by omega)
  rw [List.range_succ,List.map_append] at this;exact this
theorem allFields_eq {cs:Cs} (h:csOk cs=true) (k:Nat) (hk:20≤k):impl_allFields.f k cs=some (allF cs):=by
 have hl:=csOk_len h;have:=allFields_l0 h cs.length k 0 (by omega) (by omega)
 unfold impl_allFields.f;exact this
theorem measN_c {cs:Cs} {c:Int} (n:Int) (h0:0≤c) (h1:c<cs.length):measN (allF cs) c n=1+(cfl cs c).length:=by
  unfold measN;rw [if_neg (by omega),allF_len,if_pos ⟨h0,h1⟩,allF_at cs h0 h1]
theorem l21Size_eq {cs:Cs} (h:csOk cs=true) {ws:List Int} (hw:ws.length≤1048576) {i e:Int} (h0:0≤i) (he:e≤ws.length) (k:Nat) (hk:20≤k):
  spec_l21Size.f k cs ws i e=some (if i<e then mstep ws (allF cs) e i else 0):=by
 have hl:=csOk_len h;unfold spec_l21Size.f;by_cases c0:i<e
 case neg=>rw [if_pos (by omega),if_neg c0]
 case pos=>
 rw [if_neg (by omega),if_pos h0,if_pos (by omega),spec_l6In_eq,if_pos c0,wrap64_of (n:=(cs.length:Int) - 1) (by omega) (by omega)];simp only [Option.bind_some,decide_eq_true_eq]
 obtain ⟨c,hc⟩: ∃c,c=rd ws i:=⟨_,rfl⟩;unfold mstep;rw [←hc];by_cases c1:0≤c∧c≤(cs.length:Int) - 1
 ·have c1' : c < (cs.length : Int) := by omega
  obtain ⟨f1,f2⟩:=cfl_eq h c1.1 c1';rw [if_pos c1,fields_same,f2 k (by omega),if_neg (by omega),measN_c 0 c1.1 c1'];simp only [Option.bind_some]
  rw [wrap64_of (n:=1+((cfl cs c).length:Int)) (by omega) (by omega),wrap64_of (n:=i+(1+((cfl cs c).length:Int))) (by omega) (by omega)];by_cases c2:i+(1+((cfl cs c).length:Int))>e
  ·rw [if_pos c2,if_neg (by omega)]
  ·rw [if_neg c2,if_pos (by omega)]
 rw [if_neg c1];obtain ⟨k,rfl⟩: ∃m,k=m+2:=⟨k - 2,by omega⟩;have w1:wrap64 (i+1)=i+1:=wrap64_of (by omega) (by omega)
 have key: ∀b:Bool,(b=true↔(c= -1∨c= -2))→spec_l21Size.j0 (k+2) ws i e 0 b=some (if c<0 then (if i+1<e then (if measN (allF cs) c (rd ws (i+1))≤e - i then measN (allF cs) c (rd ws (i+1)) else 0) else 0) else (if measN (allF cs) c 0≤e - i then measN (allF cs) c 0 else 0)):=by
  intro b hb;rw [spec_l21Size.j0];by_cases c2:c= -1∨c= -2
  ·rw [if_pos (hb.mpr c2), w1, if_pos (show c < 0 by omega)]
   by_cases c3:i+1≥e
   ·rw [if_pos c3,spec_l21Size.j1,if_pos rfl,if_neg (show¬i+1<e by omega)]
   rw [if_neg c3,if_pos (show 0≤i+1 by omega),if_pos (show i+1<(ws.length:Int) by omega),spec_l6In_eq,if_pos (show i+1<e by omega)];simp only [Option.bind_some]
   obtain ⟨n,hn⟩: ∃n,n=rd ws (i+1):=⟨_,rfl⟩;rw [←hn];have m1:measN (allF cs) c n=if 0≤n∧n≤6 then 2+n else 0:=by unfold measN;rw [if_pos c2]
   rw [m1,spec_l21Size.j1];by_cases c4:0≤n∧n≤6
   ·rw [decide_eq_true c4, if_neg (by simp), w1, if_pos (show 0 ≤ i + 1 by omega), if_pos (show i + 1 < (ws.length : Int) by omega), if_pos c4, ← hn, wrap64_of (n := 2 + n) (by omega) (by omega), wrap64_of (n := i + (2 + n)) (by omega) (by omega)]
    by_cases c5:i+(2+n)>e
    ·rw [if_pos c5,if_neg (by omega)]
    ·rw [if_neg c5,if_pos (by omega)]
   ·rw [decide_eq_false c4,if_pos (by simp),if_neg c4,if_pos (by omega)]
  ·rw [if_neg (fun hh => c2 (hb.mp hh)), wrap64_of (n := i + 0) (by omega) (by omega), if_neg (by omega)]
   have m0: ∀n,measN (allF cs) c n=0:=fun n=>by unfold measN;rw [if_neg c2,allF_len,if_neg (by omega)]
   rw [m0,m0];by_cases c3:c<0
   ·rw [if_pos c3]
    by_cases c4:i+1<e
    ·rw [if_pos c4,if_pos (by omega)]
    ·rw [if_neg c4]
   ·rw [if_neg c3,if_pos (by omega)]
 by_cases c2:c= -1
 ·rw [if_pos c2,key true (by simp [c2])]
 ·rw [if_neg c2,key _ (by simp [c2])]
end Go.Proofs.Ytnlieahdakafbaa.Pure
namespace Go.Proofs.Ytnlieahdakafbaa.K
open Go.RowKit Go.Proofs.YtnlieahdakafbaaW.PrintWords Go.Proofs.YtnlieahdakafbaaW.PrintLast Go.Proofs.YtnlieahdakafbaaW.PrintMore
attribute [local go_sem] max2_int min2_int max_two min_two max_three min_three max_four min_four
set_option linter.unusedVariables false
set_option linter.unusedSimpArgs false
def spec_l21Starts.l0:Nat→List Int→List Bool→Int→Option (List Bool)
  |0,_,_,_=>none
  |k+1,x1,x5,x6=>if x6<(x1.length:Int) then (if 0≤x6 then (if 0≤(rd x1 x6) then (if (rd x1 x6)<(x5.length:Int) then (spec_l21Starts.l0 k x1 (x5.set ((rd x1 x6):Int).toNat true) (wrap64 (x6+1))) else (none)) else (none)) else (none)) else (some x5)
def spec_l21Starts.f (k:Nat) (a0:Int) (l1:List Int):Option (List Bool):=if 0≤a0 then (if (a0:Int).toNat≤281474976710656 then (spec_l21Starts.l0 k l1 (List.replicate (a0:Int).toNat false) 0) else (none)) else (none)
set_option maxHeartbeats 8000000 in
set_option maxRecDepth 100000 in
theorem spec_l21Starts.calls (k : Nat) (a0 : Int) (A1 : Option Addr) (c1 : Nat) (l1 : List Int) (r : List Bool) (w : World) (hr1 : Kd.C (Kd.int .i64) w A1 l1.length l1) (hc1 : l1.length ≤ c1) (h : spec_l21Starts.f k a0 l1 = some r) :
  Calls Try.prog 42 #[.int .i64 a0,.slice A1 l1.length c1] w fun e w'=> ∃v0_:Value,e= .returned (v0_)∧Kd.R Kd.bool 4 w' w.heap.size (fun _=>True) v0_ r∧Below w.heap.size w w':=by
 have HR1:=aK hr1;have HC1:=aK hc1;clear hr1 hc1;have HB:=aK (Below.refl w.heap.size w);have H:(if 0≤a0 then (if (a0:Int).toNat≤281474976710656 then (spec_l21Starts.l0 k l1 (List.replicate (a0:Int).toNat false) 0) else (none)) else (none))=some r:=h
 clear h;by_cases c3:0≤a0
 ·rw [if_pos c3] at H
  have c3b0:=eq_true c3;have c3b1:decide (0≤a0)=true:=decide_eq_true c3
  clear c3;by_cases c4:(a0:Int).toNat≤281474976710656
  ·rw [if_pos c4] at H
   have c4b0:=eq_true c4;have c4b1:decide ((a0:Int).toNat≤281474976710656)=true:=decide_eq_true c4
   clear c4;obtain ⟨y250,hy250⟩: ∃y_:List Bool,y_=(List.replicate (a0:Int).toNat false):=⟨_,rfl⟩;replace H:(spec_l21Starts.l0 k l1 y250 0)=some r:=by first|(rw [hy250];with_reducible exact H)|(have H2_:=(Option.bind_some _ _).symm.trans H;rw [hy250];with_reducible exact H2_)|(have H2_:=(Option.bind_some _ _).symm.trans H;with_reducible exact H2_)|with_reducible exact H|(rw [hy250];exact H)|exact H
   have Ny250:=aK hy250;clear hy250;have H':=aK H;clear H;go_enter Try.func42,Try.ntmps42
   go_wp2_with (first|((with_reducible refine gate_dst (N:=8) rfl ?_);refine Kd.R_make Kd.bool _ 4 rfl (N:=8) rfl 25 _ _ rfl a0 rfl rfl Try.underlying25 (.bool false) 1 info4 rfl (by decide) (by omega) false (ok:=fun _=>True) (okp:=fun _=>True) rfl (fun _ hk=>hk) trivial (of_decide_eq_true zz3) (Nat.le_trans (Nat.mul_le_mul_right _ (of_decide_eq_true zz3:a0.toNat≤281474976710656)) (by omega)) (Below.refl _ _) (Nat.le_refl _) ?_;intro v251 w5 ho6 hb hg_ hnew_;clear hg_ hnew_;(first|rw [←Ny250.out] at ho6|(simp only [Int.reduceToNat] at ho6;rw [←Ny250.out] at ho6));have HO252:=aK (Kd.R_lower ho6 (below_size zz1));replace HB:=aK (below_step zz1 hb);clear hb ho6))
   go_loopg [6] k (fun kq v6 w'=> ∃(x5_1:List Bool) (x6_1:Int),v6= .int .i64 x6_1∧Aside0 (spec_l21Starts.l0 kq l1 x5_1 x6_1=some r)∧Aside0 (kq≤k)∧Aside0 (Kd.R Kd.bool 4 w' w.heap.size (fun _=>True) v251 x5_1)∧Aside0 (Below w.heap.size w w'))
   case atStart=>exact ⟨(y250),(0),zz7,H',⟨Nat.le_refl _⟩,⟨by (with_reducible repeat (first|apply Kd.R_alloc|apply Kd.R_drewN|apply Kd.R_drew));exact HO252.out⟩,⟨by repeat (first|(with_reducible first|exact HB.out|apply below_alloc|apply pw_below_drewN|apply below_drew1)|exact HB.out)⟩⟩
   case round =>
    clear H';(try clear c1);(try clear p2);(try clear c3);(try clear c3b0);(try clear c3b1);(try clear c4);(try clear c4b0);(try clear c4b1);obtain ⟨x5_1,x6_1,rfl,HA,HK1,HO_5,HB⟩:=hrel
    cases gk with
    |zero=>exact absurd HA.out (by simp [spec_l21Starts.l0])
    | succ k1 =>
     have H:=HA.out;clear HA;simp only [spec_l21Starts.l0] at H;by_cases c7:x6_1<(l1.length:Int)
     ·rw [if_pos c7] at H
      have c7b0:decide (x6_1<(l1.length:Int))=true:=decide_eq_true c7
      clear c7;by_cases c8:0≤x6_1
      ·rw [if_pos c8] at H
       have c8b0:decide (0≤x6_1)=true:=decide_eq_true c8
       clear c8;by_cases c9:0≤(rd l1 x6_1)
       ·rw [if_pos c9] at H
        have c9b0:decide (0≤(rd l1 x6_1))=true:=decide_eq_true c9
        clear c9;by_cases c10:(rd l1 x6_1)<(x5_1.length:Int)
        ·rw [if_pos c10] at H
         have c10b0:decide ((rd l1 x6_1)<(x5_1.length:Int))=true:=decide_eq_true c10
         clear c10;obtain ⟨y254,hy254⟩: ∃y_:List Bool,y_=(x5_1.set ((rd l1 x6_1):Int).toNat true):=⟨_,rfl⟩;replace H:(spec_l21Starts.l0 k1 l1 y254 (wrap64 (x6_1+1)))=some r:=by first|(rw [hy254];with_reducible exact H)|(have H2_:=(Option.bind_some _ _).symm.trans H;rw [hy254];with_reducible exact H2_)|(have H2_:=(Option.bind_some _ _).symm.trans H;with_reducible exact H2_)|with_reducible exact H|(rw [hy254];exact H)|exact H
         have Ny254:=aK hy254;clear hy254;have H':=aK H;clear H;have p253:0≤(x6_1:Int):=of_decide_eq_true zz3
         have q253:x6_1<(l1.length:Int):=of_decide_eq_true zz3
         obtain ⟨ad253,e253,hx253_0⟩:=Kd.at_int HR1.out x6_1 p253 q253
         cases e253
         replace hx253_0:=(HB.out.cell (World.block_lt_of_cell? w _ hx253_0)).trans hx253_0;replace p253:=eq_true p253;replace q253:=eq_true q253;have p11:0≤((rd l1 x6_1):Int):=of_decide_eq_true zz3
         have q11:((rd l1 x6_1):Int)<((x5_1.length:Int):Int):=of_decide_eq_true zz3
         obtain ⟨go11,co11,eo11,gb11,gl11,cl11,HG11⟩:=Kd.R_form HO_5.out (by omega)
         (first|cases eo11|(injection eo11 with ea_ en_ ec_;(first|subst ea_|(injection ea_ with ea_;subst ea_));subst ec_;clear en_))
         have GB11:=aK gb11;have GG11:=aK HG11;clear gb11 gl11 HG11;obtain ⟨hx11_0,hf11_0⟩:=Kd.R_celln false HO_5.out ((rd l1 x6_1):Int) p11 q11;replace p11:=eq_true p11;replace q11:=eq_true q11;have HP12:=Kd.R_putg HO_5.out ((rd l1 x6_1):Int) true
         go_wp2_with (first|((with_reducible refine gate_store (t:=4) (p:=20) rfl ?_);refine store_event (t:=4) (p:=20) (v:=?vo_w13) (w1:=(wr.setCell ⟨go11,((rd l1 x6_1):Int).toNat,none⟩ (.bool true))) ?hg ?ho ?hn ?hr ?_;(case ho=>rfl);(case hg=>rfl);(case hn=>rfl);(case hr=>first|(go_simp;done)|(go_simp;rfl)|((try (first|(obtain ⟨_,_,rfl⟩:=Kd.R_slice HO_5.out)|(obtain ⟨_,_,rfl⟩:=Kd.S_slice HO_5.out)));first|(go_simp;done)|(go_simp;rfl)));intro w13 hw;have hg:wr.grownBy w13 (some go11):=(by rw [hw];exact HP12.2);have hp_:Kd.R Kd.bool 4 w13 w.heap.size (fun _=>True) (.slice (some ⟨go11,0,none⟩) x5_1.length co11) y254:=(by rw [hw,Ny254.out];exact HP12.1);clear HP12;replace HO_5:=aK (hp_);replace HB:=aK ((by rw [hw];exact below_set (HB.out) GB11.out:Below w.heap.size w w13));clear hg hw hp_))
         go_roundg k1
         case measure=>have:=HK1.out;omega
         case rel=>exact ⟨(y254),(wrap64 (x6_1+1)),zz7,H',⟨by have:=HK1.out;omega⟩,⟨by (with_reducible repeat (first|apply Kd.R_alloc|apply Kd.R_drewN|apply Kd.R_drew));exact HO_5.out⟩,⟨by repeat (first|(with_reducible first|exact HB.out|apply below_alloc|apply pw_below_drewN|apply below_drew1)|exact HB.out)⟩⟩
        ·rw [if_neg c10] at H
         exact absurd H (by simp)
       ·rw [if_neg c9] at H
        exact absurd H (by simp)
      ·rw [if_neg c8] at H
       exact absurd H (by simp)
     ·rw [if_neg c7] at H
      have c7b0:decide (x6_1<(l1.length:Int))=false:=decide_eq_false c7
      clear c7;obtain rfl:=Option.some.inj H;go_wp2;go_ret;exact ⟨_,by first|rfl|(simp [errW_none,errW_some]<;>rfl)|(simp [*,errW_none,errW_some]<;>rfl),by (with_reducible repeat (first|apply Kd.R_alloc|apply Kd.R_drewN|apply Kd.R_drew));exact HO_5.out,by repeat (first|(with_reducible first|exact HB.out|apply below_alloc|apply pw_below_drewN|apply below_drew1)|exact HB.out)⟩
  ·rw [if_neg c4] at H
   exact absurd H (by simp)
 ·rw [if_neg c3] at H
  exact absurd H (by simp)
def thing_count.f (m:Mm) (at_:Int):Option Int:=(thing_class.f m at_).bind fun c=>
  if c<0 then (if at_<m.words.length then some (rd m.words at_) else none)
  else if c<m.fields.length∧m.fields.length≤281474976710656 then some ((rdL m.fields c).length:Int) else none
set_option maxHeartbeats 4000000 in
set_option maxRecDepth 100000 in
theorem thing_count.calls (g:Nat) (m:Mm) (at_ r:Int) (w:World) (hm:MV w g m) (h:thing_count.f m at_=some r):
  Calls Try.prog 71 #[thV g at_] w fun e w'=>e= .returned (.int .i64 r)∧Below w.heap.size w w':=by
 unfold thing_count.f at h;obtain ⟨c,hc,h⟩:=Option.bind_eq_some_iff.mp h
 have h1:1≤at_:=by
  unfold thing_class.f at hc;split at hc
  case isTrue hb=>exact hb.1
  case isFalse=>simp at hc
 have HC:=aK hc;have HM:=aK hm;clear hc hm;by_cases c1:c<0
 ·rw [if_pos c1] at h
  have d1:decide (c<0)=true:=decide_eq_true c1
  split at h
  case isFalse=>simp at h
  case isTrue h2=>
  have HR:=aK (Option.some.inj h);clear h;unfold thV;go_enter Try.func71,Try.ntmps71
  go_wp2_with fail
  go_at_call 85;refine (thing_class.calls g m at_ c _ (MV_below HM.out (below_alloc (Below.refl _ _) _)) HC.out).mono ?_;rintro e w1 ⟨rfl,hb⟩;have HB:=aK (below_step (below_alloc (Below.refl _ _) _) hb:Below w.heap.size w w1);have hbx:=box_new hb;obtain ⟨AW,cW,AC,cC,AF,cF,AB,cB,h0,hW,_,_,_,_⟩:=MV_below HM.out HB.out;have p1:=eq_true (show 0≤at_ by omega);have p2:=eq_true (show at_<(m.words.length:Int) by omega);obtain ⟨ad,e0,hx⟩:=Kd.at_int hW at_ (by omega) (by omega)
  cases e0
  have b0:=(blk_cell hbx 0).trans rfl;have b1:=(blk_cell hbx 1).trans rfl;have g0:=(blk_cell h0 0).trans rfl;clear hW h1 h2 c1 hbx h0 hb;go_wp2
  go_quiet (fail)
  go_wp2;go_ret;exact ⟨by rw [←HR.out];rfl,pw_below_drewN HB.out _⟩
 ·rw [if_neg c1] at h
  have d1:decide (c<0)=false:=decide_eq_false c1
  split at h
  case isFalse=>simp at h
  case isTrue h2=>
  have HR:=aK (Option.some.inj h);clear h;unfold thV;go_enter Try.func71,Try.ntmps71
  go_wp2_with fail
  go_at_call 85;refine (thing_class.calls g m at_ c _ (MV_below HM.out (below_alloc (Below.refl _ _) _)) HC.out).mono ?_;rintro e w1 ⟨rfl,hb⟩;have HB:=aK (below_step (below_alloc (Below.refl _ _) _) hb:Below w.heap.size w w1);have hbx:=box_new hb;have HM1:=aK (MV_below HM.out HB.out);obtain ⟨AW,cW,AC,cC,AF,cF,AB,cB,h0,_,_,hF,_,_⟩:=HM1.out;have p1:=eq_true (show 0≤c by omega);have p2:=eq_true (show c<(m.fields.length:Int) by omega);obtain ⟨ad,Af,cf,e0,hx,_⟩:=at_rows hF c (by omega) (by omega)
  cases e0
  have b0:=(blk_cell hbx 0).trans rfl;have b1:=(blk_cell hbx 1).trans rfl;have g5:=(blk_cell h0 5).trans rfl;clear hF h1 h2 c1 hbx h0 hb;go_wp2;refine sT 11 (S:=fun w'=>Aside0 (Below w.heap.size w w')∧Aside0 (MV w' g (m))∧w'.cell? (⟨w.heap.size,0,none⟩)=some (.pointer (some ⟨g,0,none⟩))∧w'.cell? (⟨w.heap.size,1,none⟩)=some (.int .i64 at_)∧w'.cell? (⟨g,5,none⟩)=some (.slice (some ad) m.fields.length cF)∧w'.cell? (ad.add c.toNat)=some (.slice Af (rdL m.fields c).length cf)) (ds:=[]) ⟨⟨below_drew1 HB.out⟩,⟨MV_below HM1.out (below_drew1 (Below.refl _ _))⟩,(by go_simp),(by go_simp),(by go_simp),(by go_simp)⟩ (fun hHeld=>?_);refine pS 0 16 #[true,false,false,false,false,false,false,false,false,false,false] ?_;refine tS 1 17 #[true,true,false,false,false,false,false,false,false,false,false] rfl rfl (by kernel_rfl) hHeld zz5 ?_;refine pS 2 18 #[true,true,true,false,false,false,false,false,false,false,false] ?_;refine pS 3 19 #[true,true,true,true,false,false,false,false,false,false,false] ?_;refine tS 4 20 #[true,true,true,true,true,false,false,false,false,false,false] rfl rfl (by kernel_rfl) hHeld zz5 ?_;refine tS 5 21 #[true,true,true,true,true,true,false,false,false,false,false] rfl rfl (by kernel_rfl) hHeld zz5 ?_;refine oS 6 22 #[true,true,true,true,true,true,true,false,false,false,false] rfl rfl (fun K hK=>?_);refine gO Try.func85 #[thV g at_] ?_;(with_reducible refine (thing_class.calls g m at_ c _ hHeld.2.1.out HC.out).mono ?_);rintro e w3 ⟨rfl,hb3⟩;refine ⟨_,rfl,?_⟩;refine hK.out _ _ ⟨⟨below_step hHeld.1.out hb3⟩,⟨MV_below hHeld.2.1.out hb3⟩,(pw_cell_below hb3 hHeld.2.2.1),(pw_cell_below hb3 hHeld.2.2.2.1),(pw_cell_below hb3 hHeld.2.2.2.2.1),(pw_cell_below hb3 hHeld.2.2.2.2.2)⟩ (fun hHeld=>?_);clear hK K;refine nS 22 ?_;refine pS 7 23 #[true,true,true,true,true,true,true,true,false,false,false] ?_;refine tS 8 24 #[true,true,true,true,true,true,true,true,true,false,false] rfl rfl (by kernel_rfl) hHeld zz5 ?_;refine pS 9 25 #[true,true,true,true,true,true,true,true,true,true,false] ?_;refine pS 10 2 #[true,true,true,true,true,true,true,true,true,true,true] ?_;refine done_ (by kernel_rfl) ?_;go_wp2;go_ret;exact ⟨by rw [←HR.out];rfl,hHeld.1.out⟩
def thing_first.f (m:Mm) (at_:Int):Option Int:=(thing_class.f m at_).bind fun c=>some (if c<0 then at_+1 else at_)
theorem thing_class_lt {m:Mm} {at_ c:Int} (hc:thing_class.f m at_=some c):1≤at_∧at_≤m.words.length∧m.words.length≤281474976710656:=by
 unfold thing_class.f at hc
 split at hc
 case isTrue hb=>exact hb
 case isFalse=>simp at hc
set_option maxHeartbeats 4000000 in
set_option maxRecDepth 100000 in
theorem thing_first.calls (g:Nat) (m:Mm) (at_ r:Int) (w:World) (hm:MV w g m) (h:thing_first.f m at_=some r):
  Calls Try.prog 72 #[thV g at_] w fun e w'=>e= .returned (.int .i64 r)∧Below w.heap.size w w':=by
 unfold thing_first.f at h;obtain ⟨c,hc,h⟩:=Option.bind_eq_some_iff.mp h;have hl:=thing_class_lt hc;have HR:=aK (Option.some.inj h);have HC:=aK hc;have HM:=aK hm;obtain ⟨j,hj⟩: ∃j,j=at_+1:=⟨_,rfl⟩;have q:IntKind.i64.wrap (at_+1)=j:=by rw [hj];exact IntWalk.i64_in _ ⟨by omega,by omega⟩
 rw [←hj] at HR;clear hc hm h hl hj;by_cases c1:c<0
 ·rw [if_pos c1] at HR
  have d1:decide (c<0)=true:=decide_eq_true c1
  clear c1;unfold thV;go_enter Try.func72,Try.ntmps72
  go_wp2_with fail
  go_at_call 85;refine (thing_class.calls g m at_ c _ (MV_below HM.out (below_alloc (Below.refl _ _) _)) HC.out).mono ?_;rintro e w1 ⟨rfl,hb⟩;have HB:=aK (below_step (below_alloc (Below.refl _ _) _) hb:Below w.heap.size w w1);have hbx:=box_new hb;have b1:=(blk_cell hbx 1).trans rfl;clear hbx hb;go_wp2;go_ret;exact ⟨by rw [←HR.out];rfl,HB.out⟩
 ·rw [if_neg c1] at HR
  have d1:decide (c<0)=false:=decide_eq_false c1
  clear c1;unfold thV;go_enter Try.func72,Try.ntmps72
  go_wp2_with fail
  go_at_call 85;refine (thing_class.calls g m at_ c _ (MV_below HM.out (below_alloc (Below.refl _ _) _)) HC.out).mono ?_;rintro e w1 ⟨rfl,hb⟩;have HB:=aK (below_step (below_alloc (Below.refl _ _) _) hb:Below w.heap.size w w1);have hbx:=box_new hb;have b1:=(blk_cell hbx 1).trans rfl;clear hbx hb;go_wp2;go_ret;exact ⟨by rw [←HR.out];rfl,HB.out⟩
def thing_leads.f (m:Mm) (at_ k:Int):Option Bool:=(thing_class.f m at_).bind fun c=>
  if c= -1 then some false else if c= -2 then some true
  else if 0≤c∧c<m.fields.length∧0≤k∧k<(rdL m.fields c).length then some (rd (rdL m.fields c) k !=1) else none
set_option maxHeartbeats 4000000 in
set_option maxRecDepth 100000 in
theorem thing_leads.calls (g:Nat) (m:Mm) (at_ k:Int) (r:Bool) (w:World) (hm:MV w g m) (h:thing_leads.f m at_ k=some r):
  Calls Try.prog 73 #[thV g at_,.int .i64 k] w fun e w'=>e= .returned (.bool r)∧Below w.heap.size w w':=by
 unfold thing_leads.f at h;obtain ⟨c,hc,h⟩:=Option.bind_eq_some_iff.mp h;have HC:=aK hc;have HM:=aK hm;clear hc hm;by_cases c1:c= -1
 ·rw [if_pos c1] at h
  have HR:=aK (Option.some.inj h);have d1:(c== -1)=true:=beq_iff_eq.mpr c1
  clear c1 h;unfold thV;go_enter Try.func73,Try.ntmps73
  go_wp2_with fail
  go_at_call 85;refine (thing_class.calls g m at_ c _ (MV_below HM.out (below_alloc (Below.refl _ _) _)) HC.out).mono ?_;rintro e w1 ⟨rfl,hb⟩;have HB:=aK (below_step (below_alloc (Below.refl _ _) _) hb:Below w.heap.size w w1);clear hb;go_wp2;go_ret;exact ⟨by rw [←HR.out];rfl,HB.out⟩
 rw [if_neg c1] at h;have d1:(c== -1)=false:=beq_eq_false_iff_ne.mpr c1
 by_cases c2:c= -2
 ·rw [if_pos c2] at h
  have HR:=aK (Option.some.inj h);have d2:(c== -2)=true:=beq_iff_eq.mpr c2
  clear c1 c2 h;unfold thV;go_enter Try.func73,Try.ntmps73
  go_wp2_with fail
  go_at_call 85;refine (thing_class.calls g m at_ c _ (MV_below HM.out (below_alloc (Below.refl _ _) _)) HC.out).mono ?_;rintro e w1 ⟨rfl,hb⟩;have HB:=aK (below_step (below_alloc (Below.refl _ _) _) hb:Below w.heap.size w w1);clear hb;go_wp2;go_ret;exact ⟨by rw [←HR.out];rfl,HB.out⟩
 rw [if_neg c2] at h;have d2:(c== -2)=false:=beq_eq_false_iff_ne.mpr c2
 split at h
 case isFalse=>simp at h
 case isTrue h2=>
 obtain ⟨c3,c4,c5,c6⟩:=h2;have HR:=aK (Option.some.inj h);clear h c1 c2;unfold thV;go_enter Try.func73,Try.ntmps73
 go_wp2_with fail
 go_at_call 85;refine (thing_class.calls g m at_ c _ (MV_below HM.out (below_alloc (Below.refl _ _) _)) HC.out).mono ?_;rintro e w1 ⟨rfl,hb⟩;have HB:=aK (below_step (below_alloc (Below.refl _ _) _) hb:Below w.heap.size w w1);have hbx:=box_new hb;have HM1:=aK (MV_below HM.out HB.out);obtain ⟨AW,cW,AC,cC,AF,cF,AB,cB,h0,_,_,hF,_,_⟩:=HM1.out;have p1:=eq_true c3;have p2:=eq_true c4;obtain ⟨ad,Af,cf,e0,hx,_,hK⟩:=at_rows hF c (by omega) (by omega)
 cases e0
 have p3:=eq_true c5;have p4:=eq_true c6;obtain ⟨ad2,e0,hy⟩:=Kd.at_int hK k (by omega) (by omega)
 cases e0
 have b0:=(blk_cell hbx 0).trans rfl;have b1:=(blk_cell hbx 1).trans rfl;have g5:=(blk_cell h0 5).trans rfl;clear hF hK hbx h0 hb c3 c4 c5 c6;go_wp2;refine sT 14 (S:=fun w'=>Aside0 (Below w.heap.size w w')∧Aside0 (MV w' g (m))∧w'.cell? (⟨w.heap.size,0,none⟩)=some (.pointer (some ⟨g,0,none⟩))∧w'.cell? (⟨w.heap.size,1,none⟩)=some (.int .i64 at_)∧w'.cell? (⟨g,5,none⟩)=some (.slice (some ad) m.fields.length cF)∧w'.cell? (ad.add c.toNat)=some (.slice (some ad2) (rdL m.fields c).length cf)∧w'.cell? (ad2.add k.toNat)=some (.int .i64 (rd (rdL m.fields c) k))) (ds:=[]) ⟨⟨below_drew1 HB.out⟩,⟨MV_below HM1.out (below_drew1 (Below.refl _ _))⟩,(by go_simp),(by go_simp),(by go_simp),(by go_simp),(by go_simp)⟩ (fun hHeld=>?_);refine pS 0 11 (lA 14 1) ?_;refine pS 9 20 (lA 14 513) ?_;refine tS 1 12 (lA 14 515) rfl rfl (by kernel_rfl) hHeld (by rintro w' ⟨s0,s1,s2,s3,s4,s5,s6⟩;go_simp;with_reducible rfl) ?_;refine pS 2 13 (lA 14 519) ?_;refine pS 3 14 (lA 14 527) ?_;refine tS 4 15 (lA 14 543) rfl rfl (by kernel_rfl) hHeld (by rintro w' ⟨s0,s1,s2,s3,s4,s5,s6⟩;go_simp;with_reducible rfl) ?_;refine tS 5 16 (lA 14 575) rfl rfl (by kernel_rfl) hHeld (by rintro w' ⟨s0,s1,s2,s3,s4,s5,s6⟩;go_simp;with_reducible rfl) ?_;refine oS 6 17 (lA 14 639) rfl rfl (fun K hK=>?_);refine gO Try.func85 #[thV g at_] ?_;(with_reducible refine (thing_class.calls g m at_ c _ hHeld.2.1.out HC.out).mono ?_);rintro e w3 ⟨rfl,hb3⟩;refine ⟨_,rfl,?_⟩;refine hK.out _ _ ⟨⟨below_step hHeld.1.out hb3⟩,⟨MV_below hHeld.2.1.out hb3⟩,(pw_cell_below hb3 hHeld.2.2.1),(pw_cell_below hb3 hHeld.2.2.2.1),(pw_cell_below hb3 hHeld.2.2.2.2.1),(pw_cell_below hb3 hHeld.2.2.2.2.2.1),(pw_cell_below hb3 hHeld.2.2.2.2.2.2)⟩ (fun hHeld=>?_);clear hK K;refine nS 17 ?_;refine pS 7 18 (lA 14 767) ?_;refine tS 8 19 (lA 14 1023) rfl rfl (by kernel_rfl) hHeld (by rintro w' ⟨s0,s1,s2,s3,s4,s5,s6⟩;go_simp;with_reducible rfl) ?_;refine pS 10 21 (lA 14 2047) ?_;refine tS 11 22 (lA 14 4095) rfl rfl (by kernel_rfl) hHeld (by rintro w' ⟨s0,s1,s2,s3,s4,s5,s6⟩;go_simp;with_reducible rfl) ?_;refine pS 12 23 (lA 14 8191) ?_;refine pS 13 4 (lA 14 16383) ?_;refine done_ (by kernel_rfl) ?_;go_wp2;go_ret;exact ⟨by rw [←HR.out];rfl,hHeld.1.out⟩
def cmp_isNaN_int.f (a0:Int):Option (Bool):=some (a0 !=a0)
set_option maxHeartbeats 8000000 in
set_option maxRecDepth 100000 in
theorem cmp_isNaN_int.calls (a0:Int) (r:Bool) (w:World) (h:cmp_isNaN_int.f a0=some r):
  Calls Try.prog 113 #[.int .i64 a0] w fun e w'=>e= .returned (.bool r)∧Drawn0 w w':=by
 have H:(some (a0 !=a0))=some r:=h
 clear h;obtain rfl:=Option.some.inj H;go_enter Try.func113,Try.ntmps113;go_wp2;go_ret;exact ⟨zz7,zz13⟩
def cmp_Less_int.f (a0:Int) (a1:Int):Option (Bool):=(cmp_isNaN_int.f a0).bind fun t339=>(if t339=true then ((cmp_isNaN_int.f a1).bind fun t340=>(if t340=true then (some (decide (a0<a1))) else (some true))) else (some (decide (a0<a1))))
set_option maxHeartbeats 8000000 in
set_option maxRecDepth 100000 in
theorem cmp_Less_int.calls (a0:Int) (a1:Int) (r:Bool) (w:World) (h:cmp_Less_int.f a0 a1=some r):
  Calls Try.prog 107 #[.int .i64 a0,.int .i64 a1] w fun e w'=>e= .returned (.bool r)∧Drawn0 w w':=by
 have H:((cmp_isNaN_int.f a0).bind fun t339=>(if t339=true then ((cmp_isNaN_int.f a1).bind fun t340=>(if t340=true then (some (decide (a0<a1))) else (some true))) else (some (decide (a0<a1)))))=some r:=h
 clear h;replace H:=Option.bind_eq_some_iff.mp H;obtain ⟨t339,A30,H⟩:=H;(try dsimp only at H);have A3:=aK A30;clear A30;by_cases c4:t339=true
 ·subst c4
  rw [if_pos rfl] at H;replace H:=Option.bind_eq_some_iff.mp H;obtain ⟨t340,A50,H⟩:=H;(try dsimp only at H);have A5:=aK A50;clear A50;by_cases c6:t340=true
  ·subst c6
   rw [if_pos rfl] at H;obtain rfl:=Option.some.inj H;go_enter Try.func107,Try.ntmps107
   go_wp2_with (first|((with_reducible refine gate_callee (f:=113) rfl ?_);refine goesL_ (some 6) rfl rfl Try.func113 (by kernel_rfl) rfl #[.int .i64 a0] rfl zz2 ?_;(with_reducible refine (cmp_isNaN_int.calls a0 true _ A3.out).mono ?_);rintro e w' ⟨rfl,⟨nd,rfl⟩⟩;refine ⟨_,rfl,?_⟩)|(go_at_call 113;(with_reducible refine (cmp_isNaN_int.calls a1 true _ A5.out).mono ?_);rintro e w' ⟨rfl,⟨nd,rfl⟩⟩))
   go_ret;exact ⟨zz7,zz13⟩
  ·replace c6 := Bool.eq_false_iff.mpr c6
   subst c6;rw [if_neg (show¬(false=true) by decide)] at H;obtain rfl:=Option.some.inj H;go_enter Try.func107,Try.ntmps107
   go_wp2_with (first|((with_reducible refine gate_callee (f:=113) rfl ?_);refine goesL_ (some 6) rfl rfl Try.func113 (by kernel_rfl) rfl #[.int .i64 a0] rfl zz2 ?_;(with_reducible refine (cmp_isNaN_int.calls a0 true _ A3.out).mono ?_);rintro e w' ⟨rfl,⟨nd,rfl⟩⟩;refine ⟨_,rfl,?_⟩)|(go_at_call 113;(with_reducible refine (cmp_isNaN_int.calls a1 false _ A5.out).mono ?_);rintro e w' ⟨rfl,⟨nd,rfl⟩⟩))
   go_ret;exact ⟨zz7,zz13⟩
 ·replace c4 := Bool.eq_false_iff.mpr c4
  subst c4;rw [if_neg (show¬(false=true) by decide)] at H;obtain rfl:=Option.some.inj H;go_enter Try.func107,Try.ntmps107
  go_wp2_with (first|((with_reducible refine gate_callee (f:=113) rfl ?_);refine goesL_ (some 6) rfl rfl Try.func113 (by kernel_rfl) rfl #[.int .i64 a0] rfl zz2 ?_;(with_reducible refine (cmp_isNaN_int.calls a0 false _ A3.out).mono ?_);rintro e w' ⟨rfl,⟨nd,rfl⟩⟩;refine ⟨_,rfl,?_⟩))
  go_ret;exact ⟨zz7,zz13⟩
def slices_isNaN_int.f (a0:Int):Option (Bool):=some (a0 !=a0)
set_option maxHeartbeats 8000000 in
set_option maxRecDepth 100000 in
theorem slices_isNaN_int.calls (a0:Int) (r:Bool) (w:World) (h:slices_isNaN_int.f a0=some r):
  Calls Try.prog 108 #[.int .i64 a0] w fun e w'=>e= .returned (.bool r)∧Drawn0 w w':=by
 have H:(some (a0 !=a0))=some r:=h
 clear h;obtain rfl:=Option.some.inj H;go_enter Try.func108,Try.ntmps108;go_wp2;go_ret;exact ⟨zz7,zz13⟩
def spec_l21Part.l0:Nat→List (S112)→List Int→Int→Int→List Int→Option (List Int×Bool)
  |0,_,_,_,_,_=>none
  |k+1,x0,x1,x2,x3,x10=>if x2<x3 then ((spec_l21Size.f k x0 x1 x2 x3).bind fun t234=>(if t234=0 then (some (x10,false)) else (if x10.length<17592186044416 then (spec_l21Part.l0 k x0 x1 (wrap64 (x2+t234)) x3 (x10++[x2])) else (none)))) else (some (x10,true))
def spec_l21Part.f (k:Nat) (l0:List (S112)) (l1:List Int) (a2:Int) (a3:Int):Option (List Int×Bool):=spec_l21Part.l0 k l0 l1 a2 a3 (([]:List Int))
set_option maxHeartbeats 8000000 in
set_option maxRecDepth 100000 in
theorem spec_l21Part.calls (k:Nat) (A0:Option Addr) (c0:Nat) (l0:List (S112)) (A1:Option Addr) (c1:Nat) (l1:List Int) (a2:Int) (a3:Int) (r1:List Int) (r2:Bool) (w:World) (hr0:Kd.C k112 w A0 l0.length l0) (hc0:l0.length≤c0) (hr1:Kd.C (Kd.int .i64) w A1 l1.length l1) (hc1:l1.length≤c1) (h:spec_l21Part.f k l0 l1 a2 a3=some (r1,r2)):
  Calls Try.prog 82 #[.slice A0 l0.length c0,.slice A1 l1.length c1,.int .i64 a2,.int .i64 a3] w fun e w'=> ∃v0_:Value,e= .returned (.tuple #[v0_,.bool r2])∧Kd.R (Kd.int .i64) 3 w' w.heap.size (fun _=>True) v0_ r1∧Below w.heap.size w w':=by
 have HR0:=aK hr0;have HC0:=aK hc0;clear hr0 hc0;have HR1:=aK hr1;have HC1:=aK hc1;clear hr1 hc1;have HB:=aK (Below.refl w.heap.size w);have H:(spec_l21Part.l0 k l0 l1 a2 a3 (([]:List Int)))=some (r1,r2):=h
 clear h;obtain ⟨y231,hy231⟩: ∃y_:List Int,y_=(([]:List Int)):=⟨_,rfl⟩;replace H:(spec_l21Part.l0 k l0 l1 a2 a3 y231)=some (r1,r2):=by first|(rw [hy231];with_reducible exact H)|(have H2_:=(Option.bind_some _ _).symm.trans H;rw [hy231];with_reducible exact H2_)|(have H2_:=(Option.bind_some _ _).symm.trans H;with_reducible exact H2_)|with_reducible exact H|(rw [hy231];exact H)|exact H
 have Ny231:=aK hy231;clear hy231;have H':=aK H;clear H;go_enter Try.func82,Try.ntmps82
 go_wp2_with (first|((with_reducible refine gate_dst (N:=12) rfl ?_);refine Kd.R_lit (Kd.int .i64) _ 3 ?hg (N:=12) ?hd (xs:=([]:List Int)) (inner:=[]) (ok:=fun _=>True) (okp:=fun _=>True) ?hr ?hp (fun _ hk=>hk) trivial (Below.refl _ _) (Nat.le_refl _) (by simp) ?_;(case hd=>rfl);(case hg=>rfl);(case hr=>first|(go_simp;done)|(go_simp;rfl));(case hp=>exact (Reps.none _ _));intro v232 w5 ho6 hb hg_ hnew_;clear hg_ hnew_;(first|rw [←Ny231.out] at ho6|(simp only [Int.reduceToNat] at ho6;rw [←Ny231.out] at ho6));have HO233:=aK (Kd.R_lower ho6 (below_size zz1));replace HB:=aK (below_step zz1 hb);clear hb ho6))
 go_loopg [2,10] k (fun kq v2 v10 w'=> ∃(x2_1:Int) (x10_1:List Int),v2= .int .i64 x2_1∧Aside0 (spec_l21Part.l0 kq l0 l1 x2_1 a3 x10_1=some (r1,r2))∧Aside0 (kq≤k)∧Aside0 (Kd.R (Kd.int .i64) 3 w' w.heap.size (fun _=>True) v10 x10_1)∧Aside0 (Below w.heap.size w w'))
 case atStart=>exact ⟨(a2),(y231),zz7,H',⟨Nat.le_refl _⟩,⟨by (with_reducible repeat (first|apply Kd.R_alloc|apply Kd.R_drewN|apply Kd.R_drew));exact HO233.out⟩,⟨by repeat (first|(with_reducible first|exact HB.out|apply below_alloc|apply pw_below_drewN|apply below_drew1)|exact HB.out)⟩⟩
 case round =>
  clear H';(try clear c1);(try clear p2);obtain ⟨x2_1,x10_1,rfl,HA,HK1,HO_10,HB⟩:=hrel
  cases gk with
  |zero=>exact absurd HA.out (by simp [spec_l21Part.l0])
  | succ k1 =>
   have H:=HA.out;clear HA;simp only [spec_l21Part.l0] at H;by_cases c7:x2_1<a3
   ·rw [if_pos c7] at H
    have c7b0:decide (x2_1<a3)=true:=decide_eq_true c7
    clear c7;replace H:=Option.bind_eq_some_iff.mp H;obtain ⟨t234,A80,H⟩:=H;(try dsimp only at H);have A8:=aK A80;clear A80;by_cases c9:t234=0
    ·rw [if_pos c9] at H
     have c9b0:(t234==0)=true:=beq_iff_eq.mpr c9
     have c9b1:(t234 !=0)=false:=bne_eq_false_iff_eq.mpr c9
     clear c9;simp only [Option.some.injEq,Prod.mk.injEq] at H;obtain ⟨rfl,rfl⟩:=H
     go_wp2_with (first|((with_reducible refine gate_callee (f:=80) rfl ?_);refine goesL_ (some 20) rfl rfl Try.func80 (by kernel_rfl) rfl #[.slice A0 l0.length c0,.slice A1 l1.length c1,.int .i64 x2_1,.int .i64 a3] rfl zz2 ?_;(with_reducible refine (spec_l21Size.calls k1 _ _ l0 _ _ l1 x2_1 a3 t234 _ ?side1 ?side2 ?side3 ?side4 A8.out).mono ?_);(case side1=>exact zz4);(case side2=>exact HC0.out);(case side3=>exact (by repeat (first|exact (Kd.C_below HR1.out HB.out)|(with_reducible refine Kd.C_alloc ?_ _)|(with_reducible refine Kd.C_drewN ?_ _)|(with_reducible refine Kd.C_drew ?_))));(case side4=>exact HC1.out);rintro e w10 ⟨rfl,hb⟩;refine ⟨_,rfl,?_⟩;replace HO_10:=aK (Kd.R_below (by (with_reducible repeat (first|apply Kd.R_alloc|apply Kd.R_drewN|apply Kd.R_drew));exact HO_10.out) hb);replace HB:=aK (below_step zz1 hb);(try clear hb);(try clear hb2);(try clear hk);(try clear hi)))
     go_ret2
     exact ⟨_,by first|rfl|(simp [errW_none,errW_some]<;>rfl)|(simp [*,errW_none,errW_some]<;>rfl),by (with_reducible repeat (first|apply Kd.R_alloc|apply Kd.R_drewN|apply Kd.R_drew));exact HO_10.out,by repeat (first|(with_reducible first|exact HB.out|apply below_alloc|apply pw_below_drewN|apply below_drew1)|exact HB.out)⟩
    ·rw [if_neg c9] at H
     have c9b0:(t234==0)=false:=beq_eq_false_iff_ne.mpr c9
     have c9b1:(t234 !=0)=true:=bne_iff_ne.mpr c9
     by_cases c11:x10_1.length<17592186044416
     ·rw [if_pos c11] at H
      have LMc11:=aK c11;clear c11;obtain ⟨y235,hy235⟩: ∃y_:List Int,y_=(x10_1++[x2_1]):=⟨_,rfl⟩;replace H:(spec_l21Part.l0 k1 l0 l1 (wrap64 (x2_1+t234)) a3 y235)=some (r1,r2):=by first|(rw [hy235];with_reducible exact H)|(have H2_:=(Option.bind_some _ _).symm.trans H;rw [hy235];with_reducible exact H2_)|(have H2_:=(Option.bind_some _ _).symm.trans H;with_reducible exact H2_)|with_reducible exact H|(rw [hy235];exact H)|exact H
      have Ny235:=aK hy235;clear hy235;have H':=aK H;clear H
      go_wp2_with (first|((with_reducible refine gate_callee (f:=80) rfl ?_);refine goesL_ (some 20) rfl rfl Try.func80 (by kernel_rfl) rfl #[.slice A0 l0.length c0,.slice A1 l1.length c1,.int .i64 x2_1,.int .i64 a3] rfl zz2 ?_;(with_reducible refine (spec_l21Size.calls k1 _ _ l0 _ _ l1 x2_1 a3 t234 _ ?side1 ?side2 ?side3 ?side4 A8.out).mono ?_);(case side1=>exact zz4);(case side2=>exact HC0.out);(case side3=>exact (by repeat (first|exact (Kd.C_below HR1.out HB.out)|(with_reducible refine Kd.C_alloc ?_ _)|(with_reducible refine Kd.C_drewN ?_ _)|(with_reducible refine Kd.C_drew ?_))));(case side4=>exact HC1.out);rintro e w12 ⟨rfl,hb⟩;refine ⟨_,rfl,?_⟩;replace HO_10:=aK (Kd.R_below (by (with_reducible repeat (first|apply Kd.R_alloc|apply Kd.R_drewN|apply Kd.R_drew));exact HO_10.out) hb);replace HB:=aK (below_step zz1 hb);(try clear hb);(try clear hb2);(try clear hk);(try clear hi))|((with_reducible refine gate_builtin (b:= .append) (xs:= #[.tmp 24,.tmp 26]) rfl ?_);at_builtin;refine Kd.R_append (Kd.int .i64) (w0:=w) w.heap.size rfl (.tmp 24) (.tmp 26) 24 3 (.int .i64 0) 8 rfl Try.underlying24 info3 rfl (by decide) (by omega) u10 x10_1 x2_1 [.int .i64 x2_1] (fun _=>True) (fun _=>False) rfl rfl ?aP (fun _ hk=>hk.elim) ?aF ?aO ?aB ?aS ?aL ?_;(case aP=>exact rfl);(case aB=>exact zz1);(case aF=>exact (fun _ _=>trivial));(case aO=>exact (by (with_reducible repeat (first|apply Kd.R_alloc|apply Kd.R_drewN|apply Kd.R_drew));exact HO_10.out));(case aS=>exact (below_size zz1));(case aL=>have:=LMc11.out;omega);intro v236 w13 ho hb hg hat;rw [←Ny235.out] at ho;have n0_:=aK (hb);have n1_:=aK (ho);clear HB;clear HO_10;have HB:=n0_;have HO237:=n1_;clear n0_ n1_;clear ho hb hg hat))
      go_roundg k1
      case measure=>have:=HK1.out;omega
      case rel=>exact ⟨(wrap64 (x2_1+t234)),(y235),zz7,H',⟨by have:=HK1.out;omega⟩,⟨by (with_reducible repeat (first|apply Kd.R_alloc|apply Kd.R_drewN|apply Kd.R_drew));exact HO237.out⟩,⟨by repeat (first|(with_reducible first|exact HB.out|apply below_alloc|apply pw_below_drewN|apply below_drew1)|exact HB.out)⟩⟩
     ·rw [if_neg c11] at H
      exact absurd H (by simp)
   ·rw [if_neg c7] at H
    have c7b0:decide (x2_1<a3)=false:=decide_eq_false c7
    clear c7;simp only [Option.some.injEq,Prod.mk.injEq] at H;obtain ⟨rfl,rfl⟩:=H;go_wp2
    go_ret2
    exact ⟨_,by first|rfl|(simp [errW_none,errW_some]<;>rfl)|(simp [*,errW_none,errW_some]<;>rfl),by (with_reducible repeat (first|apply Kd.R_alloc|apply Kd.R_drewN|apply Kd.R_drew));exact HO_10.out,by repeat (first|(with_reducible first|exact HB.out|apply below_alloc|apply pw_below_drewN|apply below_drew1)|exact HB.out)⟩
def slices_BinarySearch_int_int.l0:Nat→List Int→Int→Int→Int→Int→Option (Int×Bool)
  |0,_,_,_,_,_=>none
  |k+1,x0,x1,x6,x7,x8=>if x7<x8 then (if 0≤(wrap64 ((IntKind.u64.wrap (wrap64 (x7+x8)))/2)) then (if (wrap64 ((IntKind.u64.wrap (wrap64 (x7+x8)))/2))<(x0.length:Int) then ((cmp_Less_int.f (rd x0 (wrap64 ((IntKind.u64.wrap (wrap64 (x7+x8)))/2))) x1).bind fun t342=>(if t342=true then (slices_BinarySearch_int_int.l0 k x0 x1 x6 (wrap64 ((wrap64 ((IntKind.u64.wrap (wrap64 (x7+x8)))/2))+1)) x8) else (slices_BinarySearch_int_int.l0 k x0 x1 x6 x7 (wrap64 ((IntKind.u64.wrap (wrap64 (x7+x8)))/2))))) else (none)) else (none)) else (if x7<x6 then (if 0≤x7 then (if x7<(x0.length:Int) then (if (rd x0 x7)=x1 then (some (x7,true)) else ((slices_isNaN_int.f (rd x0 x7)).bind fun t345=>(if t345=true then ((slices_isNaN_int.f x1).bind fun t346=>(some (x7,t346))) else (some (x7,false))))) else (none)) else (none)) else (some (x7,false)))
def slices_BinarySearch_int_int.f (k:Nat) (l0:List Int) (a1:Int):Option (Int×Bool):=slices_BinarySearch_int_int.l0 k l0 a1 (l0.length:Int) 0 (l0.length:Int)
theorem slices_BinarySearch_int_int.mono_l: ∀k,(∀y0 y1 y2 y3 y4,LeO (slices_BinarySearch_int_int.l0 k y0 y1 y2 y3 y4) (slices_BinarySearch_int_int.l0 (k+1) y0 y1 y2 y3 y4))
 |0=>fun _ _ _ _ _ r h=>by simp [slices_BinarySearch_int_int.l0] at h
 | k + 1 => by
  have ih0:=slices_BinarySearch_int_int.mono_l k
  ·intro y0 y1 y2 y3 y4
   unfold slices_BinarySearch_int_int.l0;repeat' first
   |(with_reducible exact ih0 _ _ _ _ _)
   |(with_reducible exact LeO.refl _)
   |(with_reducible exact LeO.none _)
   |(with_reducible refine LeO.ite ?_ ?_)
   |(with_reducible refine LeO.bind ?_ (fun _=>?_))
   |exact ih0 _ _ _ _ _
   |exact LeO.none _
   |refine LeO.ite ?_ ?_
   |refine LeO.bind ?_ (fun _=>?_)
theorem slices_BinarySearch_int_int.mono: ∀a0 a1 k,LeO (slices_BinarySearch_int_int.f k a0 a1) (slices_BinarySearch_int_int.f (k+1) a0 a1):=by
  intro a0 a1 k;have ih0:=slices_BinarySearch_int_int.mono_l k;unfold slices_BinarySearch_int_int.f
  repeat' first
      |(with_reducible exact ih0 _ _ _ _ _)
      |(with_reducible exact LeO.refl _)
      |(with_reducible exact LeO.none _)
      |(with_reducible refine LeO.ite ?_ ?_)
      |(with_reducible refine LeO.bind ?_ (fun _=>?_))
      |exact ih0 _ _ _ _ _
      |exact LeO.none _
      |refine LeO.ite ?_ ?_
      |refine LeO.bind ?_ (fun _=>?_)
set_option maxHeartbeats 8000000 in
set_option maxRecDepth 100000 in
theorem slices_BinarySearch_int_int.calls (k : Nat) (A0 : Option Addr) (c0 : Nat) (l0 : List Int) (a1 : Int) (r1 : Int) (r2 : Bool) (w : World) (hr0 : Kd.C (Kd.int .i64) w A0 l0.length l0) (hc0 : l0.length ≤ c0) (h : slices_BinarySearch_int_int.f k l0 a1 = some (r1, r2)) :
  Calls Try.prog 90 #[.slice A0 l0.length c0,.int .i64 a1] w fun e w'=>e= .returned (.tuple #[.int .i64 r1,.bool r2])∧Drawn0 w w':=by
 have HR0:=aK hr0;have HC0:=aK hc0;clear hr0 hc0;have H:(slices_BinarySearch_int_int.l0 k l0 a1 (l0.length:Int) 0 (l0.length:Int))=some (r1,r2):=h
 clear h;have H':=aK H;clear H;go_enter Try.func90,Try.ntmps90;go_wp2
 go_loopg [7,8] k (fun kq v7 v8 w'=> ∃(x7_1:Int) (x8_1:Int),v7= .int .i64 x7_1∧v8= .int .i64 x8_1∧Aside0 (slices_BinarySearch_int_int.l0 kq l0 a1 (l0.length:Int) x7_1 x8_1=some (r1,r2))∧Aside0 (kq≤k)∧Drawn0 w w')
 case atStart=>exact ⟨(0),((l0.length:Int)),zz7,zz7,H',⟨Nat.le_refl _⟩,by repeat (first|exact Drawn0.refl _|apply Drawn0.step)⟩
 case round =>
  clear H';(try clear p2);obtain ⟨x7_1,x8_1,rfl,rfl,HA,HK1,⟨m1,rfl⟩⟩:=hrel
  cases gk with
  |zero=>exact absurd HA.out (by simp [slices_BinarySearch_int_int.l0])
  | succ k1 =>
   have H:=HA.out;clear HA;simp only [slices_BinarySearch_int_int.l0] at H;by_cases c3:x7_1<x8_1
   ·rw [if_pos c3] at H
    have c3b0:decide (x7_1<x8_1)=true:=decide_eq_true c3
    clear c3;obtain ⟨ji4,hji4⟩: ∃j_:Int,(wrap64 ((IntKind.u64.wrap (wrap64 (x7_1+x8_1)))/2))=j_:=⟨_,rfl⟩;replace H:(if 0≤(ji4) then (if (ji4)<(l0.length:Int) then ((cmp_Less_int.f (rd l0 (ji4)) a1).bind fun t342=>(if t342=true then (slices_BinarySearch_int_int.l0 k1 l0 a1 (l0.length:Int) (wrap64 ((ji4)+1)) x8_1) else (slices_BinarySearch_int_int.l0 k1 l0 a1 (l0.length:Int) x7_1 ji4))) else (none)) else (none))=some (r1,r2):=by first|(rw [hji4] at H;exact H)|(simp only [hji4] at H ⊢;exact H)
    have hji4w:(IntKind.i64.wrap ((IntKind.u64.wrap (wrap64 (x7_1+x8_1)))/2))=ji4:=(i64_w _).trans hji4
    by_cases c5:0≤(ji4)
    ·rw [if_pos c5] at H
     have c5b0:decide (0≤(ji4))=true:=decide_eq_true c5
     clear c5;by_cases c6:(ji4)<(l0.length:Int)
     ·rw [if_pos c6] at H
      have c6b0:decide ((ji4)<(l0.length:Int))=true:=decide_eq_true c6
      clear c6;replace H:=Option.bind_eq_some_iff.mp H;obtain ⟨t342,A70,H⟩:=H;(try dsimp only at H);have A7:=aK A70;clear A70;by_cases c8:t342=true
      ·subst c8
       rw [if_pos rfl] at H;have H':=aK H;clear H;have p341:0≤((ji4):Int):=of_decide_eq_true zz3
       have q341:(ji4)<(l0.length:Int):=of_decide_eq_true zz3
       obtain ⟨ad341,e341,hx341_0⟩:=Kd.at_int HR0.out (ji4) p341 q341
       cases e341
       replace p341:=eq_true p341;replace q341:=eq_true q341
       go_wp2_with (first|((with_reducible refine gate_callee (f:=107) rfl ?_);refine goesL_ (some 27) rfl rfl Try.func107 (by kernel_rfl) rfl #[.int .i64 (rd l0 (ji4)),.int .i64 a1] rfl (by (try simp only [List.map_toArray,List.map_cons,List.map_nil]);first|done|(simp only [hji4];rfl)|rfl|(simp only [List.length_drop,List.length_take];rfl)) ?_;(with_reducible refine (cmp_Less_int.calls (rd l0 (ji4)) a1 true _ A7.out).mono ?_);rintro e w' ⟨rfl,⟨nd,rfl⟩⟩;refine ⟨_,rfl,?_⟩))
       go_roundg k1
       case measure=>have:=HK1.out;omega
       case rel=>exact ⟨(wrap64 ((ji4)+1)),(x8_1),(by first|rfl|(simp;done)|(simp only [←hji4]<;>(first|rfl|simp))|(simp [*];done)),zz7,H',⟨by have:=HK1.out;omega⟩,by repeat (first|exact Drawn0.refl _|apply Drawn0.step)⟩
      ·replace c8 := Bool.eq_false_iff.mpr c8
       subst c8;rw [if_neg (show¬(false=true) by decide)] at H;have H':=aK H;clear H;have p341:0≤((ji4):Int):=of_decide_eq_true zz3
       have q341:(ji4)<(l0.length:Int):=of_decide_eq_true zz3
       obtain ⟨ad341,e341,hx341_0⟩:=Kd.at_int HR0.out (ji4) p341 q341
       cases e341
       replace p341:=eq_true p341;replace q341:=eq_true q341
       go_wp2_with (first|((with_reducible refine gate_callee (f:=107) rfl ?_);refine goesL_ (some 27) rfl rfl Try.func107 (by kernel_rfl) rfl #[.int .i64 (rd l0 (ji4)),.int .i64 a1] rfl (by (try simp only [List.map_toArray,List.map_cons,List.map_nil]);first|done|(simp only [hji4];rfl)|rfl|(simp only [List.length_drop,List.length_take];rfl)) ?_;(with_reducible refine (cmp_Less_int.calls (rd l0 (ji4)) a1 false _ A7.out).mono ?_);rintro e w' ⟨rfl,⟨nd,rfl⟩⟩;refine ⟨_,rfl,?_⟩))
       go_roundg k1
       case measure=>have:=HK1.out;omega
       case rel=>exact ⟨(x7_1),(ji4),zz7,(by first|rfl|(simp;done)|(simp only [←hji4]<;>(first|rfl|simp))|(simp [*];done)),H',⟨by have:=HK1.out;omega⟩,by repeat (first|exact Drawn0.refl _|apply Drawn0.step)⟩
     ·rw [if_neg c6] at H
      exact absurd H (by simp)
    ·rw [if_neg c5] at H
     exact absurd H (by simp)
   ·rw [if_neg c3] at H
    have c3b0:decide (x7_1<x8_1)=false:=decide_eq_false c3
    clear c3;by_cases c9:x7_1<(l0.length:Int)
    ·rw [if_pos c9] at H
     have c9b0:decide (x7_1<(l0.length:Int))=true:=decide_eq_true c9
     clear c9;by_cases c10:0≤x7_1
     ·rw [if_pos c10] at H
      have c10b0:decide (0≤x7_1)=true:=decide_eq_true c10
      clear c10;by_cases c11:x7_1<(l0.length:Int)
      ·rw [if_pos c11] at H
       have c11b0:decide (x7_1<(l0.length:Int))=true:=decide_eq_true c11
       clear c11;by_cases c12:(rd l0 x7_1)=a1
       ·rw [if_pos c12] at H
        have c12b0:((rd l0 x7_1)==a1)=true:=beq_iff_eq.mpr c12
        have c12b1:((rd l0 x7_1) !=a1)=false:=bne_eq_false_iff_eq.mpr c12
        clear c12;simp only [Option.some.injEq,Prod.mk.injEq] at H;obtain ⟨rfl,rfl⟩:=H;have p343:0≤(x7_1:Int):=of_decide_eq_true zz3
        have q343:x7_1<(l0.length:Int):=of_decide_eq_true zz3
        obtain ⟨ad343,e343,hx343_0⟩:=Kd.at_int HR0.out x7_1 p343 q343
        cases e343
        replace p343:=eq_true p343;replace q343:=eq_true q343;go_wp2
        go_ret2
        exact ⟨zz7,zz13⟩
       ·rw [if_neg c12] at H
        have c12b0:((rd l0 x7_1)==a1)=false:=beq_eq_false_iff_ne.mpr c12
        have c12b1:((rd l0 x7_1) !=a1)=true:=bne_iff_ne.mpr c12
        replace H:=Option.bind_eq_some_iff.mp H;obtain ⟨t345,A130,H⟩:=H;(try dsimp only at H);have A13:=aK A130;clear A130;by_cases c14:t345=true
        ·subst c14
         rw [if_pos rfl] at H;replace H:=Option.bind_eq_some_iff.mp H;obtain ⟨t346,A150,H⟩:=H;(try dsimp only at H);have A15:=aK A150;clear A150;simp only [Option.some.injEq,Prod.mk.injEq] at H;obtain ⟨rfl,rfl⟩:=H;have p343:0≤(x7_1:Int):=of_decide_eq_true zz3
         have q343:x7_1<(l0.length:Int):=of_decide_eq_true zz3
         obtain ⟨ad343,e343,hx343_0⟩:=Kd.at_int HR0.out x7_1 p343 q343
         cases e343
         replace p343:=eq_true p343;replace q343:=eq_true q343;have p344:0≤(x7_1:Int):=of_decide_eq_true zz3
         have q344:x7_1<(l0.length:Int):=of_decide_eq_true zz3
         obtain ⟨ad344,e344,hx344_0⟩:=Kd.at_int HR0.out x7_1 p344 q344;obtain rfl:ad343=ad344:=(by injection e344);replace p344:=eq_true p344;replace q344:=eq_true q344
         go_wp2_with (first|(go_at_call 108;(with_reducible refine (slices_isNaN_int.calls (rd l0 x7_1) true _ A13.out).mono ?_);rintro e w' ⟨rfl,⟨nd,rfl⟩⟩)|(go_at_call 108;(with_reducible refine (slices_isNaN_int.calls a1 t346 _ A15.out).mono ?_);rintro e w' ⟨rfl,⟨nd,rfl⟩⟩))
         go_ret2
         exact ⟨zz7,zz13⟩
        ·replace c14 := Bool.eq_false_iff.mpr c14
         subst c14;rw [if_neg (show¬(false=true) by decide)] at H;simp only [Option.some.injEq,Prod.mk.injEq] at H;obtain ⟨rfl,rfl⟩:=H;have p343:0≤(x7_1:Int):=of_decide_eq_true zz3
         have q343:x7_1<(l0.length:Int):=of_decide_eq_true zz3
         obtain ⟨ad343,e343,hx343_0⟩:=Kd.at_int HR0.out x7_1 p343 q343
         cases e343
         replace p343:=eq_true p343;replace q343:=eq_true q343;have p344:0≤(x7_1:Int):=of_decide_eq_true zz3
         have q344:x7_1<(l0.length:Int):=of_decide_eq_true zz3
         obtain ⟨ad344,e344,hx344_0⟩:=Kd.at_int HR0.out x7_1 p344 q344;obtain rfl:ad343=ad344:=(by injection e344);replace p344:=eq_true p344;replace q344:=eq_true q344
         go_wp2_with (first|(go_at_call 108;(with_reducible refine (slices_isNaN_int.calls (rd l0 x7_1) false _ A13.out).mono ?_);rintro e w' ⟨rfl,⟨nd,rfl⟩⟩))
         go_ret2
         exact ⟨zz7,zz13⟩
      ·rw [if_neg c11] at H
       exact absurd H (by simp)
     ·rw [if_neg c10] at H
      exact absurd H (by simp)
    ·rw [if_neg c9] at H
     have c9b0:decide (x7_1<(l0.length:Int))=false:=decide_eq_false c9
     clear c9;simp only [Option.some.injEq,Prod.mk.injEq] at H;obtain ⟨rfl,rfl⟩:=H;go_wp2
     go_ret2
     exact ⟨zz7,zz13⟩
end Go.Proofs.Ytnlieahdakafbaa.K
namespace Go.Proofs.Ytnlieahdakafbaa.Pure
open Go.RowKit Go.Proofs.Ytnlieahdakafbaa.K Go.Proofs.YtnlieahdakafbaaW.PrintWords Go.Proofs.YtnlieahdakafbaaW.PrintLast Go.Proofs.YtnlieahdakafbaaW.PrintMore
set_option linter.unusedVariables false
set_option linter.unusedSimpArgs false
def pw (ws:List Int) (F:List (List Int)) (e:Int):Nat→Int→List Int×Bool
  |0,_=>([],true)
  |n+1,i=>if i<e then (if mstep ws F e i=0 then ([],false) else (i::(pw ws F e n (i+mstep ws F e i)).1,(pw ws F e n (i+mstep ws F e i)).2)) else ([],true)
theorem pw_mwalk (ws:List Int) (F:List (List Int)) (e:Int): ∀(n:Nat) (i:Int) (acc:List Int) (q:Nat),(e - i).toNat≤n→n<q→mwalk ws F e q i acc=some ((pw ws F e n i).2,acc++(pw ws F e n i).1.map (· +1))
 |0,i,acc,q,h,hq=>by
  obtain ⟨q,rfl⟩: ∃m,q=m+1:=⟨q - 1,by omega⟩;rw [mwalk,if_neg (by omega),pw];simp
 | n + 1, i, acc, q, h, hq => by
  obtain ⟨q,rfl⟩: ∃m,q=m+1:=⟨q - 1,by omega⟩;rw [mwalk,pw];by_cases c:i<e
  ·rw [if_pos c, if_pos c]
   by_cases c2:mstep ws F e i=0
   ·rw [if_pos c2,if_pos c2];simp
   ·rw [if_neg c2, if_neg c2]
    have:=mwalk_lt ws F e i
    rw [pw_mwalk ws F e n _ _ q (by omega) (by omega)];simp
  ·rw [if_neg c,if_neg c];simp
theorem pw_len (ws:List Int) (F:List (List Int)) (e:Int): ∀(n:Nat) (i:Int),(pw ws F e n i).1.length≤n
 |0,i=>by simp [pw]
 | n + 1, i => by
  rw [pw]
  split
  ·split
   ·simp
   ·have := pw_len ws F e n (i + mstep ws F e i)
    simp only [List.length_cons];omega
  ·simp
theorem pw_mem (ws:List Int) (F:List (List Int)) (e:Int): ∀(n:Nat) (i:Int),∀x∈(pw ws F e n i).1,i≤x∧x<e∧0<mstep ws F e x∧mstep ws F e x≤e - x
 |0,i=>by simp [pw]
 | n + 1, i => by
  rw [pw];intro x hx
  split at hx
  case isTrue c=>
   split at hx
   case isTrue c2=>simp at hx
   case isFalse c2=>
    have hl:=mwalk_lt ws F e i;simp only [List.mem_cons] at hx;rcases hx with rfl|hx
    ·omega
    ·have := pw_mem ws F e n _ x hx
     omega
  case isFalse c=>simp at hx
theorem pw_sorted (ws:List Int) (F:List (List Int)) (e:Int): ∀(n:Nat) (i:Int),(pw ws F e n i).1.Pairwise (· < ·)
 |0,i=>by simp [pw]
 | n + 1, i => by
  rw [pw]
  split
  case isTrue c=>
   split
   case isTrue c2=>simp
   case isFalse c2=>
    have hl:=mwalk_lt ws F e i;refine List.Pairwise.cons (fun x hx=>?_) (pw_sorted ws F e n _);have:=pw_mem ws F e n _ x hx
    omega
  case isFalse c=>simp
theorem pw_part {cs:Cs} (h:csOk cs=true) {ws:List Int} (hw:ws.length≤1048576) {e:Int} (he:e≤ws.length): ∀(n:Nat) (i:Int) (acc:List Int) (k:Nat),0≤i→(e - i).toNat≤n→n+21≤k→acc.length+n<17592186044416→
  spec_l21Part.l0 k cs ws i e acc=some (acc++(pw ws (allF cs) e n i).1,(pw ws (allF cs) e n i).2)
 |0,i,acc,k,h0,hn,hk,ha=>by
  obtain ⟨k,rfl⟩: ∃m,k=m+1:=⟨k - 1,by omega⟩;rw [spec_l21Part.l0,if_neg (by omega),pw];simp
 | n + 1, i, acc, k, h0, hn, hk, ha => by
  obtain ⟨k,rfl⟩: ∃m,k=m+1:=⟨k - 1,by omega⟩;rw [spec_l21Part.l0,pw];by_cases c:i<e
  ·rw [if_pos c, if_pos c, l21Size_eq h hw h0 he k (by omega), if_pos c]
   simp only [Option.bind_some]
   by_cases c2:mstep ws (allF cs) e i=0
   ·rw [if_pos c2,if_pos c2];simp
   ·rw [if_neg c2, if_neg c2, if_pos (by omega)]
    have hl:=mwalk_lt ws (allF cs) e i;rw [wrap64_of (by omega) (by omega),pw_part h hw he n _ _ k (by omega) (by omega) (by omega) (by rw [List.length_append,List.length_singleton];omega)];simp
  ·rw [if_neg c,if_neg c];simp
theorem rd_mem {xs:List Int} {i:Nat} (h:i<xs.length):rd xs (i:Int)=xs[i]:=by
  rw [rd_cast,List.getD_eq_getElem?_getD,List.getElem?_eq_getElem h];rfl
theorem sorted_lt {xs:List Int} (h:xs.Pairwise (· < ·)) {i j:Nat} (hi:i<j) (hj:j<xs.length):xs[i]'(by omega)<xs[j]:=List.pairwise_iff_getElem.mp h i j (by omega) hj hi
theorem cmp_Less_eq (a b:Int):cmp_Less_int.f a b=some (decide (a<b)):=by
  unfold cmp_Less_int.f cmp_isNaN_int.f;rw [Option.bind_some,show (a !=a)=false from by simp,if_neg (by simp)]
theorem search_l0 {xs:List Int} (hs:xs.Pairwise (· < ·)) (hl:xs.length≤1048576) (v:Int) (d:Nat): ∀(lo hi k:Nat),hi - lo≤d→lo≤hi→hi≤xs.length→d+2≤k→(∀i (h:i<xs.length),i<lo→xs[i]<v)→(∀i (h:i<xs.length),hi≤i→v≤xs[i])→
  ∃p:Nat,p≤xs.length∧slices_BinarySearch_int_int.l0 k xs v xs.length lo hi=some ((p:Int),decide (v∈xs))∧(∀i (h:i<xs.length),i<p→xs[i]<v)∧(∀i (h:i<xs.length),p≤i→v≤xs[i]):=by
 induction d with
 | zero =>
  intro lo hi k hd hlh hhi hk h1 h2;obtain ⟨k,rfl⟩: ∃m,k=m+1:=⟨k - 1,by omega⟩;obtain rfl:lo=hi:=by omega
  refine ⟨lo,hhi,?_,h1,h2⟩;rw [slices_BinarySearch_int_int.l0,if_neg (by omega)];by_cases c:lo<xs.length
  ·rw [if_pos (by omega), if_pos (by omega), if_pos (by omega), rd_mem c]
   by_cases c2:xs[lo]=v
   ·rw [if_pos c2,decide_eq_true (by rw [←c2];exact List.getElem_mem c)]
   ·have hv := h2 lo c (Nat.le_refl _)
    rw [if_neg c2];simp only [slices_isNaN_int.f,Option.bind_some]
    have nm: ¬v∈xs:=fun hm=>by
     obtain ⟨j,hj,e⟩:=List.getElem_of_mem hm;rcases Nat.lt_trichotomy j lo with q|q|q
     ·have:=h1 j hj q;omega
     ·subst q;exact c2 e
     ·have:=sorted_lt hs q hj;omega
    rw [decide_eq_false nm];simp
  ·rw [if_neg (by omega)]
   have nm: ¬v∈xs:=fun hm=>by
    obtain ⟨j,hj,e⟩:=List.getElem_of_mem hm;have:=h1 j hj (by omega);omega
   rw [decide_eq_false nm]
 | succ d ih =>
  intro lo hi k hd hlh hhi hk h1 h2;by_cases c:lo=hi
  ·subst c
   exact ih lo lo k (by omega) (by omega) hhi (by omega) h1 h2
  obtain ⟨k,rfl⟩: ∃m,k=m+1:=⟨k - 1,by omega⟩;obtain ⟨m,hm⟩: ∃m,m=(lo+hi)/2:=⟨_,rfl⟩;have hm2:m<xs.length:=by omega
  have hm3:lo≤m:=by omega
  have hm4:m<hi:=by omega
  have e1:wrap64 ((lo:Int)+hi)=((lo+hi:Nat):Int):=by rw [wrap64_of (by omega) (by omega)];omega
  have e2:IntKind.u64.wrap ((lo+hi:Nat):Int)=((lo+hi:Nat):Int):=by rw [IntKind.wrap_u64];omega
  have e3:wrap64 (((lo+hi:Nat):Int)/2)=(m:Int):=by
   have e4:((lo+hi:Nat):Int)/2=(m:Int):=by rw [hm];exact (Int.natCast_ediv (lo+hi) 2).symm
   rw [e4];exact wrap64_of (by omega) (by omega)
  clear hm;rw [slices_BinarySearch_int_int.l0,if_pos (by omega),e1,e2,e3,if_pos (by omega),if_pos (by omega),rd_mem hm2];by_cases c2:xs[m]<v
  ·have hc : cmp_Less_int.f xs[m] v = some true := by rw [cmp_Less_eq, decide_eq_true c2]
   rw [hc];simp only [Option.bind_some,if_true]
   rw [wrap_inc (n:=1048577) (by omega) (by omega) (by omega)]
   have:=ih (m+1) hi k (by omega) (by omega) hhi (by omega) (fun i h hi'=>by
    rcases Nat.lt_or_ge i m with q|q
    ·have:=sorted_lt hs q hm2;omega
    ·obtain rfl : i = m := by omega
     exact c2) h2
   rw [show ((m+1:Nat):Int)=(m:Int)+1 by omega] at this;exact this
  ·have hc : cmp_Less_int.f xs[m] v = some false := by rw [cmp_Less_eq, decide_eq_false c2]
   rw [hc];simp only [Option.bind_some]
   rw [if_neg (by simp)]
   exact ih lo m k (by omega) (by omega) (by omega) (by omega) h1 (fun i h hi'=>by
    rcases Nat.eq_or_lt_of_le hi' with q|q
    ·subst q;omega
    ·have:=sorted_lt hs q h;omega)
theorem search_eq {xs:List Int} (hs:xs.Pairwise (· < ·)) (hl:xs.length≤1048576) (v:Int): ∃p:Nat,p≤xs.length∧(∀k,xs.length+2≤k→slices_BinarySearch_int_int.f k xs v=some ((p:Int),decide (v∈xs)))∧(∀i (h:i<xs.length),i<p→xs[i]<v)∧(∀i (h:i<xs.length),p≤i→v≤xs[i]):=by
 obtain ⟨p,hp,he,h1,h2⟩:=search_l0 hs hl v xs.length 0 xs.length (xs.length+2) (by omega) (by omega) (by omega) (by omega) (fun i h hi=>by omega) (fun i h hi=>by omega);refine ⟨p,hp,fun k hk=>?_,h1,h2⟩;have:=at_rounds (g:=fun k=>slices_BinarySearch_int_int.f k xs v) (fun k=>slices_BinarySearch_int_int.mono xs v k) hk (r:=((p:Int),decide (v∈xs))) (by unfold slices_BinarySearch_int_int.f;exact he)
 exact this
structure Bnd (cs:Cs) (ws:List Int) (y t o:Int) (cards:List Bool):Prop where
 ok:csOk cs=true
 y0:0≤y
 y1:y≤40
 n0:14≤(ws.length:Int) - y
 n1:(ws.length:Int) - y≤120
 t0:0≤t
 t1:t≤y
 o0:y≤o
 o1:o≤ws.length
 cd:(cards.length:Int)=((ws.length:Int) - y+3)/4
structure Wlk (cs:Cs) (ws:List Int) (W:List Int):Prop where
 mem: ∀x∈W,∃e:Int,e≤ws.length∧0≤x∧x<e∧0<mstep ws (allF cs) e x∧mstep ws (allF cs) e x≤e - x
 srt:W.Pairwise (· < ·)
 len:W.length≤200
def startsL (W:List Int) (n:Nat):List Bool:=(List.range n).map (fun j:Nat=>decide ((j:Int)∈W))
theorem startsL_len (W:List Int) (n:Nat):(startsL W n).length=n:=by simp [startsL]
theorem startsL_at (W:List Int) (n:Nat) {j:Int} (h0:0≤j) (h1:j<n):rdOf false (startsL W n) j=decide (j∈W):=by
 unfold rdOf startsL;rw [List.getD_eq_getElem?_getD,List.getElem?_map,List.getElem?_range (by omega)];show decide (((j.toNat:Nat):Int)∈W)=_
 rw [Int.toNat_of_nonneg h0]
theorem starts_l0 (W:List Int) (n:Nat) (hW: ∀x∈W,0≤x∧x<(n:Int)) (hl:W.length≤1048576) (d:Nat): ∀(k i:Nat) (S:List Bool),i+d=W.length→d<k→S.length=n→(∀j:Nat,j<n→S.getD j false=decide ((j:Int)∈W.take i))→
  spec_l21Starts.l0 k W S i=some (startsL W n):=by
 induction d with
 |zero=>
  intro k i S hi hk hS hj;obtain ⟨k,rfl⟩: ∃m,k=m+1:=⟨k - 1,by omega⟩;rw [spec_l21Starts.l0,if_neg (by omega)]
  congr 1
  refine List.ext_getElem (by rw [hS,startsL_len]) (fun j h1 h2=>?_);have:=hj j (by omega)
  rw [List.getD_eq_getElem?_getD,List.getElem?_eq_getElem h1,show i=W.length by omega,List.take_length] at this;have e2:(startsL W n)[j]=decide ((j:Int)∈W):=by simp [startsL]
  rw [e2];exact this
 | succ d ih =>
  intro k i S hi hk hS hj;obtain ⟨k,rfl⟩: ∃m,k=m+1:=⟨k - 1,by omega⟩;have hlt:i<W.length:=by omega
  have hx:=hW W[i] (List.getElem_mem hlt);rw [spec_l21Starts.l0,if_pos (by omega),if_pos (by omega),rd_mem hlt,if_pos hx.1,if_pos (by rw [hS];exact hx.2),wrap_inc (n:=1048577) (by omega) (by omega) (by omega)]
  have:=ih k (i+1) (S.set W[i].toNat true) (by omega) (by omega) (by rw [List.length_set,hS]) (fun j hj2=>by
   have h3:=hj j hj2;rw [List.take_succ_eq_append_getElem hlt];rw [List.getD_eq_getElem?_getD] at h3 ⊢;rw [List.getElem?_set];by_cases q:W[i].toNat=j
   ·rw [if_pos q, if_pos (by omega)]
    have:(j:Int)∈W.take i++[W[i]]:=by rw [List.mem_append,List.mem_singleton];right;omega
    rw [decide_eq_true this];rfl
   ·rw [if_neg q, h3]
    have:(j:Int)∈W.take i++[W[i]]↔(j:Int)∈W.take i:=by
     rw [List.mem_append,List.mem_singleton]
     constructor
     ·rintro (z | z)
      ·exact z
      ·omega
     ·exact Or.inl
    simp only [this])
  rw [show ((i+1:Nat):Int)=(i:Int)+1 by omega] at this;exact this
theorem starts_eq {W:List Int} {n:Nat} (hW: ∀x∈W,0≤x∧x<(n:Int)) (hl:W.length≤1000) (hn:n≤1048576) (k:Nat) (hk:1001≤k):spec_l21Starts.f k n W=some (startsL W n):=by
 unfold spec_l21Starts.f;rw [if_pos (by omega),if_pos (by omega),Int.toNat_natCast];have:=starts_l0 W n hW (by omega) W.length k 0 (List.replicate n false) (by omega) (by omega) (by simp) (fun j hj=>by simp [List.getD_eq_getElem?_getD,hj])
 exact this
def ldB (cs:Cs) (c k:Int):Bool:=if c= -1 then false else if c= -2 then true else (rd (cfl cs c) k !=1)
theorem thing_facts {cs : Cs} {ws : List Int} {y t o : Int} {cards : List Bool} (hb : Bnd cs ws y t o cards) {W : List Int} (hw : Wlk cs ws W) (m : Mm) (hm : m = ⟨ws, y, t, o, cards, allF cs, W.map (· + 1)⟩) {x : Int} (hx : x ∈ W) :
    ∃ c hd cnt : Int, c = rd ws x ∧ 0 ≤ x ∧ (hd = 1 ∨ hd = 2) ∧ 0 ≤ cnt ∧ cnt ≤ 8 ∧ x + hd + cnt ≤ ws.length ∧ thing_count.f m (x + 1) = some cnt ∧ thing_first.f m (x + 1) = some (x + hd) ∧ spec_l21Head.f c = some hd ∧
      (∀k,20≤k→spec_l21Size.f k cs ws x ws.length=some (hd+cnt))∧(∀k,0≤k→k<cnt→thing_leads.f m (x+1) k=some (ldB cs c k))∧(c= -1∨c= -2∨(0≤c∧c<cs.length∧hd=1∧cnt=(cfl cs c).length)):=by
  obtain ⟨e,he,h0,h1,h2,h3⟩:=hw.mem x hx;have n0:=hb.n0;have n1:=hb.n1;have y0:=hb.y0;have y1:=hb.y1;have hl:=csOk_len hb.ok
  have hc:thing_class.f m (x+1)=some (rd ws x):=by
    unfold thing_class.f;rw [hm];show (if 1≤x+1∧x+1≤(ws.length:Int)∧ws.length≤281474976710656 then some (rd ws (x+1 - 1)) else none)=_
    rw [if_pos (by omega),show x+1 - 1=x by omega]
  obtain ⟨c,hcc⟩: ∃c,c=rd ws x:=⟨_,rfl⟩;rw [←hcc] at hc
  have hsz: ∀k,20≤k→spec_l21Size.f k cs ws x ws.length=some (mstep ws (allF cs) ws.length x):=fun k hk=>by
    rw [l21Size_eq hb.ok (by omega) h0 (Int.le_refl _) k hk,if_pos (by omega)]
  by_cases c0:c<0
  · have hs : mstep ws (allF cs) e x = 2 + rd ws (x + 1) ∧ (c = -1 ∨ c = -2) ∧ x + 1 < e ∧ 0 ≤ rd ws (x + 1) ∧ rd ws (x + 1) ≤ 6 := by
      unfold mstep at h2 ⊢;rw [←hcc] at h2 ⊢;rw [if_pos c0] at h2 ⊢;by_cases c1:x+1<e
      · rw [if_pos c1] at h2 ⊢
        by_cases c2:c= -1∨c= -2
        · by_cases c3 : 0 ≤ rd ws (x + 1) ∧ rd ws (x + 1) ≤ 6
          · have m1 : measN (allF cs) c (rd ws (x + 1)) = 2 + rd ws (x + 1) := by unfold measN; rw [if_pos c2, if_pos c3]
            rw [m1] at h2 ⊢
            split at h2
            · rename_i z;rw [if_pos z];exact ⟨rfl,c2,c1,c3.1,c3.2⟩
            · omega
          · have m1 : measN (allF cs) c (rd ws (x + 1)) = 0 := by unfold measN; rw [if_pos c2, if_neg c3]
            rw [m1] at h2
            split at h2<;>omega
        · have m1 : measN (allF cs) c (rd ws (x + 1)) = 0 := by unfold measN; rw [if_neg c2, if_neg (by omega)]
          rw [m1] at h2
          split at h2<;>omega
      · rw [if_neg c1] at h2;omega
    obtain ⟨s1,s2,s3,s4,s5⟩:=hs;refine ⟨c,2,rd ws (x+1),hcc,h0,Or.inr rfl,s4,by omega,by omega,?_,?_,?_,?_,?_,?_⟩
    · unfold thing_count.f
      rw [hc,Option.bind_some,if_pos c0,hm];show (if x+1<(ws.length:Int) then some (rd ws (x+1)) else none)=_
      rw [if_pos (by omega)]
    · unfold thing_first.f
      rw [hc,Option.bind_some,if_pos c0,show x+1+1=x+2 by omega]
    · unfold spec_l21Head.f;rw [if_pos c0]
    · intro k hk
      rw [hsz k hk];unfold mstep;rw [←hcc,if_pos c0,if_pos (by omega)];have m1:measN (allF cs) c (rd ws (x+1))=2+rd ws (x+1):=by unfold measN;rw [if_pos s2,if_pos ⟨s4,s5⟩]
      rw [m1,if_pos (by omega)]
    · intro k _ _
      unfold thing_leads.f ldB;rw [hc,Option.bind_some];rcases s2 with z|z
      · rw [if_pos z,if_pos z]
      · rw [if_neg (by omega),if_pos z,if_neg (by omega),if_pos z]
    · rcases s2 with z | z
      · exact Or.inl z
      · exact Or.inr (Or.inl z)
  · have c1 : c < cs.length ∧ mstep ws (allF cs) e x = 1 + (cfl cs c).length := by
      unfold mstep at h2 ⊢;rw [←hcc] at h2 ⊢;rw [if_neg c0] at h2 ⊢;by_cases z:c<(cs.length:Int)
      · rw [measN_c 0 (by omega) z] at h2 ⊢
        split at h2
        · rename_i q;rw [if_pos q];exact ⟨z,rfl⟩
        · omega
      · have m1 : measN (allF cs) c 0 = 0 := by unfold measN; rw [if_neg (by omega), allF_len, if_neg (by omega)]
        rw [m1] at h2
        split at h2<;>omega
    have hf:=cfl_eq hb.ok (a:=c) (by omega) c1.1;refine ⟨c,1,(cfl cs c).length,hcc,h0,Or.inl rfl,by omega,by omega,by omega,?_,?_,?_,?_,?_,Or.inr (Or.inr ⟨by omega,c1.1,rfl,rfl⟩)⟩
    · unfold thing_count.f
      rw [hc,Option.bind_some,if_neg c0,hm];show (if c<((allF cs).length:Int)∧(allF cs).length≤281474976710656 then some (((rdL (allF cs) c).length:Nat):Int) else none)=_
      rw [allF_len,if_pos ⟨c1.1,by omega⟩,allF_at cs (by omega) c1.1]
    · unfold thing_first.f
      rw [hc,Option.bind_some,if_neg c0]
    · unfold spec_l21Head.f;rw [if_neg c0]
    · intro k hk
      rw [hsz k hk];unfold mstep;rw [←hcc,if_neg c0,measN_c 0 (by omega) c1.1,if_pos (by omega)]
    · intro k k0 k1
      unfold thing_leads.f ldB;have q1: ¬c= -1:=by omega
      have q2: ¬c= -2:=by omega
      rw [hc,Option.bind_some];simp only [if_neg q1,if_neg q2]
      rw [hm];show (if 0≤c∧c<((allF cs).length:Int)∧0≤k∧k<((rdL (allF cs) c).length:Int) then some (rd (rdL (allF cs) c) k !=1) else none)=_
      rw [allF_len,allF_at cs (by omega) c1.1,if_pos ⟨by omega,c1.1,k0,k1⟩]
def refsL (cs:Cs) (c hd s:Int):List Bool:=(List.range s.toNat).map (fun j:Nat=>decide (hd≤j)&&ldB cs c (j - hd))
theorem refsL_at (cs:Cs) (c hd s:Int) {j:Int} (h0:hd≤j) (h00:0≤j) (h1:j<s):rdOf false (refsL cs c hd s) j=ldB cs c (j - hd):=by
 unfold rdOf refsL;rw [List.getD_eq_getElem?_getD,List.getElem?_map,List.getElem?_range (by omega)];show (decide (hd≤((j.toNat:Nat):Int))&&ldB cs c (((j.toNat:Nat):Int) - hd))=_
 rw [Int.toNat_of_nonneg h00,decide_eq_true h0,Bool.true_and]
theorem refs_l0 {cs:Cs} (h:csOk cs=true) {c hd:Int} {s:Nat} (hs:s≤100) (hh:hd=1∨hd=2) (hc:c= -1∨c= -2∨(0≤c∧c<cs.length∧hd=1∧(s:Int)=1+(cfl cs c).length)) (d:Nat): ∀(k j:Nat) (R:List Bool),j+d=s→hd≤(j:Int)→d+30≤k→R.length=s→(∀i:Nat,i<s→R.getD i false=(decide (hd≤(i:Int)∧i<j)&&ldB cs c ((i:Int) - hd)))→
  spec_l21Refs.l0 k cs R c j=some (refsL cs c hd s):=by
 induction d with
 |zero=>
  intro k j R hj hj2 hk hR hi;obtain ⟨k,rfl⟩: ∃m,k=m+1:=⟨k - 1,by omega⟩;rw [spec_l21Refs.l0,if_neg (by omega)]
  congr 1
  refine List.ext_getElem (by rw [hR];simp [refsL]) (fun i h1 h2=>?_);have e1:=hi i (by omega);rw [List.getD_eq_getElem?_getD,List.getElem?_eq_getElem h1] at e1;have e2:(refsL cs c hd s)[i]=(decide (hd≤(i:Int))&&ldB cs c ((i:Int) - hd)):=by simp [refsL]
  rw [e2];have e3:(hd≤(i:Int)∧i<j)↔hd≤(i:Int):=⟨fun z=>z.1,fun z=>⟨z,by omega⟩⟩
  simp only [e3] at e1;exact e1
 | succ d ih =>
  intro k j R hj hj2 hk hR hi;obtain ⟨k,rfl⟩: ∃m,k=m+1:=⟨k - 1,by omega⟩
  have step: ∀b,b=ldB cs c ((j:Int) - hd)→spec_l21Refs.l0 k cs (R.set ((j:Int)).toNat b) c (wrap64 ((j:Int)+1))=some (refsL cs c hd s):=fun b hbb=>by
   rw [wrap_inc (n:=1000) (by omega) (by omega) (by omega),Int.toNat_natCast]
   have:=ih k (j+1) (R.set j b) (by omega) (by omega) (by omega) (by rw [List.length_set,hR]) (fun i hi2=>by
    have h3:=hi i hi2;rw [List.getD_eq_getElem?_getD] at h3 ⊢;rw [List.getElem?_set];by_cases q:j=i
    ·rw [if_pos q, if_pos (by omega)]
     subst q;rw [decide_eq_true (show hd≤(j:Int)∧j<j+1 from ⟨hj2,by omega⟩),Bool.true_and,hbb];rfl
    ·rw [if_neg q, h3]
     have:(hd≤(i:Int)∧i<j+1)↔(hd≤(i:Int)∧i<j):=by omega
     simp only [this])
   rw [show ((j+1:Nat):Int)=(j:Int)+1 by omega] at this;exact this
  rw [spec_l21Refs.l0,if_pos (by omega)];rcases hc with z|z|z
  ·rw [if_neg (by omega), if_neg (by omega), if_pos (by omega)]
   exact step _ (by unfold ldB;rw [if_pos z])
  ·rw [if_pos z, if_pos (by omega)]
   exact step _ (by unfold ldB;rw [if_neg (by omega),if_pos z])
  ·obtain ⟨z0, z1, z2, z3⟩ := z
   rw [if_neg (by omega),if_pos (by omega),fields_same,(cfl_eq h z0 z1).2 k (by omega)];simp only [Option.bind_some]
   rw [wrap64_of (n:=(j:Int) - 1) (by omega) (by omega),if_pos (by omega),if_pos (by omega),if_pos (by omega)];exact step _ (by unfold ldB;rw [if_neg (by omega),if_neg (by omega),z2])
theorem head_any (c:Int): ∃hd,(hd=1∨hd=2)∧spec_l21Head.f c=some hd:=by
 unfold spec_l21Head.f;by_cases h:c<0
 ·exact ⟨2,.inr rfl,by rw [if_pos h]⟩
 ·exact ⟨1,.inl rfl,by rw [if_neg h]⟩
theorem refs_any {cs : Cs} (h : csOk cs = true) {ws : List Int} (hn : ws.length ≤ 1000) {x : Int} (h0 : 0 ≤ x) (h1 : x < ws.length) :
  ∃R:List Bool,(x+R.length≤ws.length∧R.length≤10)∧∀k,200≤k→spec_l21Refs.f k cs ws x=some R:=by
 have hsz: ∀k,20≤k→spec_l21Size.f k cs ws x ws.length=some (mstep ws (allF cs) ws.length x):=fun k hk=>by
  rw [l21Size_eq h (by omega) h0 (Int.le_refl _) k hk,if_pos h1]
 rcases mwalk_lt ws (allF cs) ws.length x with hz|⟨hz,hz2⟩
 ·obtain ⟨hd, hh, he⟩ := head_any (rd ws x)
  refine ⟨[],⟨by simp;omega,by simp⟩,fun k hk=>?_⟩;unfold spec_l21Refs.f;rw [hsz k (by omega),hz,Option.bind_some,if_pos (by omega),if_pos (by simp),if_pos h0,if_pos h1,he,Option.bind_some];obtain ⟨k,rfl⟩: ∃m,k=m+1:=⟨k - 1,by omega⟩;rw [spec_l21Refs.l0,if_neg (by simp;omega)];rfl
 ·obtain ⟨c, hc⟩ : ∃ c, c = rd ws x := ⟨_, rfl⟩
  have hm : ∃ hd cnt : Int, (hd = 1 ∨ hd = 2) ∧ 0 ≤ cnt ∧ cnt ≤ 8 ∧ mstep ws (allF cs) ws.length x = hd + cnt ∧ spec_l21Head.f c = some hd ∧ (c = -1 ∨ c = -2 ∨ (0 ≤ c ∧ c < cs.length ∧ hd = 1 ∧ cnt = (cfl cs c).length)) := by
   unfold mstep at hz ⊢;rw [←hc] at hz ⊢;by_cases c0:c<0
   ·rw [if_pos c0] at hz ⊢
    by_cases c1:x+1<(ws.length:Int)
    ·rw [if_pos c1] at hz ⊢
     by_cases c2:measN (allF cs) c (rd ws (x+1))≤(ws.length:Int) - x
     ·rw [if_pos c2] at hz ⊢
      unfold measN at hz ⊢;by_cases c3:c= -1∨c= -2
      ·rw [if_pos c3] at hz ⊢
       by_cases c4:0≤rd ws (x+1)∧rd ws (x+1)≤6
       ·rw [if_pos c4]
        exact ⟨2,rd ws (x+1),.inr rfl,c4.1,by omega,rfl,by unfold spec_l21Head.f;rw [if_pos c0],c3.elim .inl (fun z=> .inr (.inl z))⟩
       ·rw [if_neg c4] at hz;omega
      ·rw [if_neg c3,if_neg (by omega)] at hz;omega
     ·rw [if_neg c2] at hz;omega
    ·rw [if_neg c1] at hz;omega
   ·rw [if_neg c0] at hz ⊢
    by_cases c2:measN (allF cs) c 0≤(ws.length:Int) - x
    ·rw [if_pos c2] at hz ⊢
     by_cases c3:c<cs.length
     ·rw [measN_c 0 (by omega) c3]
      exact ⟨1,(cfl cs c).length,.inl rfl,by omega,by have:=(cfl_eq h (show 0≤c by omega) c3).1;omega,rfl,by unfold spec_l21Head.f;rw [if_neg c0],.inr (.inr ⟨by omega,c3,rfl,rfl⟩)⟩
     ·unfold measN at hz
      rw [if_neg (by omega),allF_len,if_neg (by omega)] at hz;omega
    ·rw [if_neg c2] at hz;omega
  obtain ⟨hd,cnt,hh,n0,n8,hs,he,hcc⟩:=hm;refine ⟨refsL cs c hd (hd+cnt),by unfold refsL;rw [List.length_map,List.length_range];exact ⟨by omega,by omega⟩,fun k hk=>?_⟩;have hsk:=hsz k (by omega);rw [hs] at hsk;unfold spec_l21Refs.f;rw [hsk,Option.bind_some,if_pos (by omega),if_pos (by omega),if_pos h0,if_pos (by omega),←hc,he,Option.bind_some]
  have:=refs_l0 h (c:=c) (hd:=hd) (s:=(hd+cnt).toNat) (by omega) hh (by rcases hcc with z|z|z;exact .inl z;exact .inr (.inl z);exact .inr (.inr ⟨z.1,z.2.1,z.2.2.1,by omega⟩)) ((hd+cnt).toNat - hd.toNat) k hd.toNat (List.replicate (hd+cnt).toNat false) (by omega) (by omega) (by omega) (by simp) (fun i hi=>by
   rw [List.getD_eq_getElem?_getD,List.getElem?_replicate,if_pos hi]
   rw [decide_eq_false (by omega)];rfl)
  rw [show ((hd.toNat:Nat):Int)=hd by omega,show (((hd+cnt).toNat:Nat):Int)=hd+cnt by omega] at this;exact this
end Go.Proofs.Ytnlieahdakafbaa.Pure
