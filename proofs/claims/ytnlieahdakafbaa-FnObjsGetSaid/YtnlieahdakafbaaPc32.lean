import Derived.Test.YtnlieahdakafbaaPc24
import Derived.Test.YtnlieahdakafbaaPc31
import Derived.Test.YtnlieahdakafbaaPc28
import Derived.Test.YtnlieahdakafbaaPc29
import Derived.Test.YtnlieahdakafbaaPc26
import Derived.Laws.Bits64
import Derived.Test.YtnlieahdakafbaaPc25
namespace Go.Proofs.Ytnlieahdakafbaa.K
open Go.RowKit Go.Proofs.YtnlieahdakafbaaW.PrintWords Go.Proofs.YtnlieahdakafbaaW.PrintLast Go.Proofs.YtnlieahdakafbaaW.PrintMore
attribute [local go_sem] max2_int min2_int max_two min_two max_three min_three max_four min_four
set_option linter.unusedVariables false
set_option linter.unusedSimpArgs false
def spec_l21Put.f (l0_0:List Int) (a0_1:Int) (a0_2:Int) (a0_3:Int) (l0_4:List Bool) (a1:Int) (a2:Int) (a3:Bool):Option (List Int×Int×Int×Int×List Bool):=if 0≤a1 then (if a1<(l0_0.length:Int) then ((some (l0_0.set (a1:Int).toNat a2:List Int)).bind fun y203=>(if a3=true then (if a1≥a0_1 then ((spec_l6In.f a2 1 a0_1).bind fun t204=>(if t204=true then (if 0≤(wrap64 (Int.tdiv (wrap64 (a1 - a0_1)) 4)) then (if (wrap64 (Int.tdiv (wrap64 (a1 - a0_1)) 4))<(l0_4.length:Int) then (some (y203,a0_1,a0_2,a0_3,(l0_4.set ((wrap64 (Int.tdiv (wrap64 (a1 - a0_1)) 4)):Int).toNat true))) else (none)) else (none)) else (some (y203,a0_1,a0_2,a0_3,l0_4)))) else (some (y203,a0_1,a0_2,a0_3,l0_4))) else (some (y203,a0_1,a0_2,a0_3,l0_4)))) else (none)) else (none)
end Go.Proofs.Ytnlieahdakafbaa.K
namespace Go.Proofs.Ytnlieahdakafbaa.Pure
open Go.RowKit Go.Proofs.Ytnlieahdakafbaa.K Go.Proofs.YtnlieahdakafbaaW.PrintWords Go.Proofs.YtnlieahdakafbaaW.PrintLast Go.Proofs.YtnlieahdakafbaaW.PrintMore
set_option linter.unusedVariables false
set_option linter.unusedSimpArgs false
theorem spec_l6In_eq (a b c:Int):spec_l6In.f a b c=some (decide (b≤a∧a≤c)):=by
 unfold spec_l6In.f;by_cases h:a≥b
 ·rw [if_pos h];simp [show b≤a from h]
 ·rw [if_neg h];simp [show¬b≤a from h]
def putM (ws:List Int) (y:Int) (cards:List Bool) (i v:Int) (ref:Bool):List Int×List Bool:=
  (ws.set i.toNat v,if ref=true∧i≥y∧1≤v∧v≤y then cards.set ((i - y)/4).toNat true else cards)
end Go.Proofs.Ytnlieahdakafbaa.Pure
namespace Go.Proofs.Ytnlieahdakafbaa.K
open Go.RowKit Go.Proofs.YtnlieahdakafbaaW.PrintWords Go.Proofs.YtnlieahdakafbaaW.PrintLast Go.Proofs.YtnlieahdakafbaaW.PrintMore
attribute [local go_sem] max2_int min2_int max_two min_two max_three min_three max_four min_four
set_option linter.unusedVariables false
set_option linter.unusedSimpArgs false
open Go.Proofs.Ytnlieahdakafbaa.Pure
set_option maxHeartbeats 16000000 in
set_option maxRecDepth 100000 in
theorem put_any (b gw cW gc cC:Nat) (ws:List Int) (y t o:Int) (cards:List Bool) (i v:Int) (ref:Bool) (w:World) (h:OM b gw cW gc cC w ws cards) (hn:ws.length≤1048576) (h0:0≤i) (h1:i<ws.length) (hy:0≤y∧y≤40) (hcd:i≥y→(i - y)/4<(cards.length:Int)):
  Calls Try.prog 44 #[.agg #[.slice (some ⟨gw,0,none⟩) ws.length cW,.int .i64 y,.int .i64 t,.int .i64 o,.slice (some ⟨gc,0,none⟩) cards.length cC],.int .i64 i,.int .i64 v,.bool ref] w fun e w'=>e= .returned (.agg #[.slice (some ⟨gw,0,none⟩) ws.length cW,.int .i64 y,.int .i64 t,.int .i64 o,.slice (some ⟨gc,0,none⟩) cards.length cC])∧OM b gw cW gc cC w' (putM ws y cards i v ref).1 (putM ws y cards i v ref).2∧Ch (fun k=>k=gw∨k=gc) w w':=by
 have HO:=aK h;have H1:=aK (show (0≤i∧i<ws.length)∧ws.length≤1048576∧(0≤y∧y≤40)∧(i≥y→(i - y)/4<(cards.length:Int)) from ⟨⟨h0,h1⟩,hn,hy,hcd⟩);have HGW:=aK (show gw<w.heap.size∧gc<w.heap.size∧gw≠gc from ⟨h.bw.2,h.bc.2,h.ne⟩);have p1:=eq_true h0;have p2:=eq_true h1;clear h hn h0 h1 hy hcd
 cases ref with
 |false=>
  rw [show putM ws y cards i v false=(ws.set i.toNat v,cards) from by unfold putM;rw [if_neg (by simp)]];go_enter Try.func44,Try.ntmps44
  go_wp2_with (first|((with_reducible refine gate_dst (N:=4) rfl ?_);refine box_event ?hg (N:=4) ?hd (cs:= #[.slice (some ⟨gw,0,none⟩) ws.length cW,.int .i64 y,.int .i64 t,.int .i64 o,.slice (some ⟨gc,0,none⟩) cards.length cC]) (t:=27) ?hr ?_;(case hd=>rfl);(case hg=>rfl);(case hr=>first|(go_simp;done)|(go_simp;rfl));intro gp hg w1 hbox hb;have BP:=aK hbox;have HCh:=aK ((Ch.refl (fun k=>k=gw∨k=gc) w).below hb);have HGp:=aK (show w.heap.size≤gp by rw [hg];exact Nat.le_refl _);have HC0:=aK ((Ch.refl (fun _=>False) w).below hb);clear hb hbox hg)|((with_reducible refine gate_dst (N:=8) rfl ?_);refine box_event ?hg (N:=8) ?hd (cs:= #[.slice none 0 0,.int .i64 0,.int .i64 0,.int .i64 0,.slice none 0 0]) (t:=27) ?hr ?_;(case hd=>rfl);(case hg=>rfl);(case hr=>first|(go_simp;done)|(go_simp;rfl));intro gr hg w2 hbox hb;have BR:=aK hbox;have HGr:=aK (show w.heap.size≤gr∧gp<gr by have:=HCh.out.size;have:=blk_lt BP.out;rw [hg];exact ⟨by omega,by omega⟩);replace BP:=aK (blk_below BP.out hb);replace HCh:=aK (HCh.out.below hb);replace HC0:=aK (HC0.out.below hb);have HO2:=aK (HO.out.ch HC0.out (fun h=>h) (fun h=>h));have c0:=(blk_cell BP.out 0).trans rfl;have c1:=(blk_cell BP.out 1).trans rfl;have c2:=(blk_cell BP.out 2).trans rfl;have c3:=(blk_cell BP.out 3).trans rfl;have c4:=(blk_cell BP.out 4).trans rfl;obtain ⟨x0,f0⟩:=HO2.out.wcell i H1.out.1.1 H1.out.1.2;clear hb hbox hg)|((with_reducible refine gate_store (t:=3) (p:=13) rfl ?_);refine store_event (t:=3) (p:=13) (v:=?vo1) (w1:=(w2.setCell ⟨gw,i.toNat,none⟩ (.int .i64 v))) ?hg ?ho ?hn ?hr ?_;(case ho=>rfl);(case hg=>rfl);(case hn=>rfl);(case hr=>first|(go_simp;done)|(go_simp;rfl));intro w3 hw;have HO3:=aK (show OM b gw cW gc cC w3 (ws.set i.toNat v) cards by rw [hw];exact HO2.out.setw i v);have HC3:=aK (show Ch (fun k=>k=gw∨k=gc) w w3 by rw [hw];exact HCh.out.set (.inl (.inl rfl)) _);have BP3:=aK (show w3.heap[gp]? =some (.cells #[.slice (some ⟨gw,0,none⟩) ws.length cW,.int .i64 y,.int .i64 t,.int .i64 o,.slice (some ⟨gc,0,none⟩) cards.length cC] 27 (0,0)) by rw [hw];exact blk_far BP.out (by have:=HGp.out;have:=HGW.out;show gp≠gw;omega) _);have BR3:=aK (show w3.heap[gr]? =some (.cells #[.slice none 0 0,.int .i64 0,.int .i64 0,.int .i64 0,.slice none 0 0] 27 (0,0)) by rw [hw];exact blk_far BR.out (by have:=HGr.out;have:=HGW.out;show gr≠gw;omega) _);clear hw x0 f0 HO2 HCh BP BR HC0;clear c0 c1 c2 c3 c4;have c0:=(blk_cell BP3.out 0).trans rfl;have c1:=(blk_cell BP3.out 1).trans rfl;have c2:=(blk_cell BP3.out 2).trans rfl;have c3:=(blk_cell BP3.out 3).trans rfl;have c4:=(blk_cell BP3.out 4).trans rfl;have z0:=(blk_cell BR3.out 0).trans rfl;have z1:=(blk_cell BR3.out 1).trans rfl;have z2:=(blk_cell BR3.out 2).trans rfl;have z3:=(blk_cell BR3.out 3).trans rfl;have z4:=(blk_cell BR3.out 4).trans rfl;have y_0:=blk_frozen BR3.out 0;have y_1:=blk_frozen BR3.out 1;have y_2:=blk_frozen BR3.out 2;have y_3:=blk_frozen BR3.out 3;have y_4:=blk_frozen BR3.out 4))
  refine bodyPost_ret (results_cell_row rfl _ _ gr 27 #[.slice (some ⟨gw,0,none⟩) ws.length cW,.int .i64 y,.int .i64 t,.int .i64 o,.slice (some ⟨gc,0,none⟩) cards.length cC] (0,0) _ rfl (blk_box5 BR3.out) Try.underlying27 rfl (by kernel_rfl)) rfl ?_;exact ⟨rfl,HO3.out.ch (Ch.box5 (Ch.refl (fun k=>k=gr) _) (.inl rfl) _ _ _ _ _) zz27 zz27,HC3.out.box5 (.inr HGr.out.1) _ _ _ _ _⟩
 | true =>
  by_cases c1:y≤i
  ·have d1 : decide (y ≤ i) = true := decide_eq_true c1
   by_cases c2:1≤v∧v≤y
   ·skip
    have HV:=aK (show decide (1≤v∧v≤y)=true from decide_eq_true c2);rw [show putM ws y cards i v true=(ws.set i.toNat v,cards.set ((i - y)/4).toNat true) from by unfold putM;rw [if_pos ⟨rfl,by omega,c2⟩]];go_enter Try.func44,Try.ntmps44;have h_:=H1.out;have hcd_:=h_.2.2.2 c1;obtain ⟨E,hE⟩: ∃E,E=(i - y)/4:=⟨_,rfl⟩;have q1:IntKind.i64.wrap (i - y)=i - y:=IntWalk.i64_in _ (by omega)
    have q2:Int.tdiv (i - y) 4=E:=by rw [Int.tdiv_eq_ediv_of_nonneg (by omega),hE]
    have q2':(i - y)/4=E:=hE.symm
    have q3:IntKind.i64.wrap E=E:=IntWalk.i64_in _ (by omega)
    rw [q2'];have p3:=eq_true (show 0≤E by omega);have p4:=eq_true (show E<(cards.length:Int) by omega);have HE:=aK (show 0≤E∧E<(cards.length:Int) by omega);clear h_ hcd_ hE c1 c2
    go_wp2_with (first|((with_reducible refine gate_dst (N:=4) rfl ?_);refine box_event ?hg (N:=4) ?hd (cs:= #[.slice (some ⟨gw,0,none⟩) ws.length cW,.int .i64 y,.int .i64 t,.int .i64 o,.slice (some ⟨gc,0,none⟩) cards.length cC]) (t:=27) ?hr ?_;(case hd=>rfl);(case hg=>rfl);(case hr=>first|(go_simp;done)|(go_simp;rfl));intro gp hg w1 hbox hb;have BP:=aK hbox;have HCh:=aK ((Ch.refl (fun k=>k=gw∨k=gc) w).below hb);have HGp:=aK (show w.heap.size≤gp by rw [hg];exact Nat.le_refl _);have HC0:=aK ((Ch.refl (fun _=>False) w).below hb);clear hb hbox hg)|((with_reducible refine gate_dst (N:=8) rfl ?_);refine box_event ?hg (N:=8) ?hd (cs:= #[.slice none 0 0,.int .i64 0,.int .i64 0,.int .i64 0,.slice none 0 0]) (t:=27) ?hr ?_;(case hd=>rfl);(case hg=>rfl);(case hr=>first|(go_simp;done)|(go_simp;rfl));intro gr hg w2 hbox hb;have BR:=aK hbox;have HGr:=aK (show w.heap.size≤gr∧gp<gr by have:=HCh.out.size;have:=blk_lt BP.out;rw [hg];exact ⟨by omega,by omega⟩);replace BP:=aK (blk_below BP.out hb);replace HCh:=aK (HCh.out.below hb);replace HC0:=aK (HC0.out.below hb);have HO2:=aK (HO.out.ch HC0.out (fun h=>h) (fun h=>h));have c0:=(blk_cell BP.out 0).trans rfl;have c1:=(blk_cell BP.out 1).trans rfl;have c2:=(blk_cell BP.out 2).trans rfl;have c3:=(blk_cell BP.out 3).trans rfl;have c4:=(blk_cell BP.out 4).trans rfl;obtain ⟨x0,f0⟩:=HO2.out.wcell i H1.out.1.1 H1.out.1.2;clear hb hbox hg)|((with_reducible refine gate_store (t:=3) (p:=13) rfl ?_);refine store_event (t:=3) (p:=13) (v:=?vo1) (w1:=(w2.setCell ⟨gw,i.toNat,none⟩ (.int .i64 v))) ?hg ?ho ?hn ?hr ?_;(case ho=>rfl);(case hg=>rfl);(case hn=>rfl);(case hr=>first|(go_simp;done)|(go_simp;rfl));intro w3 hw;have HO3:=aK (show OM b gw cW gc cC w3 (ws.set i.toNat v) cards by rw [hw];exact HO2.out.setw i v);have HC3:=aK (show Ch (fun k=>k=gw∨k=gc) w w3 by rw [hw];exact HCh.out.set (.inl (.inl rfl)) _);have BP3:=aK (show w3.heap[gp]? =some (.cells #[.slice (some ⟨gw,0,none⟩) ws.length cW,.int .i64 y,.int .i64 t,.int .i64 o,.slice (some ⟨gc,0,none⟩) cards.length cC] 27 (0,0)) by rw [hw];exact blk_far BP.out (by have:=HGp.out;have:=HGW.out;show gp≠gw;omega) _);have BR3:=aK (show w3.heap[gr]? =some (.cells #[.slice none 0 0,.int .i64 0,.int .i64 0,.int .i64 0,.slice none 0 0] 27 (0,0)) by rw [hw];exact blk_far BR.out (by have:=HGr.out;have:=HGW.out;show gr≠gw;omega) _);clear hw x0 f0 HO2 HCh BP BR HC0;clear c0 c1 c2 c3 c4;have c0:=(blk_cell BP3.out 0).trans rfl;have c1:=(blk_cell BP3.out 1).trans rfl;have c2:=(blk_cell BP3.out 2).trans rfl;have c3:=(blk_cell BP3.out 3).trans rfl;have c4:=(blk_cell BP3.out 4).trans rfl;obtain ⟨x1,f1⟩:=HO3.out.ccell E HE.out.1 HE.out.2)|(go_at_call 79;refine (spec_l6In.calls v 1 y true _ (by rw [spec_l6In_eq,HV.out])).mono ?_;rintro e w' ⟨rfl,⟨nd,rfl⟩⟩)|((with_reducible refine gate_store (t:=4) (p:=34) rfl ?_);refine store_event (t:=4) (p:=34) (v:=?vo2) (w1:=((w3.drewN nd).setCell ⟨gc,E.toNat,none⟩ (.bool true))) ?hg ?ho ?hn ?hr ?_;(case ho=>rfl);(case hg=>rfl);(case hn=>rfl);(case hr=>first|(go_simp;done)|(go_simp;rfl));intro w4 hw;have HO4:=aK (show OM b gw cW gc cC w4 (ws.set i.toNat v) (cards.set E.toNat true) by rw [hw];exact (HO3.out.ch ((Ch.refl (fun _=>False) _).drewN nd) (fun h=>h) (fun h=>h)).setc E true);have HC4:=aK (show Ch (fun k=>k=gw∨k=gc) w w4 by rw [hw];exact (HC3.out.drewN nd).set (.inl (.inr rfl)) _);have BP4:=aK (show w4.heap[gp]? =some (.cells #[.slice (some ⟨gw,0,none⟩) ws.length cW,.int .i64 y,.int .i64 t,.int .i64 o,.slice (some ⟨gc,0,none⟩) cards.length cC] 27 (0,0)) by rw [hw];exact blk_far (blk_drewN BP3.out nd) (by have:=HGp.out;have:=HGW.out;show gp≠gc;omega) _);have BR4:=aK (show w4.heap[gr]? =some (.cells #[.slice none 0 0,.int .i64 0,.int .i64 0,.int .i64 0,.slice none 0 0] 27 (0,0)) by rw [hw];exact blk_far (blk_drewN BR3.out nd) (by have:=HGr.out;have:=HGW.out;show gr≠gc;omega) _);clear hw x1 f1 HO3 HC3 BP3 BR3;clear c0 c1 c2 c3 c4;have c0:=(blk_cell BP4.out 0).trans rfl;have c1:=(blk_cell BP4.out 1).trans rfl;have c2:=(blk_cell BP4.out 2).trans rfl;have c3:=(blk_cell BP4.out 3).trans rfl;have c4:=(blk_cell BP4.out 4).trans rfl;have z0:=(blk_cell BR4.out 0).trans rfl;have z1:=(blk_cell BR4.out 1).trans rfl;have z2:=(blk_cell BR4.out 2).trans rfl;have z3:=(blk_cell BR4.out 3).trans rfl;have z4:=(blk_cell BR4.out 4).trans rfl;have y_0:=blk_frozen BR4.out 0;have y_1:=blk_frozen BR4.out 1;have y_2:=blk_frozen BR4.out 2;have y_3:=blk_frozen BR4.out 3;have y_4:=blk_frozen BR4.out 4))
    refine bodyPost_ret (results_cell_row rfl _ _ gr 27 #[.slice (some ⟨gw,0,none⟩) ws.length cW,.int .i64 y,.int .i64 t,.int .i64 o,.slice (some ⟨gc,0,none⟩) cards.length cC] (0,0) _ rfl (blk_box5 BR4.out) Try.underlying27 rfl (by kernel_rfl)) rfl ?_;exact ⟨rfl,HO4.out.ch (Ch.box5 (Ch.refl (fun k=>k=gr) _) (.inl rfl) _ _ _ _ _) zz27 zz27,HC4.out.box5 (.inr HGr.out.1) _ _ _ _ _⟩
   ·skip
    have HV:=aK (show decide (1≤v∧v≤y)=false from decide_eq_false c2);rw [show putM ws y cards i v true=(ws.set i.toNat v,cards) from by unfold putM;rw [if_neg (fun h=>c2 h.2.2)]];go_enter Try.func44,Try.ntmps44;clear c1 c2
    go_wp2_with (first|((with_reducible refine gate_dst (N:=4) rfl ?_);refine box_event ?hg (N:=4) ?hd (cs:= #[.slice (some ⟨gw,0,none⟩) ws.length cW,.int .i64 y,.int .i64 t,.int .i64 o,.slice (some ⟨gc,0,none⟩) cards.length cC]) (t:=27) ?hr ?_;(case hd=>rfl);(case hg=>rfl);(case hr=>first|(go_simp;done)|(go_simp;rfl));intro gp hg w1 hbox hb;have BP:=aK hbox;have HCh:=aK ((Ch.refl (fun k=>k=gw∨k=gc) w).below hb);have HGp:=aK (show w.heap.size≤gp by rw [hg];exact Nat.le_refl _);have HC0:=aK ((Ch.refl (fun _=>False) w).below hb);clear hb hbox hg)|((with_reducible refine gate_dst (N:=8) rfl ?_);refine box_event ?hg (N:=8) ?hd (cs:= #[.slice none 0 0,.int .i64 0,.int .i64 0,.int .i64 0,.slice none 0 0]) (t:=27) ?hr ?_;(case hd=>rfl);(case hg=>rfl);(case hr=>first|(go_simp;done)|(go_simp;rfl));intro gr hg w2 hbox hb;have BR:=aK hbox;have HGr:=aK (show w.heap.size≤gr∧gp<gr by have:=HCh.out.size;have:=blk_lt BP.out;rw [hg];exact ⟨by omega,by omega⟩);replace BP:=aK (blk_below BP.out hb);replace HCh:=aK (HCh.out.below hb);replace HC0:=aK (HC0.out.below hb);have HO2:=aK (HO.out.ch HC0.out (fun h=>h) (fun h=>h));have c0:=(blk_cell BP.out 0).trans rfl;have c1:=(blk_cell BP.out 1).trans rfl;have c2:=(blk_cell BP.out 2).trans rfl;have c3:=(blk_cell BP.out 3).trans rfl;have c4:=(blk_cell BP.out 4).trans rfl;obtain ⟨x0,f0⟩:=HO2.out.wcell i H1.out.1.1 H1.out.1.2;clear hb hbox hg)|((with_reducible refine gate_store (t:=3) (p:=13) rfl ?_);refine store_event (t:=3) (p:=13) (v:=?vo1) (w1:=(w2.setCell ⟨gw,i.toNat,none⟩ (.int .i64 v))) ?hg ?ho ?hn ?hr ?_;(case ho=>rfl);(case hg=>rfl);(case hn=>rfl);(case hr=>first|(go_simp;done)|(go_simp;rfl));intro w3 hw;have HO3:=aK (show OM b gw cW gc cC w3 (ws.set i.toNat v) cards by rw [hw];exact HO2.out.setw i v);have HC3:=aK (show Ch (fun k=>k=gw∨k=gc) w w3 by rw [hw];exact HCh.out.set (.inl (.inl rfl)) _);have BP3:=aK (show w3.heap[gp]? =some (.cells #[.slice (some ⟨gw,0,none⟩) ws.length cW,.int .i64 y,.int .i64 t,.int .i64 o,.slice (some ⟨gc,0,none⟩) cards.length cC] 27 (0,0)) by rw [hw];exact blk_far BP.out (by have:=HGp.out;have:=HGW.out;show gp≠gw;omega) _);have BR3:=aK (show w3.heap[gr]? =some (.cells #[.slice none 0 0,.int .i64 0,.int .i64 0,.int .i64 0,.slice none 0 0] 27 (0,0)) by rw [hw];exact blk_far BR.out (by have:=HGr.out;have:=HGW.out;show gr≠gw;omega) _);clear hw x0 f0 HO2 HCh BP BR HC0;clear c0 c1 c2 c3 c4;have c0:=(blk_cell BP3.out 0).trans rfl;have c1:=(blk_cell BP3.out 1).trans rfl;have c2:=(blk_cell BP3.out 2).trans rfl;have c3:=(blk_cell BP3.out 3).trans rfl;have c4:=(blk_cell BP3.out 4).trans rfl;have z0:=(blk_cell BR3.out 0).trans rfl;have z1:=(blk_cell BR3.out 1).trans rfl;have z2:=(blk_cell BR3.out 2).trans rfl;have z3:=(blk_cell BR3.out 3).trans rfl;have z4:=(blk_cell BR3.out 4).trans rfl;have y_0:=blk_frozen BR3.out 0;have y_1:=blk_frozen BR3.out 1;have y_2:=blk_frozen BR3.out 2;have y_3:=blk_frozen BR3.out 3;have y_4:=blk_frozen BR3.out 4)|(go_at_call 79;refine (spec_l6In.calls v 1 y false _ (by rw [spec_l6In_eq,HV.out])).mono ?_;rintro e w' ⟨rfl,⟨nd,rfl⟩⟩;have HO4:=aK (HO3.out.ch ((Ch.refl (fun _=>False) _).drewN nd) (fun h=>h) (fun h=>h));have HC4:=aK (HC3.out.drewN nd);have BR4:=aK (blk_drewN BR3.out nd)))
    refine bodyPost_ret (results_cell_row rfl _ _ gr 27 #[.slice (some ⟨gw,0,none⟩) ws.length cW,.int .i64 y,.int .i64 t,.int .i64 o,.slice (some ⟨gc,0,none⟩) cards.length cC] (0,0) _ rfl (blk_box5 BR4.out) Try.underlying27 rfl (by kernel_rfl)) rfl ?_;exact ⟨rfl,HO4.out.ch (Ch.box5 (Ch.refl (fun k=>k=gr) _) (.inl rfl) _ _ _ _ _) zz27 zz27,HC4.out.box5 (.inr HGr.out.1) _ _ _ _ _⟩
  ·skip
   have d1:decide (y≤i)=false:=decide_eq_false c1
   rw [show putM ws y cards i v true=(ws.set i.toNat v,cards) from by unfold putM;rw [if_neg (by omega)]];go_enter Try.func44,Try.ntmps44;clear c1
   go_wp2_with (first|((with_reducible refine gate_dst (N:=4) rfl ?_);refine box_event ?hg (N:=4) ?hd (cs:= #[.slice (some ⟨gw,0,none⟩) ws.length cW,.int .i64 y,.int .i64 t,.int .i64 o,.slice (some ⟨gc,0,none⟩) cards.length cC]) (t:=27) ?hr ?_;(case hd=>rfl);(case hg=>rfl);(case hr=>first|(go_simp;done)|(go_simp;rfl));intro gp hg w1 hbox hb;have BP:=aK hbox;have HCh:=aK ((Ch.refl (fun k=>k=gw∨k=gc) w).below hb);have HGp:=aK (show w.heap.size≤gp by rw [hg];exact Nat.le_refl _);have HC0:=aK ((Ch.refl (fun _=>False) w).below hb);clear hb hbox hg)|((with_reducible refine gate_dst (N:=8) rfl ?_);refine box_event ?hg (N:=8) ?hd (cs:= #[.slice none 0 0,.int .i64 0,.int .i64 0,.int .i64 0,.slice none 0 0]) (t:=27) ?hr ?_;(case hd=>rfl);(case hg=>rfl);(case hr=>first|(go_simp;done)|(go_simp;rfl));intro gr hg w2 hbox hb;have BR:=aK hbox;have HGr:=aK (show w.heap.size≤gr∧gp<gr by have:=HCh.out.size;have:=blk_lt BP.out;rw [hg];exact ⟨by omega,by omega⟩);replace BP:=aK (blk_below BP.out hb);replace HCh:=aK (HCh.out.below hb);replace HC0:=aK (HC0.out.below hb);have HO2:=aK (HO.out.ch HC0.out (fun h=>h) (fun h=>h));have c0:=(blk_cell BP.out 0).trans rfl;have c1:=(blk_cell BP.out 1).trans rfl;have c2:=(blk_cell BP.out 2).trans rfl;have c3:=(blk_cell BP.out 3).trans rfl;have c4:=(blk_cell BP.out 4).trans rfl;obtain ⟨x0,f0⟩:=HO2.out.wcell i H1.out.1.1 H1.out.1.2;clear hb hbox hg)|((with_reducible refine gate_store (t:=3) (p:=13) rfl ?_);refine store_event (t:=3) (p:=13) (v:=?vo1) (w1:=(w2.setCell ⟨gw,i.toNat,none⟩ (.int .i64 v))) ?hg ?ho ?hn ?hr ?_;(case ho=>rfl);(case hg=>rfl);(case hn=>rfl);(case hr=>first|(go_simp;done)|(go_simp;rfl));intro w3 hw;have HO3:=aK (show OM b gw cW gc cC w3 (ws.set i.toNat v) cards by rw [hw];exact HO2.out.setw i v);have HC3:=aK (show Ch (fun k=>k=gw∨k=gc) w w3 by rw [hw];exact HCh.out.set (.inl (.inl rfl)) _);have BP3:=aK (show w3.heap[gp]? =some (.cells #[.slice (some ⟨gw,0,none⟩) ws.length cW,.int .i64 y,.int .i64 t,.int .i64 o,.slice (some ⟨gc,0,none⟩) cards.length cC] 27 (0,0)) by rw [hw];exact blk_far BP.out (by have:=HGp.out;have:=HGW.out;show gp≠gw;omega) _);have BR3:=aK (show w3.heap[gr]? =some (.cells #[.slice none 0 0,.int .i64 0,.int .i64 0,.int .i64 0,.slice none 0 0] 27 (0,0)) by rw [hw];exact blk_far BR.out (by have:=HGr.out;have:=HGW.out;show gr≠gw;omega) _);clear hw x0 f0 HO2 HCh BP BR HC0;clear c0 c1 c2 c3 c4;have c0:=(blk_cell BP3.out 0).trans rfl;have c1:=(blk_cell BP3.out 1).trans rfl;have c2:=(blk_cell BP3.out 2).trans rfl;have c3:=(blk_cell BP3.out 3).trans rfl;have c4:=(blk_cell BP3.out 4).trans rfl;have z0:=(blk_cell BR3.out 0).trans rfl;have z1:=(blk_cell BR3.out 1).trans rfl;have z2:=(blk_cell BR3.out 2).trans rfl;have z3:=(blk_cell BR3.out 3).trans rfl;have z4:=(blk_cell BR3.out 4).trans rfl;have y_0:=blk_frozen BR3.out 0;have y_1:=blk_frozen BR3.out 1;have y_2:=blk_frozen BR3.out 2;have y_3:=blk_frozen BR3.out 3;have y_4:=blk_frozen BR3.out 4))
   refine bodyPost_ret (results_cell_row rfl _ _ gr 27 #[.slice (some ⟨gw,0,none⟩) ws.length cW,.int .i64 y,.int .i64 t,.int .i64 o,.slice (some ⟨gc,0,none⟩) cards.length cC] (0,0) _ rfl (blk_box5 BR3.out) Try.underlying27 rfl (by kernel_rfl)) rfl ?_;exact ⟨rfl,HO3.out.ch (Ch.box5 (Ch.refl (fun k=>k=gr) _) (.inl rfl) _ _ _ _ _) zz27 zz27,HC3.out.box5 (.inr HGr.out.1) _ _ _ _ _⟩
end Go.Proofs.Ytnlieahdakafbaa.K
namespace Go.Proofs.Ytnlieahdakafbaa.Pure
open Go.RowKit Go.Proofs.Ytnlieahdakafbaa.K Go.Proofs.YtnlieahdakafbaaW.PrintWords Go.Proofs.YtnlieahdakafbaaW.PrintLast Go.Proofs.YtnlieahdakafbaaW.PrintMore
set_option linter.unusedVariables false
set_option linter.unusedSimpArgs false
theorem fields_same (cs:Cs): ∀(k:Nat) (a:Int),spec_l2Fields.f k cs a=impl_classFields.f k cs a
  |0,a=>by rw [spec_l2Fields.f,impl_classFields.f]
  |k+1,a=>by rw [spec_l2Fields.f,impl_classFields.f,fields_same cs k]
theorem csOk_two {cs:Cs} (h:csOk cs=true) {i:Int} (h0:0≤i) (h1:i<cs.length):(flds cs i).length≤2:=by
 have h2:=csOk_at h h0 h1;unfold clsOk at h2;simp only [Bool.and_eq_true] at h2;have h3:=h2.2;by_cases c0:i=0
 ·rw [if_pos c0, decide_eq_true_eq] at h3
  rw [c0,h3.2];simp
 rw [if_neg c0] at h3;by_cases c1:i=1
 ·rw [if_pos c1, decide_eq_true_eq] at h3
  rw [c1,h3.2];simp
 rw [if_neg c1,decide_eq_true_eq] at h3;exact h3.2
theorem classFields_ev {cs:Cs} (h:csOk cs=true): ∀a:Int,0≤a→a<cs.length→∃fs,fs.length≤2*a.toNat∧∀k,a.toNat+1≤k→impl_classFields.f k cs a=some fs:=by
 refine cls_ind h ⟨[],by simp,fun k hk=>?_⟩ ?_
 ·obtain ⟨k, rfl⟩ : ∃ m, k = m + 1 := ⟨k - 1, by omega⟩
  rw [impl_classFields.f,if_pos rfl]
 ·intro a ha hl ⟨fs, hfs, hk⟩
  have hs:=csOk_sup h ha hl;have h2:=csOk_two h (by omega) hl;refine ⟨fs++flds cs a,by rw [List.length_append];omega,fun k hk2=>?_⟩;obtain ⟨k,rfl⟩: ∃m,k=m+1:=⟨k - 1,by omega⟩;have e:=hk k (by omega);rw [impl_classFields.f,if_neg (by omega),if_pos (by omega),if_pos hl];show ((impl_classFields.f k cs (sup cs a)).bind fun t=>if t.length+(flds cs a).length<17592186044416 then some (t++flds cs a) else none)=_
  rw [e,Option.bind_some,if_pos (by have:=csOk_len h;omega)]
def cfl (cs:Cs) (a:Int):List Int:=(impl_classFields.f 10 cs a).getD []
theorem cfl_eq {cs:Cs} (h:csOk cs=true) {a:Int} (h0:0≤a) (h1:a<cs.length):(cfl cs a).length≤8∧∀k,10≤k→impl_classFields.f k cs a=some (cfl cs a):=by
 have hl:=csOk_len h;obtain ⟨fs,hf,hk⟩:=classFields_ev h a h0 h1;have e:cfl cs a=fs:=by unfold cfl;rw [hk 10 (by omega)];rfl
 rw [e];exact ⟨by omega,fun k hk2=>hk k (by omega)⟩
def allF (cs:Cs):List (List Int):=(List.range cs.length).map (fun i:Nat=>cfl cs i)
theorem allF_len (cs:Cs):(allF cs).length=cs.length:=by unfold allF;simp
theorem allF_at (cs:Cs) {c:Int} (h0:0≤c) (h1:c<cs.length):rdL (allF cs) c=cfl cs c:=by
 have h2:c.toNat<cs.length:=by omega
 unfold rdL allF;rw [List.getD_eq_getElem?_getD,List.getElem?_map,List.getElem?_range h2];show cfl cs ((c.toNat:Nat):Int)=_
 rw [Int.toNat_of_nonneg h0]
theorem allF_short {cs:Cs} (h:csOk cs=true):FShort (allF cs):=by
 intro c h0 h1;rw [allF_len] at h1;rw [allF_at cs h0 h1];have:=(cfl_eq h h0 h1).1
 omega
theorem allF_all {cs:Cs} (h:csOk cs=true):(allF cs).all (fun r=>decide (r.length≤4294967296))=true:=by
 rw [List.all_eq_true];intro r hr;obtain ⟨i,hi,rfl⟩:=List.getElem_of_mem hr;have h2:=allF_short h (i:Int) (by omega) (by omega);unfold rdL at h2;rw [Int.toNat_natCast,List.getD_eq_getElem?_getD,List.getElem?_eq_getElem hi] at h2;exact decide_eq_true h2
theorem allFields_l0 {cs:Cs} (h:csOk cs=true) (d:Nat): ∀(k i:Nat),i+d=cs.length→d+11≤k→impl_allFields.l0 k cs ((List.range i).map (fun j:Nat=>cfl cs j)) cs.length i=some (allF cs):=by
 have hl:=csOk_len h
 induction d with
 |zero=>
  intro k i hi hk;obtain ⟨k,rfl⟩: ∃m,k=m+1:=⟨k - 1,by omega⟩;rw [impl_allFields.l0,if_neg (by omega)];unfold allF;rw [show i=cs.length by omega]
 |succ d ih=>
  intro k i hi hk;obtain ⟨k,rfl⟩: ∃m,k=m+1:=⟨k - 1,by omega⟩;rw [impl_allFields.l0,if_pos (by omega),(cfl_eq h (a:=(i:Int)) (by omega) (by omega)).2 k (by omega)];simp only [Option.bind_some]
  rw [if_pos (by simp;omega),wrap_inc (n:=1000) (by omega) (by omega) (by omega)];have:=ih k (i+1) (by omega) (by omega)
  rw [List.range_succ,List.map_append] at this;exact this
theorem allFields_eq {cs:Cs} (h:csOk cs=true) (k:Nat) (hk:20≤k):impl_allFields.f k cs=some (allF cs):=by
 have hl:=csOk_len h;have:=allFields_l0 h cs.length k 0 (by omega) (by omega)
 unfold impl_allFields.f;exact this
theorem measN_c {cs:Cs} {c:Int} (n:Int) (h0:0≤c) (h1:c<cs.length):measN (allF cs) c n=1+(cfl cs c).length:=by
  unfold measN;rw [if_neg (by omega),allF_len,if_pos ⟨h0,h1⟩,allF_at cs h0 h1]
theorem l21Size_eq {cs:Cs} (h:csOk cs=true) {ws:List Int} (hw:ws.length≤1048576) {i e:Int} (h0:0≤i) (he:e≤ws.length) (k:Nat) (hk:20≤k):
  spec_l21Size.f k cs ws i e=some (if i<e then mstep ws (allF cs) e i else 0):=by
 have hl:=csOk_len h;unfold spec_l21Size.f;by_cases c0:i<e
 case neg=>rw [if_pos (by omega),if_neg c0]
 case pos=>
 rw [if_neg (by omega),if_pos h0,if_pos (by omega),spec_l6In_eq,if_pos c0,wrap64_of (n:=(cs.length:Int) - 1) (by omega) (by omega)];simp only [Option.bind_some,decide_eq_true_eq]
 obtain ⟨c,hc⟩: ∃c,c=rd ws i:=⟨_,rfl⟩;unfold mstep;rw [←hc];by_cases c1:0≤c∧c≤(cs.length:Int) - 1
 ·have c1' : c < (cs.length : Int) := by omega
  obtain ⟨f1,f2⟩:=cfl_eq h c1.1 c1';rw [if_pos c1,fields_same,f2 k (by omega),if_neg (by omega),measN_c 0 c1.1 c1'];simp only [Option.bind_some]
  rw [wrap64_of (n:=1+((cfl cs c).length:Int)) (by omega) (by omega),wrap64_of (n:=i+(1+((cfl cs c).length:Int))) (by omega) (by omega)];by_cases c2:i+(1+((cfl cs c).length:Int))>e
  ·rw [if_pos c2,if_neg (by omega)]
  ·rw [if_neg c2,if_pos (by omega)]
 rw [if_neg c1];obtain ⟨k,rfl⟩: ∃m,k=m+2:=⟨k - 2,by omega⟩;have w1:wrap64 (i+1)=i+1:=wrap64_of (by omega) (by omega)
 have key: ∀b:Bool,(b=true↔(c= -1∨c= -2))→spec_l21Size.j0 (k+2) ws i e 0 b=some (if c<0 then (if i+1<e then (if measN (allF cs) c (rd ws (i+1))≤e - i then measN (allF cs) c (rd ws (i+1)) else 0) else 0) else (if measN (allF cs) c 0≤e - i then measN (allF cs) c 0 else 0)):=by
  intro b hb;rw [spec_l21Size.j0];by_cases c2:c= -1∨c= -2
  ·rw [if_pos (hb.mpr c2), w1, if_pos (show c < 0 by omega)]
   by_cases c3:i+1≥e
   ·rw [if_pos c3,spec_l21Size.j1,if_pos rfl,if_neg (show¬i+1<e by omega)]
   rw [if_neg c3,if_pos (show 0≤i+1 by omega),if_pos (show i+1<(ws.length:Int) by omega),spec_l6In_eq,if_pos (show i+1<e by omega)];simp only [Option.bind_some]
   obtain ⟨n,hn⟩: ∃n,n=rd ws (i+1):=⟨_,rfl⟩;rw [←hn];have m1:measN (allF cs) c n=if 0≤n∧n≤6 then 2+n else 0:=by unfold measN;rw [if_pos c2]
   rw [m1,spec_l21Size.j1];by_cases c4:0≤n∧n≤6
   ·rw [decide_eq_true c4, if_neg (by simp), w1, if_pos (show 0 ≤ i + 1 by omega), if_pos (show i + 1 < (ws.length : Int) by omega), if_pos c4, ← hn, wrap64_of (n := 2 + n) (by omega) (by omega), wrap64_of (n := i + (2 + n)) (by omega) (by omega)]
    by_cases c5:i+(2+n)>e
    ·rw [if_pos c5,if_neg (by omega)]
    ·rw [if_neg c5,if_pos (by omega)]
   ·rw [decide_eq_false c4,if_pos (by simp),if_neg c4,if_pos (by omega)]
  ·rw [if_neg (fun hh => c2 (hb.mp hh)), wrap64_of (n := i + 0) (by omega) (by omega), if_neg (by omega)]
   have m0: ∀n,measN (allF cs) c n=0:=fun n=>by unfold measN;rw [if_neg c2,allF_len,if_neg (by omega)]
   rw [m0,m0];by_cases c3:c<0
   ·rw [if_pos c3]
    by_cases c4:i+1<e
    ·rw [if_pos c4,if_pos (by omega)]
    ·rw [if_neg c4]
   ·rw [if_neg c3,if_pos (by omega)]
 by_cases c2:c= -1
 ·rw [if_pos c2,key true (by simp [c2])]
 ·rw [if_neg c2,key _ (by simp [c2])]
def pw (ws:List Int) (F:List (List Int)) (e:Int):Nat→Int→List Int×Bool
  |0,_=>([],true)
  |n+1,i=>if i<e then (if mstep ws F e i=0 then ([],false) else (i::(pw ws F e n (i+mstep ws F e i)).1,(pw ws F e n (i+mstep ws F e i)).2)) else ([],true)
theorem pw_mwalk (ws:List Int) (F:List (List Int)) (e:Int): ∀(n:Nat) (i:Int) (acc:List Int) (q:Nat),(e - i).toNat≤n→n<q→mwalk ws F e q i acc=some ((pw ws F e n i).2,acc++(pw ws F e n i).1.map (· +1))
 |0,i,acc,q,h,hq=>by
  obtain ⟨q,rfl⟩: ∃m,q=m+1:=⟨q - 1,by omega⟩;rw [mwalk,if_neg (by omega),pw];simp
 | n + 1, i, acc, q, h, hq => by
  obtain ⟨q,rfl⟩: ∃m,q=m+1:=⟨q - 1,by omega⟩;rw [mwalk,pw];by_cases c:i<e
  ·rw [if_pos c, if_pos c]
   by_cases c2:mstep ws F e i=0
   ·rw [if_pos c2,if_pos c2];simp
   ·rw [if_neg c2, if_neg c2]
    have:=mwalk_lt ws F e i
    rw [pw_mwalk ws F e n _ _ q (by omega) (by omega)];simp
  ·rw [if_neg c,if_neg c];simp
theorem pw_len (ws:List Int) (F:List (List Int)) (e:Int): ∀(n:Nat) (i:Int),(pw ws F e n i).1.length≤n
 |0,i=>by simp [pw]
 | n + 1, i => by
  rw [pw]
  split
  ·split
   ·simp
   ·have := pw_len ws F e n (i + mstep ws F e i)
    simp only [List.length_cons];omega
  ·simp
theorem pw_mem (ws:List Int) (F:List (List Int)) (e:Int): ∀(n:Nat) (i:Int),∀x∈(pw ws F e n i).1,i≤x∧x<e∧0<mstep ws F e x∧mstep ws F e x≤e - x
 |0,i=>by simp [pw]
 | n + 1, i => by
  rw [pw];intro x hx
  split at hx
  case isTrue c=>
   split at hx
   case isTrue c2=>simp at hx
   case isFalse c2=>
    have hl:=mwalk_lt ws F e i;simp only [List.mem_cons] at hx;rcases hx with rfl|hx
    ·omega
    ·have := pw_mem ws F e n _ x hx
     omega
  case isFalse c=>simp at hx
theorem pw_sorted (ws:List Int) (F:List (List Int)) (e:Int): ∀(n:Nat) (i:Int),(pw ws F e n i).1.Pairwise (· < ·)
 |0,i=>by simp [pw]
 | n + 1, i => by
  rw [pw]
  split
  case isTrue c=>
   split
   case isTrue c2=>simp
   case isFalse c2=>
    have hl:=mwalk_lt ws F e i;refine List.Pairwise.cons (fun x hx=>?_) (pw_sorted ws F e n _);have:=pw_mem ws F e n _ x hx
    omega
  case isFalse c=>simp
theorem pw_part {cs:Cs} (h:csOk cs=true) {ws:List Int} (hw:ws.length≤1048576) {e:Int} (he:e≤ws.length): ∀(n:Nat) (i:Int) (acc:List Int) (k:Nat),0≤i→(e - i).toNat≤n→n+21≤k→acc.length+n<17592186044416→
  spec_l21Part.l0 k cs ws i e acc=some (acc++(pw ws (allF cs) e n i).1,(pw ws (allF cs) e n i).2)
 |0,i,acc,k,h0,hn,hk,ha=>by
  obtain ⟨k,rfl⟩: ∃m,k=m+1:=⟨k - 1,by omega⟩;rw [spec_l21Part.l0,if_neg (by omega),pw];simp
 | n + 1, i, acc, k, h0, hn, hk, ha => by
  obtain ⟨k,rfl⟩: ∃m,k=m+1:=⟨k - 1,by omega⟩;rw [spec_l21Part.l0,pw];by_cases c:i<e
  ·rw [if_pos c, if_pos c, l21Size_eq h hw h0 he k (by omega), if_pos c]
   simp only [Option.bind_some]
   by_cases c2:mstep ws (allF cs) e i=0
   ·rw [if_pos c2,if_pos c2];simp
   ·rw [if_neg c2, if_neg c2, if_pos (by omega)]
    have hl:=mwalk_lt ws (allF cs) e i;rw [wrap64_of (by omega) (by omega),pw_part h hw he n _ _ k (by omega) (by omega) (by omega) (by rw [List.length_append,List.length_singleton];omega)];simp
  ·rw [if_neg c,if_neg c];simp
theorem rd_mem {xs:List Int} {i:Nat} (h:i<xs.length):rd xs (i:Int)=xs[i]:=by
  rw [rd_cast,List.getD_eq_getElem?_getD,List.getElem?_eq_getElem h];rfl
theorem sorted_lt {xs:List Int} (h:xs.Pairwise (· < ·)) {i j:Nat} (hi:i<j) (hj:j<xs.length):xs[i]'(by omega)<xs[j]:=List.pairwise_iff_getElem.mp h i j (by omega) hj hi
theorem cmp_Less_eq (a b:Int):cmp_Less_int.f a b=some (decide (a<b)):=by
  unfold cmp_Less_int.f cmp_isNaN_int.f;rw [Option.bind_some,show (a !=a)=false from by simp,if_neg (by simp)]
theorem search_l0 {xs:List Int} (hs:xs.Pairwise (· < ·)) (hl:xs.length≤1048576) (v:Int) (d:Nat): ∀(lo hi k:Nat),hi - lo≤d→lo≤hi→hi≤xs.length→d+2≤k→(∀i (h:i<xs.length),i<lo→xs[i]<v)→(∀i (h:i<xs.length),hi≤i→v≤xs[i])→
  ∃p:Nat,p≤xs.length∧slices_BinarySearch_int_int.l0 k xs v xs.length lo hi=some ((p:Int),decide (v∈xs))∧(∀i (h:i<xs.length),i<p→xs[i]<v)∧(∀i (h:i<xs.length),p≤i→v≤xs[i]):=by
 induction d with
 | zero =>
  intro lo hi k hd hlh hhi hk h1 h2;obtain ⟨k,rfl⟩: ∃m,k=m+1:=⟨k - 1,by omega⟩;obtain rfl:lo=hi:=by omega
  refine ⟨lo,hhi,?_,h1,h2⟩;rw [slices_BinarySearch_int_int.l0,if_neg (by omega)];by_cases c:lo<xs.length
  ·rw [if_pos (by omega), if_pos (by omega), if_pos (by omega), rd_mem c]
   by_cases c2:xs[lo]=v
   ·rw [if_pos c2,decide_eq_true (by rw [←c2];exact List.getElem_mem c)]
   ·have hv := h2 lo c (Nat.le_refl _)
    rw [if_neg c2];simp only [slices_isNaN_int.f,Option.bind_some]
    have nm: ¬v∈xs:=fun hm=>by
     obtain ⟨j,hj,e⟩:=List.getElem_of_mem hm;rcases Nat.lt_trichotomy j lo with q|q|q
     ·have:=h1 j hj q;omega
     ·subst q;exact c2 e
     ·have:=sorted_lt hs q hj;omega
    rw [decide_eq_false nm];simp
  ·rw [if_neg (by omega)]
   have nm: ¬v∈xs:=fun hm=>by
    obtain ⟨j,hj,e⟩:=List.getElem_of_mem hm;have:=h1 j hj (by omega);omega
   rw [decide_eq_false nm]
 | succ d ih =>
  intro lo hi k hd hlh hhi hk h1 h2;by_cases c:lo=hi
  ·subst c
   exact ih lo lo k (by omega) (by omega) hhi (by omega) h1 h2
  obtain ⟨k,rfl⟩: ∃m,k=m+1:=⟨k - 1,by omega⟩;obtain ⟨m,hm⟩: ∃m,m=(lo+hi)/2:=⟨_,rfl⟩;have hm2:m<xs.length:=by omega
  have hm3:lo≤m:=by omega
  have hm4:m<hi:=by omega
  have e1:wrap64 ((lo:Int)+hi)=((lo+hi:Nat):Int):=by rw [wrap64_of (by omega) (by omega)];omega
  have e2:IntKind.u64.wrap ((lo+hi:Nat):Int)=((lo+hi:Nat):Int):=by rw [IntKind.wrap_u64];omega
  have e3:wrap64 (((lo+hi:Nat):Int)/2)=(m:Int):=by
   have e4:((lo+hi:Nat):Int)/2=(m:Int):=by rw [hm];exact (Int.natCast_ediv (lo+hi) 2).symm
   rw [e4];exact wrap64_of (by omega) (by omega)
  clear hm;rw [slices_BinarySearch_int_int.l0,if_pos (by omega),e1,e2,e3,if_pos (by omega),if_pos (by omega),rd_mem hm2];by_cases c2:xs[m]<v
  ·have hc : cmp_Less_int.f xs[m] v = some true := by rw [cmp_Less_eq, decide_eq_true c2]
   rw [hc];simp only [Option.bind_some,if_true]
   rw [wrap_inc (n:=1048577) (by omega) (by omega) (by omega)]
   have:=ih (m+1) hi k (by omega) (by omega) hhi (by omega) (fun i h hi'=>by
    rcases Nat.lt_or_ge i m with q|q
    ·have:=sorted_lt hs q hm2;omega
    ·obtain rfl : i = m := by omega
     exact c2) h2
   rw [show ((m+1:Nat):Int)=(m:Int)+1 by omega] at this;exact this
  ·have hc : cmp_Less_int.f xs[m] v = some false := by rw [cmp_Less_eq, decide_eq_false c2]
   rw [hc];simp only [Option.bind_some]
   rw [if_neg (by simp)]
   exact ih lo m k (by omega) (by omega) (by omega) (by omega) h1 (fun i h hi'=>by
    rcases Nat.eq_or_lt_of_le hi' with q|q
    ·subst q;omega
    ·have:=sorted_lt hs q h;omega)
theorem search_eq {xs:List Int} (hs:xs.Pairwise (· < ·)) (hl:xs.length≤1048576) (v:Int): ∃p:Nat,p≤xs.length∧(∀k,xs.length+2≤k→slices_BinarySearch_int_int.f k xs v=some ((p:Int),decide (v∈xs)))∧(∀i (h:i<xs.length),i<p→xs[i]<v)∧(∀i (h:i<xs.length),p≤i→v≤xs[i]):=by
 obtain ⟨p,hp,he,h1,h2⟩:=search_l0 hs hl v xs.length 0 xs.length (xs.length+2) (by omega) (by omega) (by omega) (by omega) (fun i h hi=>by omega) (fun i h hi=>by omega);refine ⟨p,hp,fun k hk=>?_,h1,h2⟩;have:=at_rounds (g:=fun k=>slices_BinarySearch_int_int.f k xs v) (fun k=>slices_BinarySearch_int_int.mono xs v k) hk (r:=((p:Int),decide (v∈xs))) (by unfold slices_BinarySearch_int_int.f;exact he)
 exact this
structure Bnd (cs:Cs) (ws:List Int) (y t o:Int) (cards:List Bool):Prop where
 ok:csOk cs=true
 y0:0≤y
 y1:y≤40
 n0:14≤(ws.length:Int) - y
 n1:(ws.length:Int) - y≤120
 t0:0≤t
 t1:t≤y
 o0:y≤o
 o1:o≤ws.length
 cd:(cards.length:Int)=((ws.length:Int) - y+3)/4
structure Wlk (cs:Cs) (ws:List Int) (W:List Int):Prop where
 mem: ∀x∈W,∃e:Int,e≤ws.length∧0≤x∧x<e∧0<mstep ws (allF cs) e x∧mstep ws (allF cs) e x≤e - x
 srt:W.Pairwise (· < ·)
 len:W.length≤200
def startsL (W:List Int) (n:Nat):List Bool:=(List.range n).map (fun j:Nat=>decide ((j:Int)∈W))
theorem startsL_len (W:List Int) (n:Nat):(startsL W n).length=n:=by simp [startsL]
theorem startsL_at (W:List Int) (n:Nat) {j:Int} (h0:0≤j) (h1:j<n):rdOf false (startsL W n) j=decide (j∈W):=by
 unfold rdOf startsL;rw [List.getD_eq_getElem?_getD,List.getElem?_map,List.getElem?_range (by omega)];show decide (((j.toNat:Nat):Int)∈W)=_
 rw [Int.toNat_of_nonneg h0]
theorem starts_l0 (W:List Int) (n:Nat) (hW: ∀x∈W,0≤x∧x<(n:Int)) (hl:W.length≤1048576) (d:Nat): ∀(k i:Nat) (S:List Bool),i+d=W.length→d<k→S.length=n→(∀j:Nat,j<n→S.getD j false=decide ((j:Int)∈W.take i))→
  spec_l21Starts.l0 k W S i=some (startsL W n):=by
 induction d with
 |zero=>
  intro k i S hi hk hS hj;obtain ⟨k,rfl⟩: ∃m,k=m+1:=⟨k - 1,by omega⟩;rw [spec_l21Starts.l0,if_neg (by omega)]
  congr 1
  refine List.ext_getElem (by rw [hS,startsL_len]) (fun j h1 h2=>?_);have:=hj j (by omega)
  rw [List.getD_eq_getElem?_getD,List.getElem?_eq_getElem h1,show i=W.length by omega,List.take_length] at this;have e2:(startsL W n)[j]=decide ((j:Int)∈W):=by simp [startsL]
  rw [e2];exact this
 | succ d ih =>
  intro k i S hi hk hS hj;obtain ⟨k,rfl⟩: ∃m,k=m+1:=⟨k - 1,by omega⟩;have hlt:i<W.length:=by omega
  have hx:=hW W[i] (List.getElem_mem hlt);rw [spec_l21Starts.l0,if_pos (by omega),if_pos (by omega),rd_mem hlt,if_pos hx.1,if_pos (by rw [hS];exact hx.2),wrap_inc (n:=1048577) (by omega) (by omega) (by omega)]
  have:=ih k (i+1) (S.set W[i].toNat true) (by omega) (by omega) (by rw [List.length_set,hS]) (fun j hj2=>by
   have h3:=hj j hj2;rw [List.take_succ_eq_append_getElem hlt];rw [List.getD_eq_getElem?_getD] at h3 ⊢;rw [List.getElem?_set];by_cases q:W[i].toNat=j
   ·rw [if_pos q, if_pos (by omega)]
    have:(j:Int)∈W.take i++[W[i]]:=by rw [List.mem_append,List.mem_singleton];right;omega
    rw [decide_eq_true this];rfl
   ·rw [if_neg q, h3]
    have:(j:Int)∈W.take i++[W[i]]↔(j:Int)∈W.take i:=by
     rw [List.mem_append,List.mem_singleton]
     constructor
     ·rintro (z | z)
      ·exact z
      ·omega
     ·exact Or.inl
    simp only [this])
  rw [show ((i+1:Nat):Int)=(i:Int)+1 by omega] at this;exact this
theorem starts_eq {W:List Int} {n:Nat} (hW: ∀x∈W,0≤x∧x<(n:Int)) (hl:W.length≤1000) (hn:n≤1048576) (k:Nat) (hk:1001≤k):spec_l21Starts.f k n W=some (startsL W n):=by
 unfold spec_l21Starts.f;rw [if_pos (by omega),if_pos (by omega),Int.toNat_natCast];have:=starts_l0 W n hW (by omega) W.length k 0 (List.replicate n false) (by omega) (by omega) (by simp) (fun j hj=>by simp [List.getD_eq_getElem?_getD,hj])
 exact this
def ldB (cs:Cs) (c k:Int):Bool:=if c= -1 then false else if c= -2 then true else (rd (cfl cs c) k !=1)
theorem thing_facts {cs : Cs} {ws : List Int} {y t o : Int} {cards : List Bool} (hb : Bnd cs ws y t o cards) {W : List Int} (hw : Wlk cs ws W) (m : Mm) (hm : m = ⟨ws, y, t, o, cards, allF cs, W.map (· + 1)⟩) {x : Int} (hx : x ∈ W) :
    ∃ c hd cnt : Int, c = rd ws x ∧ 0 ≤ x ∧ (hd = 1 ∨ hd = 2) ∧ 0 ≤ cnt ∧ cnt ≤ 8 ∧ x + hd + cnt ≤ ws.length ∧ thing_count.f m (x + 1) = some cnt ∧ thing_first.f m (x + 1) = some (x + hd) ∧ spec_l21Head.f c = some hd ∧
      (∀k,20≤k→spec_l21Size.f k cs ws x ws.length=some (hd+cnt))∧(∀k,0≤k→k<cnt→thing_leads.f m (x+1) k=some (ldB cs c k))∧(c= -1∨c= -2∨(0≤c∧c<cs.length∧hd=1∧cnt=(cfl cs c).length)):=by
  obtain ⟨e,he,h0,h1,h2,h3⟩:=hw.mem x hx;have n0:=hb.n0;have n1:=hb.n1;have y0:=hb.y0;have y1:=hb.y1;have hl:=csOk_len hb.ok
  have hc:thing_class.f m (x+1)=some (rd ws x):=by
    unfold thing_class.f;rw [hm];show (if 1≤x+1∧x+1≤(ws.length:Int)∧ws.length≤281474976710656 then some (rd ws (x+1 - 1)) else none)=_
    rw [if_pos (by omega),show x+1 - 1=x by omega]
  obtain ⟨c,hcc⟩: ∃c,c=rd ws x:=⟨_,rfl⟩;rw [←hcc] at hc
  have hsz: ∀k,20≤k→spec_l21Size.f k cs ws x ws.length=some (mstep ws (allF cs) ws.length x):=fun k hk=>by
    rw [l21Size_eq hb.ok (by omega) h0 (Int.le_refl _) k hk,if_pos (by omega)]
  by_cases c0:c<0
  · have hs : mstep ws (allF cs) e x = 2 + rd ws (x + 1) ∧ (c = -1 ∨ c = -2) ∧ x + 1 < e ∧ 0 ≤ rd ws (x + 1) ∧ rd ws (x + 1) ≤ 6 := by
      unfold mstep at h2 ⊢;rw [←hcc] at h2 ⊢;rw [if_pos c0] at h2 ⊢;by_cases c1:x+1<e
      · rw [if_pos c1] at h2 ⊢
        by_cases c2:c= -1∨c= -2
        · by_cases c3 : 0 ≤ rd ws (x + 1) ∧ rd ws (x + 1) ≤ 6
          · have m1 : measN (allF cs) c (rd ws (x + 1)) = 2 + rd ws (x + 1) := by unfold measN; rw [if_pos c2, if_pos c3]
            rw [m1] at h2 ⊢
            split at h2
            · rename_i z;rw [if_pos z];exact ⟨rfl,c2,c1,c3.1,c3.2⟩
            · omega
          · have m1 : measN (allF cs) c (rd ws (x + 1)) = 0 := by unfold measN; rw [if_pos c2, if_neg c3]
            rw [m1] at h2
            split at h2<;>omega
        · have m1 : measN (allF cs) c (rd ws (x + 1)) = 0 := by unfold measN; rw [if_neg c2, if_neg (by omega)]
          rw [m1] at h2
          split at h2<;>omega
      · rw [if_neg c1] at h2;omega
    obtain ⟨s1,s2,s3,s4,s5⟩:=hs;refine ⟨c,2,rd ws (x+1),hcc,h0,Or.inr rfl,s4,by omega,by omega,?_,?_,?_,?_,?_,?_⟩
    · unfold thing_count.f
      rw [hc,Option.bind_some,if_pos c0,hm];show (if x+1<(ws.length:Int) then some (rd ws (x+1)) else none)=_
      rw [if_pos (by omega)]
    · unfold thing_first.f
      rw [hc,Option.bind_some,if_pos c0,show x+1+1=x+2 by omega]
    · unfold spec_l21Head.f;rw [if_pos c0]
    · intro k hk
      rw [hsz k hk];unfold mstep;rw [←hcc,if_pos c0,if_pos (by omega)];have m1:measN (allF cs) c (rd ws (x+1))=2+rd ws (x+1):=by unfold measN;rw [if_pos s2,if_pos ⟨s4,s5⟩]
      rw [m1,if_pos (by omega)]
    · intro k _ _
      unfold thing_leads.f ldB;rw [hc,Option.bind_some];rcases s2 with z|z
      · rw [if_pos z,if_pos z]
      · rw [if_neg (by omega),if_pos z,if_neg (by omega),if_pos z]
    · rcases s2 with z | z
      · exact Or.inl z
      · exact Or.inr (Or.inl z)
  · have c1 : c < cs.length ∧ mstep ws (allF cs) e x = 1 + (cfl cs c).length := by
      unfold mstep at h2 ⊢;rw [←hcc] at h2 ⊢;rw [if_neg c0] at h2 ⊢;by_cases z:c<(cs.length:Int)
      · rw [measN_c 0 (by omega) z] at h2 ⊢
        split at h2
        · rename_i q;rw [if_pos q];exact ⟨z,rfl⟩
        · omega
      · have m1 : measN (allF cs) c 0 = 0 := by unfold measN; rw [if_neg (by omega), allF_len, if_neg (by omega)]
        rw [m1] at h2
        split at h2<;>omega
    have hf:=cfl_eq hb.ok (a:=c) (by omega) c1.1;refine ⟨c,1,(cfl cs c).length,hcc,h0,Or.inl rfl,by omega,by omega,by omega,?_,?_,?_,?_,?_,Or.inr (Or.inr ⟨by omega,c1.1,rfl,rfl⟩)⟩
    · unfold thing_count.f
      rw [hc,Option.bind_some,if_neg c0,hm];show (if c<((allF cs).length:Int)∧(allF cs).length≤281474976710656 then some (((rdL (allF cs) c).length:Nat):Int) else none)=_
      rw [allF_len,if_pos ⟨c1.1,by omega⟩,allF_at cs (by omega) c1.1]
    · unfold thing_first.f
      rw [hc,Option.bind_some,if_neg c0]
    · unfold spec_l21Head.f;rw [if_neg c0]
    · intro k hk
      rw [hsz k hk];unfold mstep;rw [←hcc,if_neg c0,measN_c 0 (by omega) c1.1,if_pos (by omega)]
    · intro k k0 k1
      unfold thing_leads.f ldB;have q1: ¬c= -1:=by omega
      have q2: ¬c= -2:=by omega
      rw [hc,Option.bind_some];simp only [if_neg q1,if_neg q2]
      rw [hm];show (if 0≤c∧c<((allF cs).length:Int)∧0≤k∧k<((rdL (allF cs) c).length:Int) then some (rd (rdL (allF cs) c) k !=1) else none)=_
      rw [allF_len,allF_at cs (by omega) c1.1,if_pos ⟨by omega,c1.1,k0,k1⟩]
def refsL (cs:Cs) (c hd s:Int):List Bool:=(List.range s.toNat).map (fun j:Nat=>decide (hd≤j)&&ldB cs c (j - hd))
theorem refsL_at (cs:Cs) (c hd s:Int) {j:Int} (h0:hd≤j) (h00:0≤j) (h1:j<s):rdOf false (refsL cs c hd s) j=ldB cs c (j - hd):=by
 unfold rdOf refsL;rw [List.getD_eq_getElem?_getD,List.getElem?_map,List.getElem?_range (by omega)];show (decide (hd≤((j.toNat:Nat):Int))&&ldB cs c (((j.toNat:Nat):Int) - hd))=_
 rw [Int.toNat_of_nonneg h00,decide_eq_true h0,Bool.true_and]
theorem refs_l0 {cs:Cs} (h:csOk cs=true) {c hd:Int} {s:Nat} (hs:s≤100) (hh:hd=1∨hd=2) (hc:c= -1∨c= -2∨(0≤c∧c<cs.length∧hd=1∧(s:Int)=1+(cfl cs c).length)) (d:Nat): ∀(k j:Nat) (R:List Bool),j+d=s→hd≤(j:Int)→d+30≤k→R.length=s→(∀i:Nat,i<s→R.getD i false=(decide (hd≤(i:Int)∧i<j)&&ldB cs c ((i:Int) - hd)))→
  spec_l21Refs.l0 k cs R c j=some (refsL cs c hd s):=by
 induction d with
 |zero=>
  intro k j R hj hj2 hk hR hi;obtain ⟨k,rfl⟩: ∃m,k=m+1:=⟨k - 1,by omega⟩;rw [spec_l21Refs.l0,if_neg (by omega)]
  congr 1
  refine List.ext_getElem (by rw [hR];simp [refsL]) (fun i h1 h2=>?_);have e1:=hi i (by omega);rw [List.getD_eq_getElem?_getD,List.getElem?_eq_getElem h1] at e1;have e2:(refsL cs c hd s)[i]=(decide (hd≤(i:Int))&&ldB cs c ((i:Int) - hd)):=by simp [refsL]
  rw [e2];have e3:(hd≤(i:Int)∧i<j)↔hd≤(i:Int):=⟨fun z=>z.1,fun z=>⟨z,by omega⟩⟩
  simp only [e3] at e1;exact e1
 | succ d ih =>
  intro k j R hj hj2 hk hR hi;obtain ⟨k,rfl⟩: ∃m,k=m+1:=⟨k - 1,by omega⟩
  have step: ∀b,b=ldB cs c ((j:Int) - hd)→spec_l21Refs.l0 k cs (R.set ((j:Int)).toNat b) c (wrap64 ((j:Int)+1))=some (refsL cs c hd s):=fun b hbb=>by
   rw [wrap_inc (n:=1000) (by omega) (by omega) (by omega),Int.toNat_natCast]
   have:=ih k (j+1) (R.set j b) (by omega) (by omega) (by omega) (by rw [List.length_set,hR]) (fun i hi2=>by
    have h3:=hi i hi2;rw [List.getD_eq_getElem?_getD] at h3 ⊢;rw [List.getElem?_set];by_cases q:j=i
    ·rw [if_pos q, if_pos (by omega)]
     subst q;rw [decide_eq_true (show hd≤(j:Int)∧j<j+1 from ⟨hj2,by omega⟩),Bool.true_and,hbb];rfl
    ·rw [if_neg q, h3]
     have:(hd≤(i:Int)∧i<j+1)↔(hd≤(i:Int)∧i<j):=by omega
     simp only [this])
   rw [show ((j+1:Nat):Int)=(j:Int)+1 by omega] at this;exact this
  rw [spec_l21Refs.l0,if_pos (by omega)];rcases hc with z|z|z
  ·rw [if_neg (by omega), if_neg (by omega), if_pos (by omega)]
   exact step _ (by unfold ldB;rw [if_pos z])
  ·rw [if_pos z, if_pos (by omega)]
   exact step _ (by unfold ldB;rw [if_neg (by omega),if_pos z])
  ·obtain ⟨z0, z1, z2, z3⟩ := z
   rw [if_neg (by omega),if_pos (by omega),fields_same,(cfl_eq h z0 z1).2 k (by omega)];simp only [Option.bind_some]
   rw [wrap64_of (n:=(j:Int) - 1) (by omega) (by omega),if_pos (by omega),if_pos (by omega),if_pos (by omega)];exact step _ (by unfold ldB;rw [if_neg (by omega),if_neg (by omega),z2])
theorem head_any (c:Int): ∃hd,(hd=1∨hd=2)∧spec_l21Head.f c=some hd:=by
 unfold spec_l21Head.f;by_cases h:c<0
 ·exact ⟨2,.inr rfl,by rw [if_pos h]⟩
 ·exact ⟨1,.inl rfl,by rw [if_neg h]⟩
theorem refs_any {cs : Cs} (h : csOk cs = true) {ws : List Int} (hn : ws.length ≤ 1000) {x : Int} (h0 : 0 ≤ x) (h1 : x < ws.length) :
  ∃R:List Bool,(x+R.length≤ws.length∧R.length≤10)∧∀k,200≤k→spec_l21Refs.f k cs ws x=some R:=by
 have hsz: ∀k,20≤k→spec_l21Size.f k cs ws x ws.length=some (mstep ws (allF cs) ws.length x):=fun k hk=>by
  rw [l21Size_eq h (by omega) h0 (Int.le_refl _) k hk,if_pos h1]
 rcases mwalk_lt ws (allF cs) ws.length x with hz|⟨hz,hz2⟩
 ·obtain ⟨hd, hh, he⟩ := head_any (rd ws x)
  refine ⟨[],⟨by simp;omega,by simp⟩,fun k hk=>?_⟩;unfold spec_l21Refs.f;rw [hsz k (by omega),hz,Option.bind_some,if_pos (by omega),if_pos (by simp),if_pos h0,if_pos h1,he,Option.bind_some];obtain ⟨k,rfl⟩: ∃m,k=m+1:=⟨k - 1,by omega⟩;rw [spec_l21Refs.l0,if_neg (by simp;omega)];rfl
 ·obtain ⟨c, hc⟩ : ∃ c, c = rd ws x := ⟨_, rfl⟩
  have hm : ∃ hd cnt : Int, (hd = 1 ∨ hd = 2) ∧ 0 ≤ cnt ∧ cnt ≤ 8 ∧ mstep ws (allF cs) ws.length x = hd + cnt ∧ spec_l21Head.f c = some hd ∧ (c = -1 ∨ c = -2 ∨ (0 ≤ c ∧ c < cs.length ∧ hd = 1 ∧ cnt = (cfl cs c).length)) := by
   unfold mstep at hz ⊢;rw [←hc] at hz ⊢;by_cases c0:c<0
   ·rw [if_pos c0] at hz ⊢
    by_cases c1:x+1<(ws.length:Int)
    ·rw [if_pos c1] at hz ⊢
     by_cases c2:measN (allF cs) c (rd ws (x+1))≤(ws.length:Int) - x
     ·rw [if_pos c2] at hz ⊢
      unfold measN at hz ⊢;by_cases c3:c= -1∨c= -2
      ·rw [if_pos c3] at hz ⊢
       by_cases c4:0≤rd ws (x+1)∧rd ws (x+1)≤6
       ·rw [if_pos c4]
        exact ⟨2,rd ws (x+1),.inr rfl,c4.1,by omega,rfl,by unfold spec_l21Head.f;rw [if_pos c0],c3.elim .inl (fun z=> .inr (.inl z))⟩
       ·rw [if_neg c4] at hz;omega
      ·rw [if_neg c3,if_neg (by omega)] at hz;omega
     ·rw [if_neg c2] at hz;omega
    ·rw [if_neg c1] at hz;omega
   ·rw [if_neg c0] at hz ⊢
    by_cases c2:measN (allF cs) c 0≤(ws.length:Int) - x
    ·rw [if_pos c2] at hz ⊢
     by_cases c3:c<cs.length
     ·rw [measN_c 0 (by omega) c3]
      exact ⟨1,(cfl cs c).length,.inl rfl,by omega,by have:=(cfl_eq h (show 0≤c by omega) c3).1;omega,rfl,by unfold spec_l21Head.f;rw [if_neg c0],.inr (.inr ⟨by omega,c3,rfl,rfl⟩)⟩
     ·unfold measN at hz
      rw [if_neg (by omega),allF_len,if_neg (by omega)] at hz;omega
    ·rw [if_neg c2] at hz;omega
  obtain ⟨hd,cnt,hh,n0,n8,hs,he,hcc⟩:=hm;refine ⟨refsL cs c hd (hd+cnt),by unfold refsL;rw [List.length_map,List.length_range];exact ⟨by omega,by omega⟩,fun k hk=>?_⟩;have hsk:=hsz k (by omega);rw [hs] at hsk;unfold spec_l21Refs.f;rw [hsk,Option.bind_some,if_pos (by omega),if_pos (by omega),if_pos h0,if_pos (by omega),←hc,he,Option.bind_some]
  have:=refs_l0 h (c:=c) (hd:=hd) (s:=(hd+cnt).toNat) (by omega) hh (by rcases hcc with z|z|z;exact .inl z;exact .inr (.inl z);exact .inr (.inr ⟨z.1,z.2.1,z.2.2.1,by omega⟩)) ((hd+cnt).toNat - hd.toNat) k hd.toNat (List.replicate (hd+cnt).toNat false) (by omega) (by omega) (by omega) (by simp) (fun i hi=>by
   rw [List.getD_eq_getElem?_getD,List.getElem?_replicate,if_pos hi]
   rw [decide_eq_false (by omega)];rfl)
  rw [show ((hd.toNat:Nat):Int)=hd by omega,show (((hd+cnt).toNat:Nat):Int)=hd+cnt by omega] at this;exact this
end Go.Proofs.Ytnlieahdakafbaa.Pure
namespace Go.Proofs.Ytnlieahdakafbaa.K
open Go.RowKit Go.Proofs.YtnlieahdakafbaaW.PrintWords Go.Proofs.YtnlieahdakafbaaW.PrintLast Go.Proofs.YtnlieahdakafbaaW.PrintMore
attribute [local go_sem] max2_int min2_int max_two min_two max_three min_three max_four min_four
set_option linter.unusedVariables false
set_option linter.unusedSimpArgs false
open Go.Proofs.Ytnlieahdakafbaa.Pure
set_option maxHeartbeats 32000000 in
set_option maxRecDepth 100000 in
theorem inside_any (b gw cW gc cC:Nat) (ws:List Int) (y t o:Int) (cards:List Bool) (M:Int) (g:Nat) (A:Option Addr) (cA:Nat) (cs:Cs) (at_:Int) (AP:Option Addr) (cP:Nat) (pl:List Int) (w0 w:World) (h:OM b gw cW gc cC w ws cards) (hi:Rdr M w0 w g) (hM:M≤700000) (hok:csOk cs=true)
  (hC: ∀W',Kept w W' (fun k=>(k=gw∨k=gc)∨k=g)→Kd.C k112 W' A cs.length cs) (hcA:cs.length≤cA) (hP: ∀W',Kept w W' (fun k=>(k=gw∨k=gc)∨k=g)→Kd.C (Kd.int .i64) W' AP pl.length pl) (hcP:pl.length≤cP) (hpl:1≤pl.length∧pl.length≤1000) (h0:0≤at_) (h1:at_≤ws.length) (hn:ws.length≤1000) (hy:0≤y∧y≤40) (hcd:(cards.length:Int)=((ws.length:Int) - y+3)/4) (hg:g≠gw∧g≠gc) (hg0:w0.heap.size≤gw∧w0.heap.size≤gc):
  Calls Try.prog 97 #[.pointer (some ⟨g,0,none⟩),.slice A cs.length cA,.agg #[.slice (some ⟨gw,0,none⟩) ws.length cW,.int .i64 y,.int .i64 t,.int .i64 o,.slice (some ⟨gc,0,none⟩) cards.length cC],.int .i64 at_,.slice AP pl.length cP] w fun e w'=> ∃(ws':List Int) (cards':List Bool),e= .returned (.agg #[.slice (some ⟨gw,0,none⟩) ws.length cW,.int .i64 y,.int .i64 t,.int .i64 o,.slice (some ⟨gc,0,none⟩) cards.length cC])∧(ws'.length=ws.length∧cards'.length=cards.length)∧OM b gw cW gc cC w' ws' cards'∧Rdr (M+60) w0 w' g∧Ch (fun k=>(k=gw∨k=gc)∨k=g) w w':=by
 have HO:=aK h;have HI:=aK hi;have HM:=aK hM;have HC:=aK hC;have HP:=aK hP;have HCA:=aK hcA;have HCP:=aK hcP;have HPL:=aK hpl;have H1:=aK (show (0≤at_∧at_≤ws.length)∧ws.length≤1000∧(0≤y∧y≤40)∧(cards.length:Int)=((ws.length:Int) - y+3)/4 from ⟨⟨h0,h1⟩,hn,hy,hcd⟩);have HGW:=aK (show (gw<w.heap.size∧gc<w.heap.size∧g<w.heap.size)∧gw≠gc∧(g≠gw∧g≠gc)∧w0.heap.size≤gw∧w0.heap.size≤gc∧w0.heap.size≤g from ⟨⟨h.bw.2,h.bc.2,hi.lt⟩,h.ne,hg,hg0.1,hg0.2,hi.ge⟩);have HRf:=aK (fun (z0:0≤at_ - 1)=>refs_any hok hn z0 (show at_ - 1<(ws.length:Int) by omega));clear h hi hM hok hC hcA hP hcP hpl h0 h1 hn hy hcd hg hg0;by_cases ca:at_=0
 ·have d0 : (at_ == 0) = true := beq_iff_eq.mpr ca
  have d0':decide (at_=0)=true:=decide_eq_true ca
  clear ca;go_enter Try.func97,Try.ntmps97
  go_wp2_with (first|((with_reducible refine gate_dst (N:=7) rfl ?_);refine box_event ?hg (N:=7) ?hd (cs:= #[.slice (some ⟨gw,0,none⟩) ws.length cW,.int .i64 y,.int .i64 t,.int .i64 o,.slice (some ⟨gc,0,none⟩) cards.length cC]) (t:=27) ?hr ?_;(case hd=>rfl);(case hg=>rfl);(case hr=>first|(go_simp;done)|(go_simp;rfl));intro gp hg w1 hbox hb;have BP:=aK hbox;have HCh:=aK ((Ch.refl (fun k=>(k=gw∨k=gc)∨k=g) w).below hb);have HGp:=aK (show w.heap.size≤gp by rw [hg];exact Nat.le_refl _);have HC0:=aK ((Ch.refl (fun _=>False) w).below hb);clear hb hbox hg)|((with_reducible refine gate_dst (N:=10) rfl ?_);refine box_event ?hg (N:=10) ?hd (cs:= #[.slice none 0 0,.int .i64 0,.int .i64 0,.int .i64 0,.slice none 0 0]) (t:=27) ?hr ?_;(case hd=>rfl);(case hg=>rfl);(case hr=>first|(go_simp;done)|(go_simp;rfl));intro gr hg w2 hbox hb;have BR:=aK hbox;have HGr:=aK (show w.heap.size≤gr∧gp<gr by have:=HCh.out.size;have:=blk_lt BP.out;rw [hg];exact ⟨by omega,by omega⟩);replace BP:=aK (blk_below BP.out hb);replace HCh:=aK (HCh.out.below hb);replace HC0:=aK (HC0.out.below hb);have HO2:=aK (HO.out.ch HC0.out (fun h=>h) (fun h=>h));have HI2:=aK (HI.out.ch HC0.out (fun h=>h) (fun _ h=>h.elim));have c0:=(blk_cell BP.out 0).trans rfl;have c1:=(blk_cell BP.out 1).trans rfl;have c2:=(blk_cell BP.out 2).trans rfl;have c3:=(blk_cell BP.out 3).trans rfl;have c4:=(blk_cell BP.out 4).trans rfl;clear hb hbox hg;have BR2:=BR;have z0:=(blk_cell BR2.out 0).trans rfl;have z1:=(blk_cell BR2.out 1).trans rfl;have z2:=(blk_cell BR2.out 2).trans rfl;have z3:=(blk_cell BR2.out 3).trans rfl;have z4:=(blk_cell BR2.out 4).trans rfl;have y_0:=blk_frozen BR2.out 0;have y_1:=blk_frozen BR2.out 1;have y_2:=blk_frozen BR2.out 2;have y_3:=blk_frozen BR2.out 3;have y_4:=blk_frozen BR2.out 4))
  refine bodyPost_ret (results_cell_row rfl _ _ gr 27 #[.slice (some ⟨gw,0,none⟩) ws.length cW,.int .i64 y,.int .i64 t,.int .i64 o,.slice (some ⟨gc,0,none⟩) cards.length cC] (0,0) _ rfl (blk_box5 BR2.out) Try.underlying27 rfl (by kernel_rfl)) rfl ?_;exact ⟨ws,cards,rfl,⟨rfl,rfl⟩,HO2.out.ch (Ch.box5 (Ch.refl (fun k=>k=gr) _) (.inl rfl) _ _ _ _ _) zz27 zz27,(HI2.out.ch (Ch.box5 (Ch.refl (fun k=>k=gr) _) (.inl rfl) _ _ _ _ _) zz27 (fun k hk=>by have:=HGr.out;have:=HGW.out;omega)).le (by omega),HCh.out.box5 (.inr HGr.out.1) _ _ _ _ _⟩
 ·have d0 : (at_ == 0) = false := beq_eq_false_iff_ne.mpr ca
  have d0':decide (at_=0)=false:=decide_eq_false ca
  have hz:=H1.out;obtain ⟨a1,ha⟩: ∃a1,a1=at_ - 1:=⟨_,rfl⟩;obtain ⟨R,hR1,hR2⟩:=HRf.out (by omega);rw [←ha] at hR1 hR2;have HAt:=aK ha;have HRe:=aK (hR2 200 (Nat.le_refl _));have H2:=aK (show (0≤a1∧a1<ws.length)∧a1+R.length≤ws.length∧R.length≤10 from ⟨by omega,hR1⟩);have q0:IntKind.i64.wrap (at_ - 1)=a1:=by rw [ha];exact IntWalk.i64_in _ (by omega)
  have p1:=eq_true (show 0≤a1 by omega);have p2:=eq_true (show a1<(ws.length:Int) by omega);obtain ⟨hd,hh,he⟩:=head_any (rd ws (a1));have HHd:=aK he;have Hhd:=aK hh;clear ca hz hR1 hR2 HRf hh he ha;go_enter Try.func97,Try.ntmps97
  go_wp2_with (first|((with_reducible refine gate_dst (N:=7) rfl ?_);refine box_event ?hg (N:=7) ?hd (cs:= #[.slice (some ⟨gw,0,none⟩) ws.length cW,.int .i64 y,.int .i64 t,.int .i64 o,.slice (some ⟨gc,0,none⟩) cards.length cC]) (t:=27) ?hr ?_;(case hd=>rfl);(case hg=>rfl);(case hr=>first|(go_simp;done)|(go_simp;rfl));intro gp hg w1 hbox hb;have BP:=aK hbox;have HCh:=aK ((Ch.refl (fun k=>(k=gw∨k=gc)∨k=g) w).below hb);have HGp:=aK (show w.heap.size≤gp by rw [hg];exact Nat.le_refl _);have HC0:=aK ((Ch.refl (fun _=>False) w).below hb);clear hb hbox hg)|((with_reducible refine gate_dst (N:=10) rfl ?_);refine box_event ?hg (N:=10) ?hd (cs:= #[.slice none 0 0,.int .i64 0,.int .i64 0,.int .i64 0,.slice none 0 0]) (t:=27) ?hr ?_;(case hd=>rfl);(case hg=>rfl);(case hr=>first|(go_simp;done)|(go_simp;rfl));intro gr hg w2 hbox hb;have BR:=aK hbox;have HGr:=aK (show w.heap.size≤gr∧gp<gr by have:=HCh.out.size;have:=blk_lt BP.out;rw [hg];exact ⟨by omega,by omega⟩);replace BP:=aK (blk_below BP.out hb);replace HCh:=aK (HCh.out.below hb);replace HC0:=aK (HC0.out.below hb);have HO2:=aK (HO.out.ch HC0.out (fun h=>h) (fun h=>h));have HI2:=aK (HI.out.ch HC0.out (fun h=>h) (fun _ h=>h.elim));have c0:=(blk_cell BP.out 0).trans rfl;have c1:=(blk_cell BP.out 1).trans rfl;have c2:=(blk_cell BP.out 2).trans rfl;have c3:=(blk_cell BP.out 3).trans rfl;have c4:=(blk_cell BP.out 4).trans rfl;clear hb hbox hg)|(go_at_call 39;refine (spec_l21Refs.calls 200 A cA cs (some ⟨gw,0,none⟩) cW ws (a1) R _ (HC.out _ HCh.out.kept) HCA.out (Kd.R_reads' HO2.out.hw).2.2 (Kd.R_reads' HO2.out.hw).2.1 HRe.out).mono ?_;rintro e w3 ⟨vR,rfl,hv,hb⟩;have HV3:=aK (show Kd.R Kd.bool 4 w3 w2.heap.size (fun _=>True) vR R from hv);have HCh3:=aK (HCh.out.below hb);have HO3:=aK (HO2.out.ch ((Ch.refl (fun _=>False) _).below hb) (fun h=>h) (fun h=>h));have HI3:=aK (HI2.out.below hb);have BP3:=aK (blk_below BP.out hb);have BR3:=aK (blk_below BR.out hb);have HZ:=aK (show w.heap.size≤w2.heap.size∧gp<w2.heap.size∧gr<w2.heap.size from ⟨HCh.out.size,blk_lt BP.out,blk_lt BR.out⟩);clear hv hb HCh HO2 HI2 BP BR HC0;obtain ⟨bR,hbR⟩: ∃z,z=w2.heap.size:=⟨_,rfl⟩;rw [←hbR] at HV3 HZ;clear hbR;obtain ⟨AR,cR,eR⟩:=Kd.R_slice HV3.out;subst eR;clear c0 c1 c2 c3 c4;have c0:=(blk_cell BP3.out 0).trans rfl;have c1:=(blk_cell BP3.out 1).trans rfl;have c2:=(blk_cell BP3.out 2).trans rfl;have c3:=(blk_cell BP3.out 3).trans rfl;have c4:=(blk_cell BP3.out 4).trans rfl;obtain ⟨x0,f0⟩:=HO3.out.wcell (a1) H2.out.1.1 H2.out.1.2)|(go_at_call 78;refine (spec_l21Head.calls (rd ws (a1)) hd _ HHd.out).mono ?_;rintro e w' ⟨rfl,⟨nd,rfl⟩⟩))
  go_loopw [12] (fun v12 wr=> ∃(x:Int) (ws':List Int) (cards':List Bool),v12= .int .i64 x∧Aside0 (1≤x∧x≤R.length+2)∧Aside0 (ws'.length=ws.length∧cards'.length=cards.length)∧Aside0 (OM b gw cW gc cC wr ws' cards')∧Aside0 (Kd.R Kd.bool 4 wr bR (fun _=>True) (.slice AR R.length cR) R)∧Aside0 (wr.heap[gp]? =some (.cells #[.slice (some ⟨gw,0,none⟩) ws'.length cW,.int .i64 y,.int .i64 t,.int .i64 o,.slice (some ⟨gc,0,none⟩) cards'.length cC] 27 (0,0)))∧Aside0 (wr.heap[gr]? =some (.cells #[.slice none 0 0,.int .i64 0,.int .i64 0,.int .i64 0,.slice none 0 0] 27 (0,0)))∧Aside0 (Rdr (M+4*x) w0 wr g)∧Aside0 (Ch (fun k=>(k=gw∨k=gc)∨k=g) w wr)) (fun v12 _=>(R.length - intOf v12).toNat)
  case atStart=>exact ⟨hd,ws,cards,rfl,⟨by have:=Hhd.out;omega⟩,⟨rfl,rfl⟩,⟨HO3.out.ch ((Ch.refl (fun _=>False) _).drewN nd) (fun h=>h) (fun h=>h)⟩,⟨Kd.R_drewN HV3.out nd⟩,⟨blk_drewN BP3.out nd⟩,⟨blk_drewN BR3.out nd⟩,⟨(HI3.out.drewN nd).le (by have:=Hhd.out;omega)⟩,⟨HCh3.out.drewN nd⟩⟩
  case round =>
   clear HO3 HV3 BP3 BR3 HI3 HCh3 x0 f0 c0 c1 c2 c3 c4;obtain ⟨x,ws',cards',rfl,HX,HLn,HO,HV,BP,BR,HI,HCh⟩:=hrel;by_cases cx:x<R.length
   ·have d1 : decide (x < (R.length : Int)) = true := decide_eq_true cx
    have HXx:=aK (show (1≤x∧x<R.length) by have:=HX.out;omega);have p3:=eq_true (show 0≤x by have:=HX.out;omega);have p4:=eq_true cx;clear cx HX
    go_wp2_with fail
    go_at_call 32;refine (word_any _ g w0 _ HI.out (by have:=HM.out;have:=H2.out;have:=HXx.out;omega)).mono ?_;rintro e w4 ⟨z,rfl,hi,hk⟩;have hst:=HI.out.step hi hk;have HO4:=aK (HO.out.ch hst (by have:=HGW.out;omega) (by have:=HGW.out;omega));have HV4:=aK (Kd.R_mono (hst.R (Kd.R_bound HV.out) (fun k hk=>by have:=HZ.out;have:=HGW.out;omega)) (fun _ _=>trivial));have BP4:=aK (hst.blk BP.out zz41);have BR4:=aK (hst.blk BR.out zz27);have HI4:=aK hi;have HCh4:=aK (HCh.out.trans hst (fun k h=> .inl (.inr h)));clear hst hi hk HO HV BP BR HI HCh;obtain ⟨gR,cap,hv,_,_,_⟩:=Kd.R_form HV4.out (by have:=HXx.out;omega);injection hv with e1 e2 e3;subst e1 e3;clear e2;obtain ⟨r0,_⟩:=Kd.R_cell (enc:=Value.bool) (h1:=fun _=>rfl) false HV4.out x (by have:=HXx.out;omega) HXx.out.2
    cases hb:rdOf false R x with
    | false =>
     rw [hb] at r0;have HF:=aK hb;clear hb
     go_wp2_with fail
     go_at_call 33;refine (pick_any _ g 3 w0 _ HI4.out (by have:=HM.out;have:=H2.out;have:=HXx.out;omega) (by omega) (by omega)).mono ?_;rintro e w6 ⟨q,rfl,hq,hi,hk⟩;clear r0;have hst:=HI4.out.step hi hk;have HO6:=aK (HO4.out.ch hst (by have:=HGW.out;omega) (by have:=HGW.out;omega));have HV6:=aK (Kd.R_mono (hst.R (Kd.R_bound HV4.out) (fun k hk=>by have:=HZ.out;have:=HGW.out;omega)) (fun _ _=>trivial));have BP6:=aK (hst.blk BP4.out zz41);have BR6:=aK (hst.blk BR4.out zz27);have HI6:=aK hi;have HCh6:=aK (HCh4.out.trans hst (fun k h=> .inl (.inr h)));clear hst hi hk HO4 HV4 BP4 BR4 HI4 HCh4;by_cases cq:0<q
     ·have d2 : decide (0 < q) = true := decide_eq_true cq
      clear cq hq;have q4:IntKind.i64.wrap (a1+x)=a1+x:=IntWalk.i64_in _ (by have:=HXx.out;have:=H2.out;have:=H1.out;omega)
      go_wp2;replace HO6:=aK (HO6.out.ch (Ch.drew (Ch.refl (fun _=>False) _)) (fun h=>h) (fun h=>h));replace HV6:=aK (Kd.R_drew HV6.out);replace BP6:=aK (blk_drew BP6.out);replace BR6:=aK (blk_drew BR6.out);replace HI6:=aK HI6.out.drew;replace HCh6:=aK HCh6.out.drew;have r1:=(Kd.R_cell (enc:=Value.bool) (h1:=fun _=>rfl) false HV6.out x (by have:=HXx.out;omega) HXx.out.2).1;rw [HF.out] at r1;refine sT 12 (S:=fun w'=>w'.cell? ⟨gp,0,none⟩=some (.slice (some ⟨gw,0,none⟩) ws'.length cW)∧w'.cell? ⟨gp,1,none⟩=some (.int .i64 y)∧w'.cell? ⟨gp,2,none⟩=some (.int .i64 t)∧w'.cell? ⟨gp,3,none⟩=some (.int .i64 o)∧w'.cell? ⟨gp,4,none⟩=some (.slice (some ⟨gc,0,none⟩) cards'.length cC)∧w'.cell? ⟨gR,x.toNat,none⟩=some (.bool false)) (ds:=[11]) ⟨(blk_cell BP6.out 0).trans rfl,(blk_cell BP6.out 1).trans rfl,(blk_cell BP6.out 2).trans rfl,(blk_cell BP6.out 3).trans rfl,(blk_cell BP6.out 4).trans rfl,r1⟩ (fun hHeld=>?_);generalize w6.drew=w6a at HO6 HV6 BP6 BR6 HI6 HCh6 r1 hHeld ⊢;refine pS 1 53 (lA 12 2) ?_;refine pS 2 54 (lA 12 6) ?_;refine pS 3 55 (lA 12 14) ?_;refine pS 4 56 (lA 12 30) ?_;refine pS 5 57 (lA 12 62) ?_;refine pS 6 58 (lA 12 126) ?_;refine pS 7 59 (lA 12 254) ?_;refine pS 8 60 (lA 12 510) ?_;refine tS 0 52 (lA 12 511) rfl rfl (by kernel_rfl) hHeld zz4 ?_;refine tS 9 61 (lA 12 1023) rfl rfl (by kernel_rfl) hHeld zz4 ?_;refine oS 10 62 (lA 12 2047) rfl rfl (fun K hK=>?_);refine gO Try.func44 #[.agg #[.slice (some ⟨gw,0,none⟩) ws'.length cW,.int .i64 y,.int .i64 t,.int .i64 o,.slice (some ⟨gc,0,none⟩) cards'.length cC],.int .i64 (a1+x),.int .i64 z,.bool false] ?_;(with_reducible refine (put_any b gw cW gc cC ws' y t o cards' (a1+x) z false _ HO6.out (by have:=HLn.out;have:=H1.out;omega) (by have:=H2.out;have:=HXx.out;omega) (by have:=H2.out;have:=HXx.out;have:=HLn.out;omega) H1.out.2.2.1 (by have:=H2.out;have:=H1.out;have:=HXx.out;have:=HLn.out;omega)).mono ?_);rintro e w7 ⟨rfl,hO,hc⟩;refine ⟨_,rfl,?_⟩;have HO7:=aK hO;have HV7:=aK (Kd.R_mono (hc.R (Kd.R_bound HV6.out) (fun k hk=>by have:=HZ.out;have:=HGW.out;omega)) (fun _ _=>trivial));have BP7:=aK (hc.blk BP6.out zz41);have BR7:=aK (hc.blk BR6.out zz27);have HI7:=aK (HI6.out.ch hc (by have:=HGW.out;omega) (fun k hk=>by have:=HGW.out;omega));have HCh7:=aK (HCh6.out.trans hc (fun k h=> .inl (.inl h)));have HPm:=aK (show (putM ws' y cards' (a1+x) z false).1.length=ws'.length∧(putM ws' y cards' (a1+x) z false).2.length=cards'.length by unfold putM;dsimp only;rw [List.length_set];refine ⟨rfl,?_⟩;split<;>simp);clear hO hc HO6 HV6 BP6 BR6 HI6 HCh6 r1;have c0:=(blk_cell BP7.out 0).trans rfl;have c1:=(blk_cell BP7.out 1).trans rfl;have c2:=(blk_cell BP7.out 2).trans rfl;have c3:=(blk_cell BP7.out 3).trans rfl;have c4:=(blk_cell BP7.out 4).trans rfl;have y0:=blk_frozen BP7.out 0;have y1:=blk_frozen BP7.out 1;have y2:=blk_frozen BP7.out 2;have y3:=blk_frozen BP7.out 3;have y4:=blk_frozen BP7.out 4;refine hK.out _ _ ⟨c0,c1,c2,c3,c4,(by have h_:=(Kd.R_cell (enc:=Value.bool) (h1:=fun _=>rfl) false HV7.out x (by have:=HXx.out;omega) HXx.out.2).1;rw [HF.out] at h_;exact h_)⟩ (fun hHeld=>?_);clear hK K;refine nS 62 ?_;refine last_ (i:=11) (N:=none) (lA 12 4095) rfl rfl (by kernel_rfl) (by decide) (fun K hK=>?_);refine skip_ (w1:=?_) (by rfl) rfl ?_ ?_;rotate_left
      ·go_simp
       rfl
      refine hK.out _ _ ?_;clear hK K;refine done_ (by kernel_rfl) ?_;have HO8:=aK (HO7.out.ch (Ch.box5 (Ch.refl (fun k=>k=gp) _) (.inl rfl) (.slice (some ⟨gw,0,none⟩) ws'.length cW) (.int .i64 y) (.int .i64 t) (.int .i64 o) (.slice (some ⟨gc,0,none⟩) cards'.length cC)) zz41 zz41);have HV8:=aK (Kd.R_mono ((Ch.box5 (Ch.refl (fun k=>k=gp) _) (.inl rfl) (.slice (some ⟨gw,0,none⟩) ws'.length cW) (.int .i64 y) (.int .i64 t) (.int .i64 o) (.slice (some ⟨gc,0,none⟩) cards'.length cC)).R (Kd.R_bound HV7.out) (fun k hk=>by have:=HZ.out;omega)) (fun _ _=>trivial));have BP8:=aK (show (memBox w7 gp (.slice (some ⟨gw,0,none⟩) ws'.length cW) (.int .i64 y) (.int .i64 t) (.int .i64 o) (.slice (some ⟨gc,0,none⟩) cards'.length cC)).heap[gp]? =some (.cells #[.slice (some ⟨gw,0,none⟩) (putM ws' y cards' (a1+x) z false).1.length cW,.int .i64 y,.int .i64 t,.int .i64 o,.slice (some ⟨gc,0,none⟩) (putM ws' y cards' (a1+x) z false).2.length cC] 27 (0,0)) by rw [HPm.out.1,HPm.out.2];exact blk_box5 BP7.out);have BR8:=aK ((Ch.box5 (Ch.refl (fun k=>k=gp) _) (.inl rfl) (.slice (some ⟨gw,0,none⟩) ws'.length cW) (.int .i64 y) (.int .i64 t) (.int .i64 o) (.slice (some ⟨gc,0,none⟩) cards'.length cC)).blk BR7.out (by have:=HGr.out;omega));have HI8:=aK (HI7.out.ch (Ch.box5 (Ch.refl (fun k=>k=gp) _) (.inl rfl) (.slice (some ⟨gw,0,none⟩) ws'.length cW) (.int .i64 y) (.int .i64 t) (.int .i64 o) (.slice (some ⟨gc,0,none⟩) cards'.length cC)) zz41 (fun k hk=>by have:=HGp.out;have:=HGW.out;omega));have HCh8:=aK (HCh7.out.box5 (.inr HGp.out) (.slice (some ⟨gw,0,none⟩) ws'.length cW) (.int .i64 y) (.int .i64 t) (.int .i64 o) (.slice (some ⟨gc,0,none⟩) cards'.length cC));clear HO7 HV7 BP7 BR7 HI7 HCh7 c0 c1 c2 c3 c4 y0 y1 y2 y3 y4;go_wp2;have q7:wrap64 (x+1)=x+1:=by have:=HXx.out;have:=H2.out;unfold wrap64;omega
      go_roundw
      case rel=>exact ⟨x+1,(putM ws' y cards' (a1+x) z false).1,(putM ws' y cards' (a1+x) z false).2,by rw [q7],⟨by have:=HXx.out;omega⟩,⟨by rw [HPm.out.1];exact HLn.out.1,by rw [HPm.out.2];exact HLn.out.2⟩,HO8,⟨HV8.out⟩,BP8,BR8,⟨HI8.out.le (by omega)⟩,HCh8⟩
      case measure=>rw [q7];have:=HXx.out;simp only [intOf];omega
     ·have d2 : decide (0 < q) = false := decide_eq_false cq
      clear cq hq;go_wp2;have q7:wrap64 (x+1)=x+1:=by have:=HXx.out;have:=H2.out;unfold wrap64;omega
      go_roundw
      case rel=>exact ⟨x+1,ws',cards',by rw [q7],⟨by have:=HXx.out;omega⟩,⟨HLn.out.1,HLn.out.2⟩,HO6,⟨HV6.out⟩,BP6,BR6,⟨HI6.out.le (by omega)⟩,HCh6⟩
      case measure=>rw [q7];have:=HXx.out;simp only [intOf];omega
    | true =>
     rw [hb] at r0;have HF:=aK hb;clear hb
     go_wp2_with fail
     go_at_call 33;refine (pick_any _ g pl.length w0 _ HI4.out (by have:=HM.out;have:=H2.out;have:=HXx.out;omega) (by have:=HPL.out;omega) (by have:=HPL.out;omega)).mono ?_;rintro e w5 ⟨pz,rfl,hpz,hi,hk⟩;clear r0;have hst:=HI4.out.step hi hk;have HO5:=aK (HO4.out.ch hst (by have:=HGW.out;omega) (by have:=HGW.out;omega));have HV5:=aK (Kd.R_mono (hst.R (Kd.R_bound HV4.out) (fun k hk=>by have:=HZ.out;have:=HGW.out;omega)) (fun _ _=>trivial));have BP5:=aK (hst.blk BP4.out zz41);have BR5:=aK (hst.blk BR4.out zz27);have HI5:=aK hi;have HCh5:=aK (HCh4.out.trans hst (fun k h=> .inl (.inr h)));clear hst hi hk HO4 HV4 BP4 BR4 HI4 HCh4;have HPz:=aK hpz;have p5:=eq_true hpz.1;have p6:=eq_true hpz.2;obtain ⟨adp,ep,hxp⟩:=Kd.at_int (HP.out _ HCh5.out.kept) pz hpz.1 hpz.2
     cases ep
     clear hpz;obtain ⟨u,hu⟩: ∃u,u=rd pl pz:=⟨_,rfl⟩;rw [←hu] at hxp;clear hu
     go_wp2_with fail
     go_at_call 33;refine (pick_any _ g 3 w0 _ HI5.out (by have:=HM.out;have:=H2.out;have:=HXx.out;omega) (by omega) (by omega)).mono ?_;rintro e w6 ⟨q,rfl,hq,hi,hk⟩;clear hxp;have hst:=HI5.out.step hi hk;have HO6:=aK (HO5.out.ch hst (by have:=HGW.out;omega) (by have:=HGW.out;omega));have HV6:=aK (Kd.R_mono (hst.R (Kd.R_bound HV5.out) (fun k hk=>by have:=HZ.out;have:=HGW.out;omega)) (fun _ _=>trivial));have BP6:=aK (hst.blk BP5.out zz41);have BR6:=aK (hst.blk BR5.out zz27);have HI6:=aK hi;have HCh6:=aK (HCh5.out.trans hst (fun k h=> .inl (.inr h)));clear hst hi hk HO5 HV5 BP5 BR5 HI5 HCh5;by_cases cq:0<q
     ·have d2 : decide (0 < q) = true := decide_eq_true cq
      clear cq hq;have q4:IntKind.i64.wrap (a1+x)=a1+x:=IntWalk.i64_in _ (by have:=HXx.out;have:=H2.out;have:=H1.out;omega)
      go_wp2;replace HO6:=aK (HO6.out.ch (Ch.drew (Ch.refl (fun _=>False) _)) (fun h=>h) (fun h=>h));replace HV6:=aK (Kd.R_drew HV6.out);replace BP6:=aK (blk_drew BP6.out);replace BR6:=aK (blk_drew BR6.out);replace HI6:=aK HI6.out.drew;replace HCh6:=aK HCh6.out.drew;have r1:=(Kd.R_cell (enc:=Value.bool) (h1:=fun _=>rfl) false HV6.out x (by have:=HXx.out;omega) HXx.out.2).1;rw [HF.out] at r1;refine sT 12 (S:=fun w'=>w'.cell? ⟨gp,0,none⟩=some (.slice (some ⟨gw,0,none⟩) ws'.length cW)∧w'.cell? ⟨gp,1,none⟩=some (.int .i64 y)∧w'.cell? ⟨gp,2,none⟩=some (.int .i64 t)∧w'.cell? ⟨gp,3,none⟩=some (.int .i64 o)∧w'.cell? ⟨gp,4,none⟩=some (.slice (some ⟨gc,0,none⟩) cards'.length cC)∧w'.cell? ⟨gR,x.toNat,none⟩=some (.bool true)) (ds:=[11]) ⟨(blk_cell BP6.out 0).trans rfl,(blk_cell BP6.out 1).trans rfl,(blk_cell BP6.out 2).trans rfl,(blk_cell BP6.out 3).trans rfl,(blk_cell BP6.out 4).trans rfl,r1⟩ (fun hHeld=>?_);generalize w6.drew=w6a at HO6 HV6 BP6 BR6 HI6 HCh6 r1 hHeld ⊢;refine pS 1 53 (lA 12 2) ?_;refine pS 2 54 (lA 12 6) ?_;refine pS 3 55 (lA 12 14) ?_;refine pS 4 56 (lA 12 30) ?_;refine pS 5 57 (lA 12 62) ?_;refine pS 6 58 (lA 12 126) ?_;refine pS 7 59 (lA 12 254) ?_;refine pS 8 60 (lA 12 510) ?_;refine tS 0 52 (lA 12 511) rfl rfl (by kernel_rfl) hHeld zz4 ?_;refine tS 9 61 (lA 12 1023) rfl rfl (by kernel_rfl) hHeld zz4 ?_;refine oS 10 62 (lA 12 2047) rfl rfl (fun K hK=>?_);refine gO Try.func44 #[.agg #[.slice (some ⟨gw,0,none⟩) ws'.length cW,.int .i64 y,.int .i64 t,.int .i64 o,.slice (some ⟨gc,0,none⟩) cards'.length cC],.int .i64 (a1+x),.int .i64 u,.bool true] ?_;(with_reducible refine (put_any b gw cW gc cC ws' y t o cards' (a1+x) u true _ HO6.out (by have:=HLn.out;have:=H1.out;omega) (by have:=H2.out;have:=HXx.out;omega) (by have:=H2.out;have:=HXx.out;have:=HLn.out;omega) H1.out.2.2.1 (by have:=H2.out;have:=H1.out;have:=HXx.out;have:=HLn.out;omega)).mono ?_);rintro e w7 ⟨rfl,hO,hc⟩;refine ⟨_,rfl,?_⟩;have HO7:=aK hO;have HV7:=aK (Kd.R_mono (hc.R (Kd.R_bound HV6.out) (fun k hk=>by have:=HZ.out;have:=HGW.out;omega)) (fun _ _=>trivial));have BP7:=aK (hc.blk BP6.out zz41);have BR7:=aK (hc.blk BR6.out zz27);have HI7:=aK (HI6.out.ch hc (by have:=HGW.out;omega) (fun k hk=>by have:=HGW.out;omega));have HCh7:=aK (HCh6.out.trans hc (fun k h=> .inl (.inl h)));have HPm:=aK (show (putM ws' y cards' (a1+x) u true).1.length=ws'.length∧(putM ws' y cards' (a1+x) u true).2.length=cards'.length by unfold putM;dsimp only;rw [List.length_set];refine ⟨rfl,?_⟩;split<;>simp);clear hO hc HO6 HV6 BP6 BR6 HI6 HCh6 r1;have c0:=(blk_cell BP7.out 0).trans rfl;have c1:=(blk_cell BP7.out 1).trans rfl;have c2:=(blk_cell BP7.out 2).trans rfl;have c3:=(blk_cell BP7.out 3).trans rfl;have c4:=(blk_cell BP7.out 4).trans rfl;have y0:=blk_frozen BP7.out 0;have y1:=blk_frozen BP7.out 1;have y2:=blk_frozen BP7.out 2;have y3:=blk_frozen BP7.out 3;have y4:=blk_frozen BP7.out 4;refine hK.out _ _ ⟨c0,c1,c2,c3,c4,(by have h_:=(Kd.R_cell (enc:=Value.bool) (h1:=fun _=>rfl) false HV7.out x (by have:=HXx.out;omega) HXx.out.2).1;rw [HF.out] at h_;exact h_)⟩ (fun hHeld=>?_);clear hK K;refine nS 62 ?_;refine last_ (i:=11) (N:=none) (lA 12 4095) rfl rfl (by kernel_rfl) (by decide) (fun K hK=>?_);refine skip_ (w1:=?_) (by rfl) rfl ?_ ?_;rotate_left
      ·go_simp
       rfl
      refine hK.out _ _ ?_;clear hK K;refine done_ (by kernel_rfl) ?_;have HO8:=aK (HO7.out.ch (Ch.box5 (Ch.refl (fun k=>k=gp) _) (.inl rfl) (.slice (some ⟨gw,0,none⟩) ws'.length cW) (.int .i64 y) (.int .i64 t) (.int .i64 o) (.slice (some ⟨gc,0,none⟩) cards'.length cC)) zz41 zz41);have HV8:=aK (Kd.R_mono ((Ch.box5 (Ch.refl (fun k=>k=gp) _) (.inl rfl) (.slice (some ⟨gw,0,none⟩) ws'.length cW) (.int .i64 y) (.int .i64 t) (.int .i64 o) (.slice (some ⟨gc,0,none⟩) cards'.length cC)).R (Kd.R_bound HV7.out) (fun k hk=>by have:=HZ.out;omega)) (fun _ _=>trivial));have BP8:=aK (show (memBox w7 gp (.slice (some ⟨gw,0,none⟩) ws'.length cW) (.int .i64 y) (.int .i64 t) (.int .i64 o) (.slice (some ⟨gc,0,none⟩) cards'.length cC)).heap[gp]? =some (.cells #[.slice (some ⟨gw,0,none⟩) (putM ws' y cards' (a1+x) u true).1.length cW,.int .i64 y,.int .i64 t,.int .i64 o,.slice (some ⟨gc,0,none⟩) (putM ws' y cards' (a1+x) u true).2.length cC] 27 (0,0)) by rw [HPm.out.1,HPm.out.2];exact blk_box5 BP7.out);have BR8:=aK ((Ch.box5 (Ch.refl (fun k=>k=gp) _) (.inl rfl) (.slice (some ⟨gw,0,none⟩) ws'.length cW) (.int .i64 y) (.int .i64 t) (.int .i64 o) (.slice (some ⟨gc,0,none⟩) cards'.length cC)).blk BR7.out (by have:=HGr.out;omega));have HI8:=aK (HI7.out.ch (Ch.box5 (Ch.refl (fun k=>k=gp) _) (.inl rfl) (.slice (some ⟨gw,0,none⟩) ws'.length cW) (.int .i64 y) (.int .i64 t) (.int .i64 o) (.slice (some ⟨gc,0,none⟩) cards'.length cC)) zz41 (fun k hk=>by have:=HGp.out;have:=HGW.out;omega));have HCh8:=aK (HCh7.out.box5 (.inr HGp.out) (.slice (some ⟨gw,0,none⟩) ws'.length cW) (.int .i64 y) (.int .i64 t) (.int .i64 o) (.slice (some ⟨gc,0,none⟩) cards'.length cC));clear HO7 HV7 BP7 BR7 HI7 HCh7 c0 c1 c2 c3 c4 y0 y1 y2 y3 y4;go_wp2;have q7:wrap64 (x+1)=x+1:=by have:=HXx.out;have:=H2.out;unfold wrap64;omega
      go_roundw
      case rel=>exact ⟨x+1,(putM ws' y cards' (a1+x) u true).1,(putM ws' y cards' (a1+x) u true).2,by rw [q7],⟨by have:=HXx.out;omega⟩,⟨by rw [HPm.out.1];exact HLn.out.1,by rw [HPm.out.2];exact HLn.out.2⟩,HO8,⟨HV8.out⟩,BP8,BR8,⟨HI8.out.le (by omega)⟩,HCh8⟩
      case measure=>rw [q7];have:=HXx.out;simp only [intOf];omega
     ·have d2 : decide (0 < q) = false := decide_eq_false cq
      clear cq hq;go_wp2;have q7:wrap64 (x+1)=x+1:=by have:=HXx.out;have:=H2.out;unfold wrap64;omega
      go_roundw
      case rel=>exact ⟨x+1,ws',cards',by rw [q7],⟨by have:=HXx.out;omega⟩,⟨HLn.out.1,HLn.out.2⟩,HO6,⟨HV6.out⟩,BP6,BR6,⟨HI6.out.le (by omega)⟩,HCh6⟩
      case measure=>rw [q7];have:=HXx.out;simp only [intOf];omega
   ·have d1 : decide (x < (R.length : Int)) = false := decide_eq_false cx
    have HXx:=aK (show x≤R.length+2 from HX.out.2);clear cx HX;have c0:=(blk_cell BP.out 0).trans rfl;have c1:=(blk_cell BP.out 1).trans rfl;have c2:=(blk_cell BP.out 2).trans rfl;have c3:=(blk_cell BP.out 3).trans rfl;have c4:=(blk_cell BP.out 4).trans rfl;have z0:=(blk_cell BR.out 0).trans rfl;have z1:=(blk_cell BR.out 1).trans rfl;have z2:=(blk_cell BR.out 2).trans rfl;have z3:=(blk_cell BR.out 3).trans rfl;have z4:=(blk_cell BR.out 4).trans rfl;have y_0:=blk_frozen BR.out 0;have y_1:=blk_frozen BR.out 1;have y_2:=blk_frozen BR.out 2;have y_3:=blk_frozen BR.out 3;have y_4:=blk_frozen BR.out 4;go_wp2;refine bodyPost_ret (results_cell_row rfl _ _ gr 27 #[.slice (some ⟨gw,0,none⟩) ws'.length cW,.int .i64 y,.int .i64 t,.int .i64 o,.slice (some ⟨gc,0,none⟩) cards'.length cC] (0,0) _ rfl (blk_box5 BR.out) Try.underlying27 rfl (by kernel_rfl)) rfl ?_;exact ⟨ws',cards',by rw [HLn.out.1,HLn.out.2],HLn.out,HO.out.ch (Ch.box5 (Ch.refl (fun k=>k=gr) _) (.inl rfl) _ _ _ _ _) zz27 zz27,(HI.out.ch (Ch.box5 (Ch.refl (fun k=>k=gr) _) (.inl rfl) _ _ _ _ _) zz27 (fun k hk=>by have:=HGr.out;have:=HGW.out;omega)).le (by have:=HXx.out;have:=H2.out;omega),HCh.out.box5 (.inr HGr.out.1) _ _ _ _ _⟩
end Go.Proofs.Ytnlieahdakafbaa.K
namespace Go.Proofs.Ytnlieahdakafbaa.K
open Go.RowKit Go.Proofs.YtnlieahdakafbaaW.PrintWords Go.Proofs.YtnlieahdakafbaaW.PrintLast Go.Proofs.YtnlieahdakafbaaW.PrintMore
attribute [local go_sem] max2_int min2_int max_two min_two max_three min_three max_four min_four
set_option linter.unusedVariables false
set_option linter.unusedSimpArgs false
def spec_l21Want.f (k:Nat) (l0:List (S112)) (a1:Int) (a2:Int):Option (Int):=(spec_l6In.f a1 0 (wrap64 ((l0.length:Int) - 1))).bind fun t132=>(if t132=true then ((spec_l2Fields.f k l0 a1).bind fun t133=>(some (wrap64 (1+(t133.length:Int))))) else (if a1=(-1) then ((spec_l6In.f a2 0 6).bind fun t136=>(if t136=true then (some (wrap64 (2+a2))) else (some 0))) else (if a1=(-2) then ((spec_l6In.f a2 0 6).bind fun t137=>(if t137=true then (some (wrap64 (2+a2))) else (some 0))) else (some 0))))
set_option maxHeartbeats 8000000 in
set_option maxRecDepth 100000 in
theorem spec_l21Want.calls (k:Nat) (A0:Option Addr) (c0:Nat) (l0:List (S112)) (a1:Int) (a2:Int) (r:Int) (w:World) (hr0:Kd.C k112 w A0 l0.length l0) (hc0:l0.length≤c0) (h:spec_l21Want.f k l0 a1 a2=some r):
  Calls Try.prog 58 #[.slice A0 l0.length c0,.int .i64 a1,.int .i64 a2] w fun e w'=>e= .returned (.int .i64 r)∧Below w.heap.size w w':=by
 have HR0:=aK hr0;have HC0:=aK hc0;clear hr0 hc0;have HB:=aK (Below.refl w.heap.size w);have H:((spec_l6In.f a1 0 (wrap64 ((l0.length:Int) - 1))).bind fun t132=>(if t132=true then ((spec_l2Fields.f k l0 a1).bind fun t133=>(some (wrap64 (1+(t133.length:Int))))) else (if a1=(-1) then ((spec_l6In.f a2 0 6).bind fun t136=>(if t136=true then (some (wrap64 (2+a2))) else (some 0))) else (if a1=(-2) then ((spec_l6In.f a2 0 6).bind fun t137=>(if t137=true then (some (wrap64 (2+a2))) else (some 0))) else (some 0)))))=some r:=h
 clear h;replace H:=Option.bind_eq_some_iff.mp H;obtain ⟨t132,A40,H⟩:=H;(try dsimp only at H);have A4:=aK A40;clear A40;by_cases c5:t132=true
 ·subst c5
  rw [if_pos rfl] at H;replace H:=Option.bind_eq_some_iff.mp H;obtain ⟨t133,A60,H⟩:=H;(try dsimp only at H);have A6:=aK A60;clear A60;obtain rfl:=Option.some.inj H;go_enter Try.func58,Try.ntmps58
  go_wp2_with (first|((with_reducible refine gate_callee (f:=79) rfl ?_);refine goesL_ (some 12) rfl rfl Try.func79 (by kernel_rfl) rfl #[.int .i64 a1,.int .i64 0,.int .i64 (wrap64 ((l0.length:Int) - 1))] rfl zz2 ?_;(with_reducible refine (spec_l6In.calls a1 0 (wrap64 ((l0.length:Int) - 1)) true _ A4.out).mono ?_);rintro e w' ⟨rfl,⟨nd,rfl⟩⟩;refine ⟨_,rfl,?_⟩)|((with_reducible refine gate_callee (f:=81) rfl ?_);refine goesL_ (some 15) rfl rfl Try.func81 (by kernel_rfl) rfl #[.slice A0 l0.length c0,.int .i64 a1] rfl zz2 ?_;(with_reducible refine (spec_l2Fields.calls k _ _ l0 a1 t133 _ ?side1 ?side2 A6.out).mono ?_);(case side1=>exact zz47);(case side2=>exact HC0.out);rintro e w7 ⟨v134,rfl,ho0,hb⟩;refine ⟨_,rfl,?_⟩;have HO135:=aK (Kd.R_lower ho0 (below_size zz1));replace HB:=aK (below_step zz1 hb);(try clear hb);(try clear hb2);(try clear hk);(try clear hi);(try clear ho0);obtain ⟨Ao8,co8,eo8⟩:=Kd.R_slice HO135.out;subst eo8))
  go_ret;exact ⟨zz7,zz1⟩
 ·replace c5 := Bool.eq_false_iff.mpr c5
  subst c5;rw [if_neg (show¬(false=true) by decide)] at H;by_cases c9:a1=(-1)
  ·rw [if_pos c9] at H
   have c9b0:(a1==(-1))=true:=beq_iff_eq.mpr c9
   have c9b1:(a1 !=(-1))=false:=bne_eq_false_iff_eq.mpr c9
   clear c9;replace H:=Option.bind_eq_some_iff.mp H;obtain ⟨t136,A100,H⟩:=H;(try dsimp only at H);have A10:=aK A100;clear A100;by_cases c11:t136=true
   ·subst c11
    rw [if_pos rfl] at H;obtain rfl:=Option.some.inj H;go_enter Try.func58,Try.ntmps58
    go_wp2_with (first|((with_reducible refine gate_callee (f:=79) rfl ?_);refine goesL_ (some 12) rfl rfl Try.func79 (by kernel_rfl) rfl #[.int .i64 a1,.int .i64 0,.int .i64 (wrap64 ((l0.length:Int) - 1))] rfl zz2 ?_;(with_reducible refine (spec_l6In.calls a1 0 (wrap64 ((l0.length:Int) - 1)) false _ A4.out).mono ?_);rintro e w' ⟨rfl,⟨nd,rfl⟩⟩;refine ⟨_,rfl,?_⟩)|(go_at_call 79;(with_reducible refine (spec_l6In.calls a2 0 6 true _ A10.out).mono ?_);rintro e w' ⟨rfl,⟨nd,rfl⟩⟩))
    go_ret;exact ⟨zz7,zz1⟩
   ·replace c11 := Bool.eq_false_iff.mpr c11
    subst c11;rw [if_neg (show¬(false=true) by decide)] at H;obtain rfl:=Option.some.inj H;go_enter Try.func58,Try.ntmps58
    go_wp2_with (first|((with_reducible refine gate_callee (f:=79) rfl ?_);refine goesL_ (some 12) rfl rfl Try.func79 (by kernel_rfl) rfl #[.int .i64 a1,.int .i64 0,.int .i64 (wrap64 ((l0.length:Int) - 1))] rfl zz2 ?_;(with_reducible refine (spec_l6In.calls a1 0 (wrap64 ((l0.length:Int) - 1)) false _ A4.out).mono ?_);rintro e w' ⟨rfl,⟨nd,rfl⟩⟩;refine ⟨_,rfl,?_⟩)|(go_at_call 79;(with_reducible refine (spec_l6In.calls a2 0 6 false _ A10.out).mono ?_);rintro e w' ⟨rfl,⟨nd,rfl⟩⟩))
    go_ret;exact ⟨zz7,zz1⟩
  ·rw [if_neg c9] at H
   have c9b0:(a1==(-1))=false:=beq_eq_false_iff_ne.mpr c9
   have c9b1:(a1 !=(-1))=true:=bne_iff_ne.mpr c9
   by_cases c12:a1=(-2)
   ·rw [if_pos c12] at H
    have c12b0:(a1==(-2))=true:=beq_iff_eq.mpr c12
    have c12b1:(a1 !=(-2))=false:=bne_eq_false_iff_eq.mpr c12
    clear c12;replace H:=Option.bind_eq_some_iff.mp H;obtain ⟨t137,A130,H⟩:=H;(try dsimp only at H);have A13:=aK A130;clear A130;by_cases c14:t137=true
    ·subst c14
     rw [if_pos rfl] at H;obtain rfl:=Option.some.inj H;go_enter Try.func58,Try.ntmps58
     go_wp2_with (first|((with_reducible refine gate_callee (f:=79) rfl ?_);refine goesL_ (some 12) rfl rfl Try.func79 (by kernel_rfl) rfl #[.int .i64 a1,.int .i64 0,.int .i64 (wrap64 ((l0.length:Int) - 1))] rfl zz2 ?_;(with_reducible refine (spec_l6In.calls a1 0 (wrap64 ((l0.length:Int) - 1)) false _ A4.out).mono ?_);rintro e w' ⟨rfl,⟨nd,rfl⟩⟩;refine ⟨_,rfl,?_⟩)|(go_at_call 79;(with_reducible refine (spec_l6In.calls a2 0 6 true _ A13.out).mono ?_);rintro e w' ⟨rfl,⟨nd,rfl⟩⟩))
     go_ret;exact ⟨zz7,zz1⟩
    ·replace c14 := Bool.eq_false_iff.mpr c14
     subst c14;rw [if_neg (show¬(false=true) by decide)] at H;obtain rfl:=Option.some.inj H;go_enter Try.func58,Try.ntmps58
     go_wp2_with (first|((with_reducible refine gate_callee (f:=79) rfl ?_);refine goesL_ (some 12) rfl rfl Try.func79 (by kernel_rfl) rfl #[.int .i64 a1,.int .i64 0,.int .i64 (wrap64 ((l0.length:Int) - 1))] rfl zz2 ?_;(with_reducible refine (spec_l6In.calls a1 0 (wrap64 ((l0.length:Int) - 1)) false _ A4.out).mono ?_);rintro e w' ⟨rfl,⟨nd,rfl⟩⟩;refine ⟨_,rfl,?_⟩)|(go_at_call 79;(with_reducible refine (spec_l6In.calls a2 0 6 false _ A13.out).mono ?_);rintro e w' ⟨rfl,⟨nd,rfl⟩⟩))
     go_ret;exact ⟨zz7,zz1⟩
   ·rw [if_neg c12] at H
    have c12b0:(a1==(-2))=false:=beq_eq_false_iff_ne.mpr c12
    have c12b1:(a1 !=(-2))=true:=bne_iff_ne.mpr c12
    obtain rfl:=Option.some.inj H;go_enter Try.func58,Try.ntmps58
    go_wp2_with (first|((with_reducible refine gate_callee (f:=79) rfl ?_);refine goesL_ (some 12) rfl rfl Try.func79 (by kernel_rfl) rfl #[.int .i64 a1,.int .i64 0,.int .i64 (wrap64 ((l0.length:Int) - 1))] rfl zz2 ?_;(with_reducible refine (spec_l6In.calls a1 0 (wrap64 ((l0.length:Int) - 1)) false _ A4.out).mono ?_);rintro e w' ⟨rfl,⟨nd,rfl⟩⟩;refine ⟨_,rfl,?_⟩))
    go_ret;exact ⟨zz7,zz1⟩
def spec_l21Make.f (l0_0:List Int) (a0_1:Int) (a0_2:Int) (a0_3:Int) (l0_4:List Bool) (a1:Int) (a2:Int) (a3:Int):Option (List Int×Int×Int×Int×List Bool×Int):=if 0≤a1 then (if a1<(l0_0.length:Int) then ((some (l0_0.set (a1:Int).toNat a2:List Int)).bind fun y140=>(if a2<0 then (if 0≤(wrap64 (a1+1)) then (if (wrap64 (a1+1))<(l0_0.length:Int) then (some ((y140.set ((wrap64 (a1+1)):Int).toNat a3),a0_1,a0_2,a0_3,l0_4,wrap64 (a1+1))) else (none)) else (none)) else (some (y140,a0_1,a0_2,a0_3,l0_4,wrap64 (a1+1))))) else (none)) else (none)
def spec_l21Try.j0:Nat→Int→Int→Bool→Int→Bool→List Int→Int→Int→Int→List Bool→Option (List Int×Int×Int×Int×List Bool×Int)
  |0,_,_,_,_,_,_,_,_,_,_=>none
  |k+1,x2,x3,x4,x12,x27,x143000,x143001,x143002,x143003,x143004=>if x27=true then ((spec_l21Make.f x143000 x143001 x143002 (wrap64 (x143003+x12)) x143004 (wrap64 ((wrap64 (x143003+x12)) - x12)) x2 x3).bind fun bt145=>(some (bt145.1,bt145.2.1,bt145.2.2.1,bt145.2.2.2.1,bt145.2.2.2.2.1,bt145.2.2.2.2.2))) else (if x4=true then (some (x143000,x143001,x143002,x143003,x143004,0)) else (if (wrap64 (x143002+x12))≤x143001 then ((spec_l21Make.f x143000 x143001 (wrap64 (x143002+x12)) x143003 x143004 (wrap64 ((wrap64 (x143002+x12)) - x12)) x2 x3).bind fun bt155=>(some (bt155.1,bt155.2.1,bt155.2.2.1,bt155.2.2.2.1,bt155.2.2.2.2.1,bt155.2.2.2.2.2))) else (some (x143000,x143001,x143002,x143003,x143004,0))))
def spec_l21Try.f (k:Nat) (l0:List (S112)) (l1_0:List Int) (a1_1:Int) (a1_2:Int) (a1_3:Int) (l1_4:List Bool) (a2:Int) (a3:Int) (a4:Bool):Option (List Int×Int×Int×Int×List Bool×Int):=(spec_l21Want.f k l0 a2 a3).bind fun t144=>(if a4=true then (spec_l21Try.j0 k a2 a3 a4 t144 (decide ((wrap64 (a1_3+t144))≤(l1_0.length:Int))) l1_0 a1_1 a1_2 a1_3 l1_4) else (spec_l21Try.j0 k a2 a3 a4 t144 false l1_0 a1_1 a1_2 a1_3 l1_4))
end Go.Proofs.Ytnlieahdakafbaa.K
namespace Go.Proofs.Ytnlieahdakafbaa.Pure
open Go.RowKit Go.Proofs.Ytnlieahdakafbaa.K Go.Proofs.YtnlieahdakafbaaW.PrintWords Go.Proofs.YtnlieahdakafbaaW.PrintLast Go.Proofs.YtnlieahdakafbaaW.PrintMore
set_option linter.unusedVariables false
set_option linter.unusedSimpArgs false
theorem want_eq {cs:Cs} (h:csOk cs=true) (c n:Int) (k:Nat) (hk:20≤k):spec_l21Want.f k cs c n=some (measN (allF cs) c n):=by
 have hl:=csOk_len h;unfold spec_l21Want.f;rw [spec_l6In_eq,wrap64_of (n:=(cs.length:Int) - 1) (by omega) (by omega)];simp only [Option.bind_some,decide_eq_true_eq]
 by_cases c1:0≤c∧c≤(cs.length:Int) - 1
 ·have c1' : c < (cs.length : Int) := by omega
  obtain ⟨f1,f2⟩:=cfl_eq h c1.1 c1';rw [if_pos c1,fields_same,f2 k (by omega),measN_c n c1.1 c1',Option.bind_some,wrap64_of (n:=1+((cfl cs c).length:Int)) (by omega) (by omega)]
 ·rw [if_neg c1, spec_l6In_eq]
  unfold measN;rw [allF_len];simp only [Option.bind_some,decide_eq_true_eq]
  by_cases e1:c= -1
  ·rw [if_pos e1, if_pos (Or.inl e1)]
   by_cases z:0≤n∧n≤6
   ·rw [if_pos z,if_pos z,wrap64_of (by omega) (by omega)]
   ·rw [if_neg z,if_neg z]
  ·rw [if_neg e1]
   by_cases e2:c= -2
   ·rw [if_pos e2, if_pos (Or.inr e2)]
    by_cases z:0≤n∧n≤6
    ·rw [if_pos z,if_pos z,wrap64_of (by omega) (by omega)]
    ·rw [if_neg z,if_neg z]
   ·rw [if_neg e2,if_neg (by omega),if_neg (by omega)]
theorem measN_size {cs:Cs} (h:csOk cs=true) (c n:Int):0≤measN (allF cs) c n∧measN (allF cs) c n≤9∧(c<0→measN (allF cs) c n≠0→2≤measN (allF cs) c n):=by
 by_cases z:0≤c∧c<cs.length
 ·rw [measN_c n z.1 z.2]
  have:=(cfl_eq h z.1 z.2).1
  omega
 ·unfold measN
  rw [allF_len,if_neg z]
  split
  ·split<;>omega
  ·omega
def mkW (ws:List Int) (i c n:Int):List Int:=if c<0 then (ws.set i.toNat c).set (i+1).toNat n else ws.set i.toNat c
theorem mkW_len (ws:List Int) (i c n:Int):(mkW ws i c n).length=ws.length:=by
  unfold mkW;split<;>simp
def tryB (ws:List Int) (y t o s:Int) (v:Bool):Bool:=match v with|true=>decide (o+s≤(ws.length:Int))|false=>decide (t+s≤y)
def tryM (ws:List Int) (y t o:Int) (cards:List Bool) (c n s:Int) (v:Bool):List Int×Int×Int×Int×List Bool×Int:=
  match v with
  |true=>if tryB ws y t o s true=true then (mkW ws o c n,y,t,o+s,cards,o+1) else (ws,y,t,o,cards,0)
  |false=>if tryB ws y t o s false=true then (mkW ws t c n,y,t+s,o,cards,t+1) else (ws,y,t,o,cards,0)
end Go.Proofs.Ytnlieahdakafbaa.Pure
