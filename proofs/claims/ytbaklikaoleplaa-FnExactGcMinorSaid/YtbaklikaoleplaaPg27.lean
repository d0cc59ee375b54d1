import Derived.Test.YtbaklikaoleplaaPg24
import Derived.Test.YtbaklikaoleplaaPg26
import Derived.Test.YtbaklikaoleplaaPg25
import Derived.BigQuiet
namespace Go.Proofs.Ytbaklikaoleplaa.K
open Go.RowKit Go.Proofs.YtbaklikaoleplaaW.PrintWords Go.Proofs.YtbaklikaoleplaaW.PrintLast Go.Proofs.YtbaklikaoleplaaW.PrintMore
attribute [local go_sem] max2_int min2_int max_two min_two max_three min_three max_four min_four
set_option linter.unusedVariables false
set_option linter.unusedSimpArgs false
def MO (w:World) (b g:Nat) (m:Mm):Prop:= ∃AW cW AC cC AF cF AB cB,
 w.heap[g]? =some (.cells #[.slice AW m.words.length cW,.int .i64 m.young,.int .i64 m.top,.int .i64 m.old,.slice AC m.cards.length cC,.slice AF m.fields.length cF,.slice AB m.begins.length cB] 68 (0,0))∧b≤g∧m.fields.length≤cF∧
 Kd.R (Kd.int .i64) 3 w b (fun k=>(k≠g∧some k≠(Value.slice AC m.cards.length cC).ownBlock)∧some k≠(Value.slice AB m.begins.length cB).ownBlock) (.slice AW m.words.length cW) m.words∧
 Kd.R Kd.bool 4 w b (fun k=>(k≠g∧some k≠(Value.slice AW m.words.length cW).ownBlock)∧some k≠(Value.slice AB m.begins.length cB).ownBlock) (.slice AC m.cards.length cC) m.cards∧
 Kd.F (Kd.slice 3 (Kd.int .i64)) w (fun k=>((k≠g∧some k≠(Value.slice AW m.words.length cW).ownBlock)∧some k≠(Value.slice AC m.cards.length cC).ownBlock)∧some k≠(Value.slice AB m.begins.length cB).ownBlock) AF m.fields.length m.fields∧
 Kd.R (Kd.int .i64) 3 w b (fun k=>(k≠g∧some k≠(Value.slice AW m.words.length cW).ownBlock)∧some k≠(Value.slice AC m.cards.length cC).ownBlock) (.slice AB m.begins.length cB) m.begins
theorem MO_below {w w':World} {b g:Nat} {m:Mm} (h:MO w b g m) (hb:Below w.heap.size w w'):MO w' b g m:=by
  obtain ⟨AW,cW,AC,cC,AF,cF,AB,cB,h0,hg,hf,h1,h2,h3,h4⟩:=h;exact ⟨AW,cW,AC,cC,AF,cF,AB,cB,(hb.block g (blk_lt h0)).trans h0,hg,hf,Kd.R_below h1 hb,Kd.R_below h2 hb,Kd.F_below h3 hb,Kd.R_below h4 hb⟩
theorem MO_MV {w:World} {b g:Nat} {m:Mm} (h:MO w b g m):MV w g m:=by
  obtain ⟨AW,cW,AC,cC,AF,cF,AB,cB,h0,hg,hf,h1,h2,h3,h4⟩:=h;exact ⟨AW,cW,AC,cC,AF,cF,AB,cB,h0,(Kd.R_reads' h1).2.2,(Kd.R_reads' h2).2.2,Kd.F_now h3,(Kd.R_reads' h4).2.2,(Kd.R_reads' h1).2.1,(Kd.R_reads' h2).2.1,hf,(Kd.R_reads' h4).2.1⟩
theorem MO_begins {w w1:World} {b g:Nat} {m:Mm} {AW:Option Addr} {cW:Nat} {AC:Option Addr} {cC:Nat} {AF:Option Addr} {cF:Nat} {AB:Option Addr} {cB:Nat} {AN:Option Addr} {cN:Nat} {ys acc:List Int}
  (h0:w.heap[g]? =some (.cells #[.slice AW m.words.length cW,.int .i64 m.young,.int .i64 m.top,.int .i64 m.old,.slice AC m.cards.length cC,.slice AF m.fields.length cF,.slice AB acc.length cB] 68 (0,0))) (hg:b≤g) (hf:m.fields.length≤cF)
  (h1:Kd.R (Kd.int .i64) 3 w b (fun k=>(k≠g∧some k≠(Value.slice AC m.cards.length cC).ownBlock)∧some k≠(Value.slice AB acc.length cB).ownBlock) (.slice AW m.words.length cW) m.words)
  (h2:Kd.R Kd.bool 4 w b (fun k=>(k≠g∧some k≠(Value.slice AW m.words.length cW).ownBlock)∧some k≠(Value.slice AB acc.length cB).ownBlock) (.slice AC m.cards.length cC) m.cards)
  (h3:Kd.F (Kd.slice 3 (Kd.int .i64)) w (fun k=>((k≠g∧some k≠(Value.slice AW m.words.length cW).ownBlock)∧some k≠(Value.slice AC m.cards.length cC).ownBlock)∧some k≠(Value.slice AB acc.length cB).ownBlock) AF m.fields.length m.fields)
  (h4:Kd.R (Kd.int .i64) 3 w b (fun k=>(k≠g∧some k≠(Value.slice AW m.words.length cW).ownBlock)∧some k≠(Value.slice AC m.cards.length cC).ownBlock) (.slice AB acc.length cB) acc)
  (hn:Kd.R (Kd.int .i64) 3 w1 b (fun k=>(k≠g∧some k≠(Value.slice AW m.words.length cW).ownBlock)∧some k≠(Value.slice AC m.cards.length cC).ownBlock) (.slice AN ys.length cN) ys)
  (hgr:w.grownBy w1 (Value.slice AB acc.length cB).ownBlock) (hat:(Value.slice AN ys.length cN).ownBlock=(Value.slice AB acc.length cB).ownBlock∨∃k,(Value.slice AN ys.length cN).ownBlock=some k∧w.heap.size≤k):
  MO (w1.setCell ⟨g,6,none⟩ (.slice AN ys.length cN)) b g {m with begins:=ys}:=
 ⟨AW, cW, AC, cC, AF, cF, AN, cN, blk_put (blk_grown h0 hgr (Kd.R_away h4 (fun _ hk => hk.1.1))) 6 _ rfl, hg, hf,
  Kd.R_far (Kd.R_after h1 hgr hat) (fun _ hk=>hk.1.1) _,Kd.R_far (Kd.R_after h2 hgr hat) (fun _ hk=>hk.1.1) _,Kd.F_far (Kd.F_after h3 hgr hat) (fun _ hk=>hk.1.1.1) _,Kd.R_far hn (fun _ hk=>hk.1.1) _⟩
def measN (F:List (List Int)) (c n:Int):Int:=if c= -1∨c= -2 then (if 0≤n∧n≤6 then 2+n else 0) else if 0≤c∧c<F.length then 1+((rdL F c).length:Int) else 0
def FShort (F:List (List Int)):Prop:= ∀c:Int,0≤c→c<F.length→(rdL F c).length≤4294967296
theorem measure_eq {F:List (List Int)} (hF:FShort F) (c n:Int):impl_measure.f 1 F c n=some (measN F c n):=by
 have w1: ∀x:Int,impl_within.f 0 x 6=some (decide (0≤x∧x≤6)):=fun x=>by
  unfold impl_within.f;by_cases a:0≤x<;>by_cases b:x≤6<;>simp [a,b]
 have key: ∀t:Bool,impl_measure.j0 1 F c n t=if t=true then (if 0≤n∧n≤6 then some (2+n) else some 0) else if 0≤c∧c<F.length then some (1+((rdL F c).length:Int)) else some 0:=fun t=>by
  show impl_measure.j0 (0+1) F c n t=_
  rw [impl_measure.j0,w1]
  cases t with
  | true =>
   simp only [if_pos,Option.bind_some]
   by_cases a:0≤n∧n≤6
   ·rw [if_pos (decide_eq_true a), if_pos a]
    congr 1
    unfold wrap64;omega
   ·rw [if_neg (by simpa using a),if_neg a]
  | false =>
   simp only [Bool.false_eq_true,if_false]
   by_cases h3:c≥0
   ·rw [if_pos h3]
    by_cases h4:c<(F.length:Int)
    ·rw [if_pos h4, if_pos (show 0 ≤ c from h3), if_pos ⟨h3, h4⟩]
     have:=hF c h3 h4
     show some (wrap64 (1+((rdL F c).length:Int)))=_
     congr 1
     unfold wrap64;omega
    ·rw [if_neg h4,if_neg (fun h=>h4 h.2)]
   ·rw [if_neg h3,if_neg (fun h=>h3 h.1)]
 unfold impl_measure.f measN;rw [key,key];by_cases h1:c= -1
 ·rw [if_pos h1, if_pos rfl, if_pos (Or.inl h1)]
  by_cases a:0≤n∧n≤6
  ·rw [if_pos a,if_pos a]
  ·rw [if_neg a,if_neg a]
 ·rw [if_neg h1]
  by_cases h2:c= -2
  ·rw [if_pos (beq_iff_eq.mpr h2), if_pos (Or.inr h2)]
   by_cases a:0≤n∧n≤6
   ·rw [if_pos a,if_pos a]
   ·rw [if_neg a,if_neg a]
  ·rw [if_neg (by simpa using h2), if_neg (show ¬ (c = -1 ∨ c = -2) from fun h => h.elim h1 h2)]
   by_cases a:0≤c∧c<(F.length:Int)
   ·rw [if_pos a,if_pos a]
   ·rw [if_neg a,if_neg a]
theorem measN_nn (F:List (List Int)) (c n:Int):0≤measN F c n:=by
 unfold measN
 split
 ·split<;>omega
 ·split<;>omega
theorem measN_le {F:List (List Int)} (hF:FShort F) (c n:Int):measN F c n≤4294967297:=by
 unfold measN
 split
 ·split<;>omega
 ·split
  case isTrue h=>have:=hF c h.1 h.2;omega
  case isFalse=>omega
theorem measure_calls (AF:Option Addr) (cF:Nat) (F:List (List Int)) (c n s:Int) (w:World) (hr:Kd.C (Kd.slice 3 (Kd.int .i64)) w AF F.length F) (hc:F.length≤cF) (hF:FShort F) (hs:measN F c n=s):
    Calls Try.prog 100 #[.slice AF F.length cF,.int .i64 c,.int .i64 n] w fun e w'=>e= .returned (.int .i64 s)∧Below w.heap.size w w':=
  (impl_measure.calls 1 AF cF F c n s w hr hc (by rw [measure_eq hF,hs])).mono (fun e w' h=>⟨h.1,h.2.below⟩)
def mstep (ws:List Int) (F:List (List Int)) (hi x:Int):Int:=
  if rd ws x<0 then (if x+1<hi then (if measN F (rd ws x) (rd ws (x+1))≤hi - x then measN F (rd ws x) (rd ws (x+1)) else 0) else 0)
  else (if measN F (rd ws x) 0≤hi - x then measN F (rd ws x) 0 else 0)
def mwalk (ws:List Int) (F:List (List Int)) (hi:Int):Nat→Int→List Int→Option (Bool×List Int)
  |0,_,_=>none
  |k+1,x,acc=>if x<hi then (if mstep ws F hi x=0 then some (false,acc) else mwalk ws F hi k (x+mstep ws F hi x) (acc++[x+1])) else some (true,acc)
theorem mwalk_lt (ws:List Int) (F:List (List Int)) (hi x:Int):mstep ws F hi x=0∨(0<mstep ws F hi x∧mstep ws F hi x≤hi - x):=by
 unfold mstep;have h1:=measN_nn F (rd ws x) (rd ws (x+1));have h2:=measN_nn F (rd ws x) 0;repeat' split
 all_goals omega
set_option maxHeartbeats 16000000 in
set_option maxRecDepth 100000 in
theorem memory_walk.calls (b g:Nat) (m:Mm) (from_ hi:Int) (q:Nat) (r:Bool×List Int) (w:World) (hm:MO w b g m) (hb:b≤w.heap.size) (h0:0≤from_) (h1:hi≤m.words.length) (h2:m.words.length≤1048576) (h3:m.begins.length≤1048576) (h4:FShort m.fields)
  (h:mwalk m.words m.fields hi q from_ m.begins=some r):
  Calls Try.prog 68 #[.pointer (some ⟨g,0,none⟩),.int .i64 from_,.int .i64 hi] w fun e w'=>e= .returned (.bool r.1)∧MO w' b g {m with begins:=r.2}∧Below b w w':=by
 have HM:=aK hm;have HBs:=aK hb;have H0:=aK h0;have H1:=aK h1;have H2:=aK h2;have H3:=aK h3;have H4:=aK h4;have HW:=aK h;clear hm hb h0 h1 h2 h3 h4 h;go_enter Try.func68,Try.ntmps68;go_wp2
 go_loopw [7] (fun i wr=> ∃(k:Nat) (x:Int) (acc:List Int),i= .int .i64 x∧Aside0 (mwalk m.words m.fields hi k x acc=some r)∧Aside0 (0≤x)∧Aside0 (acc.length≤m.begins.length+x.toNat)∧Aside0 (MO wr b g {m with begins:=acc})∧Aside0 (Below b w wr)) (fun i _=>(hi - intOf i).toNat)
 case atStart=>exact ⟨q,from_,m.begins,rfl,HW,H0,⟨by omega⟩,HM,⟨Below.refl _ _⟩⟩
 case round =>
  obtain ⟨k,x,acc,rfl,HA,HX,HL,HO,HB0⟩:=hrel
  cases k with
  |zero=>exact absurd HA.out (by simp [mwalk])
  | succ k1 =>
   have H:=HA.out;clear HA;unfold mwalk at H;by_cases c0:x<hi
   ·rw [if_pos c0] at H
    have d0:decide (x<hi)=true:=decide_eq_true c0
    have HV:=aK (MO_MV HO.out);obtain ⟨AW,cW,AC,cC,AF,cF,AB,cB,g0,hg,hf,r1,r2,r3,r4⟩:=HO.out;have hx:=HX.out;have hl1:=H1.out;have hl2:=H2.out;obtain ⟨ad,e0,hcell⟩:=Kd.at_int (Kd.R_reads' r1).2.2 x (by omega) (by show x<(m.words.length:Int);omega)
    cases e0
    have R1:=aK r1;have R2:=aK r2;have R3:=aK r3;have R4:=aK r4;have G0:=aK g0;have HF:=aK hf;have HGb:=aK hg;have p1:=eq_true hx;have p2:=eq_true (show x<(m.words.length:Int) by omega);have k0:=(blk_cell g0 0).trans rfl;have k5:=(blk_cell g0 5).trans rfl;have k6:=(blk_cell g0 6).trans rfl;obtain ⟨u,hu⟩: ∃u,rd m.words x=u:=⟨_,rfl⟩;have HU:=aK hu;replace hcell:wr.cell? (ad.add x.toNat)=some (.int .i64 u):=by rw [←hu];exact hcell
    obtain ⟨x1,hx1⟩: ∃x1,x1=x+1:=⟨_,rfl⟩;have q1:IntKind.i64.wrap (x+1)=x1:=by rw [hx1];exact IntWalk.i64_in _ ⟨by omega,by omega⟩
    have HX1:=aK hx1;have HC0:=aK c0;clear r1 r2 r3 r4 g0 hg hf hu c0;by_cases c1:u<0
    ·have d1 : decide (u < 0) = true := decide_eq_true c1
     by_cases c2:x+1<hi
     ·have d2 : decide (x1 ≥ hi) = false := decide_eq_false (by omega)
      obtain ⟨ad2,e0,hcell2⟩:=Kd.at_int (Kd.R_reads' R1.out).2.2 x1 (by omega) (by show x1<(m.words.length:Int);omega)
      cases e0
      have p3:=eq_true (show 0≤x1 by omega);have p4:=eq_true (show x1<(m.words.length:Int) by omega);obtain ⟨n,hn⟩: ∃n,rd m.words x1=n:=⟨_,rfl⟩;replace hcell2:wr.cell? (ad.add x1.toNat)=some (.int .i64 n):=by rw [←hn];exact hcell2
      obtain ⟨s,hs⟩: ∃s,measN m.fields u n=s:=⟨_,rfl⟩;have HS:=aK hs;have HST:=aK (show mstep m.words m.fields hi x=if s≤hi - x then s else 0 by unfold mstep;rw [HU.out,if_pos c1,if_pos c2,←hx1,hn,hs]);clear hs hn c1 c2;have HFC:=aK (Kd.F_now R3.out);have HB:=aK (Below.refl wr.heap.size wr);have HM1:=aK (MO_MV HO.out);have hs0:=measN_nn m.fields u n;rw [HS.out] at hs0;have hs1:=measN_le H4.out u n;rw [HS.out] at hs1;obtain ⟨t,ht⟩: ∃t,t=hi - x:=⟨_,rfl⟩;have q2:IntKind.i64.wrap (hi - x)=t:=by rw [ht];exact IntWalk.i64_in _ ⟨by have:=HC0.out;omega,by omega⟩
      by_cases z0:s=0
      ·have e1 : (s == 0) = true := beq_iff_eq.mpr z0
       have hz:mstep m.words m.fields hi x=0:=by rw [HST.out];split<;>omega
       rw [if_pos hz] at H;have HR:=aK (Option.some.inj H);clear H hz ht hs0 hs1 z0 hl1 hl2 hx1 hx;go_wp2;refine sT 15 (S:=fun w'=>Aside0 (Below wr.heap.size wr w')∧Aside0 (MV w' g ({m with begins:=acc}))∧w'.cell? (⟨g,0,none⟩)=some (.slice (some ad) m.words.length cW)∧w'.cell? (⟨g,5,none⟩)=some (.slice AF m.fields.length cF)∧w'.cell? (ad.add x.toNat)=some (.int .i64 u)∧w'.cell? (⟨g,6,none⟩)=some (.slice AB acc.length cB)) (ds:=[]) ⟨⟨below_drew1 HB.out⟩,⟨MV_below HM1.out (below_drew1 (Below.refl _ _))⟩,(by go_simp),(by go_simp),(by go_simp),(by go_simp)⟩ (fun hHeld=>?_);refine pS 0 36 (lA 15 1) ?_;refine pS 1 37 (lA 15 3) ?_;refine pS 2 38 (lA 15 7) ?_;refine pS 4 40 (lA 15 23) ?_;refine pS 5 41 (lA 15 55) ?_;refine pS 6 42 (lA 15 119) ?_;refine pS 7 43 (lA 15 247) ?_;refine pS 9 45 (lA 15 759) ?_;refine pS 12 48 (lA 15 4855) ?_;refine tS 3 39 (lA 15 4863) rfl rfl (by kernel_rfl) hHeld zz4 ?_;refine tS 8 44 (lA 15 5119) rfl rfl (by kernel_rfl) hHeld zz4 ?_;refine pS 10 46 (lA 15 6143) ?_;refine tS 11 47 (lA 15 8191) rfl rfl (by kernel_rfl) hHeld zz4 ?_;refine oS 13 49 (lA 15 16383) rfl rfl (fun K hK=>?_);refine gO Try.func100 #[.slice AF m.fields.length cF,.int .i64 u,.int .i64 n] ?_;(with_reducible refine (measure_calls AF cF m.fields u n s _ (Kd.C_below HFC.out hHeld.1.out) HF.out H4.out HS.out).mono ?_);rintro e w3 ⟨rfl,hb3⟩;refine ⟨_,rfl,?_⟩;refine hK.out _ _ ⟨⟨below_step hHeld.1.out hb3⟩,⟨MV_below hHeld.2.1.out hb3⟩,(pw_cell_below hb3 hHeld.2.2.1),(pw_cell_below hb3 hHeld.2.2.2.1),(pw_cell_below hb3 hHeld.2.2.2.2.1),(pw_cell_below hb3 hHeld.2.2.2.2.2)⟩ (fun hHeld=>?_);clear hK K;refine nS 49 ?_;refine pS 14 9 (lA 15 32767) ?_;refine done_ (by kernel_rfl) ?_;go_wp2;go_ret;exact ⟨by rw [←HR.out];rfl,by rw [←HR.out];exact MO_below HO.out hHeld.1.out,below_then HB0.out (Nat.le_trans HBs.out HB0.out.size) hHeld.1.out⟩
      have e1:(s==0)=false:=beq_eq_false_iff_ne.mpr z0
      by_cases z1:s>t
      ·have e2 : decide (s > t) = true := decide_eq_true z1
       have hz:mstep m.words m.fields hi x=0:=by rw [HST.out];split<;>omega
       rw [if_pos hz] at H;have HR:=aK (Option.some.inj H);clear H hz ht hs0 hs1 z0 z1 hl1 hl2 hx1 hx;go_wp2;refine sT 15 (S:=fun w'=>Aside0 (Below wr.heap.size wr w')∧Aside0 (MV w' g ({m with begins:=acc}))∧w'.cell? (⟨g,0,none⟩)=some (.slice (some ad) m.words.length cW)∧w'.cell? (⟨g,5,none⟩)=some (.slice AF m.fields.length cF)∧w'.cell? (ad.add x.toNat)=some (.int .i64 u)∧w'.cell? (⟨g,6,none⟩)=some (.slice AB acc.length cB)) (ds:=[]) ⟨⟨below_drew1 HB.out⟩,⟨MV_below HM1.out (below_drew1 (Below.refl _ _))⟩,(by go_simp),(by go_simp),(by go_simp),(by go_simp)⟩ (fun hHeld=>?_);refine pS 0 36 (lA 15 1) ?_;refine pS 1 37 (lA 15 3) ?_;refine pS 2 38 (lA 15 7) ?_;refine pS 4 40 (lA 15 23) ?_;refine pS 5 41 (lA 15 55) ?_;refine pS 6 42 (lA 15 119) ?_;refine pS 7 43 (lA 15 247) ?_;refine pS 9 45 (lA 15 759) ?_;refine pS 12 48 (lA 15 4855) ?_;refine tS 3 39 (lA 15 4863) rfl rfl (by kernel_rfl) hHeld zz4 ?_;refine tS 8 44 (lA 15 5119) rfl rfl (by kernel_rfl) hHeld zz4 ?_;refine pS 10 46 (lA 15 6143) ?_;refine tS 11 47 (lA 15 8191) rfl rfl (by kernel_rfl) hHeld zz4 ?_;refine oS 13 49 (lA 15 16383) rfl rfl (fun K hK=>?_);refine gO Try.func100 #[.slice AF m.fields.length cF,.int .i64 u,.int .i64 n] ?_;(with_reducible refine (measure_calls AF cF m.fields u n s _ (Kd.C_below HFC.out hHeld.1.out) HF.out H4.out HS.out).mono ?_);rintro e w3 ⟨rfl,hb3⟩;refine ⟨_,rfl,?_⟩;refine hK.out _ _ ⟨⟨below_step hHeld.1.out hb3⟩,⟨MV_below hHeld.2.1.out hb3⟩,(pw_cell_below hb3 hHeld.2.2.1),(pw_cell_below hb3 hHeld.2.2.2.1),(pw_cell_below hb3 hHeld.2.2.2.2.1),(pw_cell_below hb3 hHeld.2.2.2.2.2)⟩ (fun hHeld=>?_);clear hK K;refine nS 49 ?_;refine pS 14 9 (lA 15 32767) ?_;refine done_ (by kernel_rfl) ?_;go_wp2;go_ret;exact ⟨by rw [←HR.out];rfl,by rw [←HR.out];exact MO_below HO.out hHeld.1.out,below_then HB0.out (Nat.le_trans HBs.out HB0.out.size) hHeld.1.out⟩
      ·have e2 : decide (s > t) = false := decide_eq_false z1
       have hz:mstep m.words m.fields hi x=s:=by rw [HST.out,if_pos (by omega)]
       rw [hz,if_neg z0,←HX1.out] at H;obtain ⟨x2,hx2⟩: ∃x2,x2=x+s:=⟨_,rfl⟩;have q3:IntKind.i64.wrap (x+s)=x2:=by rw [hx2];exact IntWalk.i64_in _ ⟨by omega,by omega⟩
       rw [←hx2] at H;have H':=aK H;have HX2:=aK hx2;have HT:=aK ht;have HZ:=aK (show 0<s∧s≤t by omega);clear H ht hs0 hs1 z0 z1 hl1 hl2 hz hx2 hx1 hx;go_wp2;refine sT 15 (S:=fun w'=>Aside0 (Below wr.heap.size wr w')∧Aside0 (MV w' g ({m with begins:=acc}))∧w'.cell? (⟨g,0,none⟩)=some (.slice (some ad) m.words.length cW)∧w'.cell? (⟨g,5,none⟩)=some (.slice AF m.fields.length cF)∧w'.cell? (ad.add x.toNat)=some (.int .i64 u)∧w'.cell? (⟨g,6,none⟩)=some (.slice AB acc.length cB)) (ds:=[]) ⟨⟨below_drew1 HB.out⟩,⟨MV_below HM1.out (below_drew1 (Below.refl _ _))⟩,(by go_simp),(by go_simp),(by go_simp),(by go_simp)⟩ (fun hHeld=>?_);refine pS 0 36 (lA 15 1) ?_;refine pS 1 37 (lA 15 3) ?_;refine pS 2 38 (lA 15 7) ?_;refine pS 4 40 (lA 15 23) ?_;refine pS 5 41 (lA 15 55) ?_;refine pS 6 42 (lA 15 119) ?_;refine pS 7 43 (lA 15 247) ?_;refine pS 9 45 (lA 15 759) ?_;refine pS 12 48 (lA 15 4855) ?_;refine tS 3 39 (lA 15 4863) rfl rfl (by kernel_rfl) hHeld zz4 ?_;refine tS 8 44 (lA 15 5119) rfl rfl (by kernel_rfl) hHeld zz4 ?_;refine pS 10 46 (lA 15 6143) ?_;refine tS 11 47 (lA 15 8191) rfl rfl (by kernel_rfl) hHeld zz4 ?_;refine oS 13 49 (lA 15 16383) rfl rfl (fun K hK=>?_);refine gO Try.func100 #[.slice AF m.fields.length cF,.int .i64 u,.int .i64 n] ?_;(with_reducible refine (measure_calls AF cF m.fields u n s _ (Kd.C_below HFC.out hHeld.1.out) HF.out H4.out HS.out).mono ?_);rintro e w3 ⟨rfl,hb3⟩;refine ⟨_,rfl,?_⟩;refine hK.out _ _ ⟨⟨below_step hHeld.1.out hb3⟩,⟨MV_below hHeld.2.1.out hb3⟩,(pw_cell_below hb3 hHeld.2.2.1),(pw_cell_below hb3 hHeld.2.2.2.1),(pw_cell_below hb3 hHeld.2.2.2.2.1),(pw_cell_below hb3 hHeld.2.2.2.2.2)⟩ (fun hHeld=>?_);clear hK K;refine nS 49 ?_;refine pS 14 9 (lA 15 32767) ?_;refine done_ (by kernel_rfl) ?_;have HB2:=hHeld.1;have k6:=hHeld.2.2.2.2.2;clear hHeld HB HM1 HFC HV;have GN:=aK ((HB2.out.block g (blk_lt G0.out)).trans G0.out);have HS3:=aK (show b≤w3.heap.size from Nat.le_trans (Nat.le_trans HBs.out HB0.out.size) HB2.out.size)
       go_wp2_with ((with_reducible refine gate_builtin (b:= .append) (xs:= #[.tmp 63,.tmp 66]) rfl ?_);at_builtin;refine Kd.R_append (Kd.int .i64) (w0:=w) b rfl (.tmp 63) (.tmp 66) 23 3 (.int .i64 0) 8 rfl Try.underlying23 info3 rfl (by decide) (by omega) (.slice AB acc.length cB) acc x1 [.int .i64 x1] (fun k=>(k≠g∧some k≠(Value.slice (some ad) m.words.length cW).ownBlock)∧some k≠(Value.slice AC m.cards.length cC).ownBlock) (fun _=>False) rfl rfl ?aP (fun _ hk=>hk.elim) ?aF ?aO ?aB ?aS ?aL ?_;(case aP=>exact rfl);(case aB=>exact below_then HB0.out (Nat.le_trans HBs.out HB0.out.size) HB2.out);(case aF=>exact fun k hk=>⟨⟨by have:=blk_lt GN.out;omega,fun e=>by have:=Kd.R_lt (Kd.R_below R1.out HB2.out) k e.symm;omega⟩,fun e=>by have:=Kd.R_lt (Kd.R_below R2.out HB2.out) k e.symm;omega⟩);(case aO=>exact Kd.R_below R4.out HB2.out);(case aS=>exact HS3.out);(case aL=>have:=HL.out;have:=H3.out;have:=H1.out;have:=H2.out;have:=HC0.out;omega);intro v67 w5 ho hbn hgr hat;obtain ⟨AN,cN,rfl⟩:=Kd.R_slice ho;have HMO:=aK (MO_begins GN.out HGb.out HF.out (Kd.R_below R1.out HB2.out) (Kd.R_below R2.out HB2.out) (Kd.F_below R3.out HB2.out) (Kd.R_below R4.out HB2.out) ho hgr hat);have HBN:=aK (show Below b w (w5.setCell ⟨g,6,none⟩ (.slice AN (acc++[x1]).length cN)) from hbn.setCell HGb.out _);have GW:=aK (blk_grown GN.out hgr (Kd.R_away (Kd.R_below R4.out HB2.out) (fun _ hk=>hk.1.1)));have n6:=(blk_cell GW.out 6).trans rfl;have nf6:=blk_frozen GW.out 6;clear ho hbn hgr hat)
       go_roundw
       case rel=>exact ⟨k1,x2,acc++[x1],rfl,H',⟨by have:=HX2.out;have:=HZ.out;have:=HX.out;omega⟩,⟨by have:=HL.out;have:=HX2.out;have:=HZ.out;have:=HX.out;rw [List.length_append,List.length_singleton];omega⟩,by rw [show acc.length+1=(acc++[x1]).length by simp];exact HMO,by rw [show acc.length+1=(acc++[x1]).length by simp];exact HBN⟩
       case measure=>have:=HX2.out;have:=HZ.out;have:=HT.out;show (hi - x2).toNat<(hi - x).toNat;omega
     ·have d2 : decide (x1 ≥ hi) = true := decide_eq_true (by omega)
      have hz:mstep m.words m.fields hi x=0:=by unfold mstep;rw [HU.out,if_pos c1,if_neg c2]
      rw [if_pos hz] at H;have HR:=aK (Option.some.inj H);clear H hz c1 c2 hx1 hx hl1 hl2;go_wp2;go_ret;exact ⟨by rw [←HR.out];rfl,by rw [←HR.out];exact HO.out,HB0.out⟩
    ·have d1 : decide (u < 0) = false := decide_eq_false c1
     obtain ⟨s,hs⟩: ∃s,measN m.fields u 0=s:=⟨_,rfl⟩;have HS:=aK hs;have HST:=aK (show mstep m.words m.fields hi x=if s≤hi - x then s else 0 by unfold mstep;rw [HU.out,if_neg c1,hs]);clear hs c1;have HFC:=aK (Kd.F_now R3.out);have HB:=aK (Below.refl wr.heap.size wr);have HM1:=aK (MO_MV HO.out);have hs0:=measN_nn m.fields u 0;rw [HS.out] at hs0;have hs1:=measN_le H4.out u 0;rw [HS.out] at hs1;obtain ⟨t,ht⟩: ∃t,t=hi - x:=⟨_,rfl⟩;have q2:IntKind.i64.wrap (hi - x)=t:=by rw [ht];exact IntWalk.i64_in _ ⟨by have:=HC0.out;omega,by omega⟩
     by_cases z0:s=0
     ·have e1 : (s == 0) = true := beq_iff_eq.mpr z0
      have hz:mstep m.words m.fields hi x=0:=by rw [HST.out];split<;>omega
      rw [if_pos hz] at H;have HR:=aK (Option.some.inj H);clear H hz ht hs0 hs1 z0 hl1 hl2 hx1 hx;go_wp2;refine sT 15 (S:=fun w'=>Aside0 (Below wr.heap.size wr w')∧Aside0 (MV w' g ({m with begins:=acc}))∧w'.cell? (⟨g,0,none⟩)=some (.slice (some ad) m.words.length cW)∧w'.cell? (⟨g,5,none⟩)=some (.slice AF m.fields.length cF)∧w'.cell? (ad.add x.toNat)=some (.int .i64 u)∧w'.cell? (⟨g,6,none⟩)=some (.slice AB acc.length cB)) (ds:=[]) ⟨⟨below_drew1 HB.out⟩,⟨MV_below HM1.out (below_drew1 (Below.refl _ _))⟩,(by go_simp),(by go_simp),(by go_simp),(by go_simp)⟩ (fun hHeld=>?_);refine pS 0 36 (lA 15 1) ?_;refine pS 1 37 (lA 15 3) ?_;refine pS 2 38 (lA 15 7) ?_;refine pS 4 40 (lA 15 23) ?_;refine pS 5 41 (lA 15 55) ?_;refine pS 6 42 (lA 15 119) ?_;refine pS 7 43 (lA 15 247) ?_;refine pS 9 45 (lA 15 759) ?_;refine pS 12 48 (lA 15 4855) ?_;refine tS 3 39 (lA 15 4863) rfl rfl (by kernel_rfl) hHeld zz4 ?_;refine tS 8 44 (lA 15 5119) rfl rfl (by kernel_rfl) hHeld zz4 ?_;refine pS 10 46 (lA 15 6143) ?_;refine tS 11 47 (lA 15 8191) rfl rfl (by kernel_rfl) hHeld zz4 ?_;refine oS 13 49 (lA 15 16383) rfl rfl (fun K hK=>?_);refine gO Try.func100 #[.slice AF m.fields.length cF,.int .i64 u,.int .i64 0] ?_;(with_reducible refine (measure_calls AF cF m.fields u 0 s _ (Kd.C_below HFC.out hHeld.1.out) HF.out H4.out HS.out).mono ?_);rintro e w3 ⟨rfl,hb3⟩;refine ⟨_,rfl,?_⟩;refine hK.out _ _ ⟨⟨below_step hHeld.1.out hb3⟩,⟨MV_below hHeld.2.1.out hb3⟩,(pw_cell_below hb3 hHeld.2.2.1),(pw_cell_below hb3 hHeld.2.2.2.1),(pw_cell_below hb3 hHeld.2.2.2.2.1),(pw_cell_below hb3 hHeld.2.2.2.2.2)⟩ (fun hHeld=>?_);clear hK K;refine nS 49 ?_;refine pS 14 9 (lA 15 32767) ?_;refine done_ (by kernel_rfl) ?_;go_wp2;go_ret;exact ⟨by rw [←HR.out];rfl,by rw [←HR.out];exact MO_below HO.out hHeld.1.out,below_then HB0.out (Nat.le_trans HBs.out HB0.out.size) hHeld.1.out⟩
     have e1:(s==0)=false:=beq_eq_false_iff_ne.mpr z0
     by_cases z1:s>t
     ·have e2 : decide (s > t) = true := decide_eq_true z1
      have hz:mstep m.words m.fields hi x=0:=by rw [HST.out];split<;>omega
      rw [if_pos hz] at H;have HR:=aK (Option.some.inj H);clear H hz ht hs0 hs1 z0 z1 hl1 hl2 hx1 hx;go_wp2;refine sT 15 (S:=fun w'=>Aside0 (Below wr.heap.size wr w')∧Aside0 (MV w' g ({m with begins:=acc}))∧w'.cell? (⟨g,0,none⟩)=some (.slice (some ad) m.words.length cW)∧w'.cell? (⟨g,5,none⟩)=some (.slice AF m.fields.length cF)∧w'.cell? (ad.add x.toNat)=some (.int .i64 u)∧w'.cell? (⟨g,6,none⟩)=some (.slice AB acc.length cB)) (ds:=[]) ⟨⟨below_drew1 HB.out⟩,⟨MV_below HM1.out (below_drew1 (Below.refl _ _))⟩,(by go_simp),(by go_simp),(by go_simp),(by go_simp)⟩ (fun hHeld=>?_);refine pS 0 36 (lA 15 1) ?_;refine pS 1 37 (lA 15 3) ?_;refine pS 2 38 (lA 15 7) ?_;refine pS 4 40 (lA 15 23) ?_;refine pS 5 41 (lA 15 55) ?_;refine pS 6 42 (lA 15 119) ?_;refine pS 7 43 (lA 15 247) ?_;refine pS 9 45 (lA 15 759) ?_;refine pS 12 48 (lA 15 4855) ?_;refine tS 3 39 (lA 15 4863) rfl rfl (by kernel_rfl) hHeld zz4 ?_;refine tS 8 44 (lA 15 5119) rfl rfl (by kernel_rfl) hHeld zz4 ?_;refine pS 10 46 (lA 15 6143) ?_;refine tS 11 47 (lA 15 8191) rfl rfl (by kernel_rfl) hHeld zz4 ?_;refine oS 13 49 (lA 15 16383) rfl rfl (fun K hK=>?_);refine gO Try.func100 #[.slice AF m.fields.length cF,.int .i64 u,.int .i64 0] ?_;(with_reducible refine (measure_calls AF cF m.fields u 0 s _ (Kd.C_below HFC.out hHeld.1.out) HF.out H4.out HS.out).mono ?_);rintro e w3 ⟨rfl,hb3⟩;refine ⟨_,rfl,?_⟩;refine hK.out _ _ ⟨⟨below_step hHeld.1.out hb3⟩,⟨MV_below hHeld.2.1.out hb3⟩,(pw_cell_below hb3 hHeld.2.2.1),(pw_cell_below hb3 hHeld.2.2.2.1),(pw_cell_below hb3 hHeld.2.2.2.2.1),(pw_cell_below hb3 hHeld.2.2.2.2.2)⟩ (fun hHeld=>?_);clear hK K;refine nS 49 ?_;refine pS 14 9 (lA 15 32767) ?_;refine done_ (by kernel_rfl) ?_;go_wp2;go_ret;exact ⟨by rw [←HR.out];rfl,by rw [←HR.out];exact MO_below HO.out hHeld.1.out,below_then HB0.out (Nat.le_trans HBs.out HB0.out.size) hHeld.1.out⟩
     ·have e2 : decide (s > t) = false := decide_eq_false z1
      have hz:mstep m.words m.fields hi x=s:=by rw [HST.out,if_pos (by omega)]
      rw [hz,if_neg z0,←HX1.out] at H;obtain ⟨x2,hx2⟩: ∃x2,x2=x+s:=⟨_,rfl⟩;have q3:IntKind.i64.wrap (x+s)=x2:=by rw [hx2];exact IntWalk.i64_in _ ⟨by omega,by omega⟩
      rw [←hx2] at H;have H':=aK H;have HX2:=aK hx2;have HT:=aK ht;have HZ:=aK (show 0<s∧s≤t by omega);clear H ht hs0 hs1 z0 z1 hl1 hl2 hz hx2 hx1 hx;go_wp2;refine sT 15 (S:=fun w'=>Aside0 (Below wr.heap.size wr w')∧Aside0 (MV w' g ({m with begins:=acc}))∧w'.cell? (⟨g,0,none⟩)=some (.slice (some ad) m.words.length cW)∧w'.cell? (⟨g,5,none⟩)=some (.slice AF m.fields.length cF)∧w'.cell? (ad.add x.toNat)=some (.int .i64 u)∧w'.cell? (⟨g,6,none⟩)=some (.slice AB acc.length cB)) (ds:=[]) ⟨⟨below_drew1 HB.out⟩,⟨MV_below HM1.out (below_drew1 (Below.refl _ _))⟩,(by go_simp),(by go_simp),(by go_simp),(by go_simp)⟩ (fun hHeld=>?_);refine pS 0 36 (lA 15 1) ?_;refine pS 1 37 (lA 15 3) ?_;refine pS 2 38 (lA 15 7) ?_;refine pS 4 40 (lA 15 23) ?_;refine pS 5 41 (lA 15 55) ?_;refine pS 6 42 (lA 15 119) ?_;refine pS 7 43 (lA 15 247) ?_;refine pS 9 45 (lA 15 759) ?_;refine pS 12 48 (lA 15 4855) ?_;refine tS 3 39 (lA 15 4863) rfl rfl (by kernel_rfl) hHeld zz4 ?_;refine tS 8 44 (lA 15 5119) rfl rfl (by kernel_rfl) hHeld zz4 ?_;refine pS 10 46 (lA 15 6143) ?_;refine tS 11 47 (lA 15 8191) rfl rfl (by kernel_rfl) hHeld zz4 ?_;refine oS 13 49 (lA 15 16383) rfl rfl (fun K hK=>?_);refine gO Try.func100 #[.slice AF m.fields.length cF,.int .i64 u,.int .i64 0] ?_;(with_reducible refine (measure_calls AF cF m.fields u 0 s _ (Kd.C_below HFC.out hHeld.1.out) HF.out H4.out HS.out).mono ?_);rintro e w3 ⟨rfl,hb3⟩;refine ⟨_,rfl,?_⟩;refine hK.out _ _ ⟨⟨below_step hHeld.1.out hb3⟩,⟨MV_below hHeld.2.1.out hb3⟩,(pw_cell_below hb3 hHeld.2.2.1),(pw_cell_below hb3 hHeld.2.2.2.1),(pw_cell_below hb3 hHeld.2.2.2.2.1),(pw_cell_below hb3 hHeld.2.2.2.2.2)⟩ (fun hHeld=>?_);clear hK K;refine nS 49 ?_;refine pS 14 9 (lA 15 32767) ?_;refine done_ (by kernel_rfl) ?_;have HB2:=hHeld.1;have k6:=hHeld.2.2.2.2.2;clear hHeld HB HM1 HFC HV;have GN:=aK ((HB2.out.block g (blk_lt G0.out)).trans G0.out);have HS3:=aK (show b≤w3.heap.size from Nat.le_trans (Nat.le_trans HBs.out HB0.out.size) HB2.out.size)
      go_wp2_with ((with_reducible refine gate_builtin (b:= .append) (xs:= #[.tmp 63,.tmp 66]) rfl ?_);at_builtin;refine Kd.R_append (Kd.int .i64) (w0:=w) b rfl (.tmp 63) (.tmp 66) 23 3 (.int .i64 0) 8 rfl Try.underlying23 info3 rfl (by decide) (by omega) (.slice AB acc.length cB) acc x1 [.int .i64 x1] (fun k=>(k≠g∧some k≠(Value.slice (some ad) m.words.length cW).ownBlock)∧some k≠(Value.slice AC m.cards.length cC).ownBlock) (fun _=>False) rfl rfl ?aP (fun _ hk=>hk.elim) ?aF ?aO ?aB ?aS ?aL ?_;(case aP=>exact rfl);(case aB=>exact below_then HB0.out (Nat.le_trans HBs.out HB0.out.size) HB2.out);(case aF=>exact fun k hk=>⟨⟨by have:=blk_lt GN.out;omega,fun e=>by have:=Kd.R_lt (Kd.R_below R1.out HB2.out) k e.symm;omega⟩,fun e=>by have:=Kd.R_lt (Kd.R_below R2.out HB2.out) k e.symm;omega⟩);(case aO=>exact Kd.R_below R4.out HB2.out);(case aS=>exact HS3.out);(case aL=>have:=HL.out;have:=H3.out;have:=H1.out;have:=H2.out;have:=HC0.out;omega);intro v67 w5 ho hbn hgr hat;obtain ⟨AN,cN,rfl⟩:=Kd.R_slice ho;have HMO:=aK (MO_begins GN.out HGb.out HF.out (Kd.R_below R1.out HB2.out) (Kd.R_below R2.out HB2.out) (Kd.F_below R3.out HB2.out) (Kd.R_below R4.out HB2.out) ho hgr hat);have HBN:=aK (show Below b w (w5.setCell ⟨g,6,none⟩ (.slice AN (acc++[x1]).length cN)) from hbn.setCell HGb.out _);have GW:=aK (blk_grown GN.out hgr (Kd.R_away (Kd.R_below R4.out HB2.out) (fun _ hk=>hk.1.1)));have n6:=(blk_cell GW.out 6).trans rfl;have nf6:=blk_frozen GW.out 6;clear ho hbn hgr hat)
      go_roundw
      case rel=>exact ⟨k1,x2,acc++[x1],rfl,H',⟨by have:=HX2.out;have:=HZ.out;have:=HX.out;omega⟩,⟨by have:=HL.out;have:=HX2.out;have:=HZ.out;have:=HX.out;rw [List.length_append,List.length_singleton];omega⟩,by rw [show acc.length+1=(acc++[x1]).length by simp];exact HMO,by rw [show acc.length+1=(acc++[x1]).length by simp];exact HBN⟩
      case measure=>have:=HX2.out;have:=HZ.out;have:=HT.out;show (hi - x2).toNat<(hi - x).toNat;omega
   ·rw [if_neg c0] at H
    have d0:decide (x<hi)=false:=decide_eq_false c0
    have HR:=aK (Option.some.inj H);clear H c0;go_wp2;go_ret;exact ⟨by rw [←HR.out];rfl,by rw [←HR.out];exact HO.out,HB0.out⟩
set_option maxHeartbeats 4000000 in
set_option maxRecDepth 100000 in
theorem memory_thing.calls (g:Nat) (at_:Int) (w:World):
  Calls Try.prog 69 #[.pointer (some ⟨g,0,none⟩),.int .i64 at_] w fun e w'=>e= .returned (thV g at_)∧Below w.heap.size w w':=by
 unfold thV;go_enter Try.func69,Try.ntmps69;go_wp2;refine bodyPost_ret (results_cell_row rfl _ _ w.heap.size 102 #[.pointer (some ⟨g,0,none⟩),.int .i64 at_] (0,0) _ rfl (blk_new _ _) Try.underlying102 rfl (by kernel_rfl)) rfl ?_;exact ⟨rfl,below_alloc (Below.refl _ _) _⟩
def impl_isWord.f (a0:Int):Option (Bool):=if a0≥(-128) then (some (decide (a0≤127))) else (some false)
set_option maxHeartbeats 8000000 in
set_option maxRecDepth 100000 in
theorem impl_isWord.calls (a0:Int) (r:Bool) (w:World) (h:impl_isWord.f a0=some r):
  Calls Try.prog 101 #[.int .i64 a0] w fun e w'=>e= .returned (.bool r)∧Drawn0 w w':=by
 have H:(if a0≥(-128) then (some (decide (a0≤127))) else (some false))=some r:=h
 clear h;by_cases c2:a0≥(-128)
 ·rw [if_pos c2] at H
  have c2b0:decide ((-128)≤a0)=true:=decide_eq_true c2
  clear c2;obtain rfl:=Option.some.inj H;go_enter Try.func101,Try.ntmps101;go_wp2;go_ret;exact ⟨zz5,zz10⟩
 ·rw [if_neg c2] at H
  have c2b0:decide ((-128)≤a0)=false:=decide_eq_false c2
  clear c2;obtain rfl:=Option.some.inj H;go_enter Try.func101,Try.ntmps101;go_wp2;go_ret;exact ⟨zz5,zz10⟩
def thing_count.f (m:Mm) (at_:Int):Option Int:=(thing_class.f m at_).bind fun c=>
  if c<0 then (if at_<m.words.length then some (rd m.words at_) else none)
  else if c<m.fields.length∧m.fields.length≤281474976710656 then some ((rdL m.fields c).length:Int) else none
set_option maxHeartbeats 4000000 in
set_option maxRecDepth 100000 in
theorem thing_count.calls (g:Nat) (m:Mm) (at_ r:Int) (w:World) (hm:MV w g m) (h:thing_count.f m at_=some r):
  Calls Try.prog 84 #[thV g at_] w fun e w'=>e= .returned (.int .i64 r)∧Below w.heap.size w w':=by
 unfold thing_count.f at h;obtain ⟨c,hc,h⟩:=Option.bind_eq_some_iff.mp h
 have h1:1≤at_:=by
  unfold thing_class.f at hc;split at hc
  case isTrue hb=>exact hb.1
  case isFalse=>simp at hc
 have HC:=aK hc;have HM:=aK hm;clear hc hm;by_cases c1:c<0
 ·rw [if_pos c1] at h
  have d1:decide (c<0)=true:=decide_eq_true c1
  split at h
  case isFalse=>simp at h
  case isTrue h2=>
  have HR:=aK (Option.some.inj h);clear h;unfold thV;go_enter Try.func84,Try.ntmps84
  go_wp2_with fail
  go_at_call 109;refine (thing_class.calls g m at_ c _ (MV_below HM.out (below_alloc (Below.refl _ _) _)) HC.out).mono ?_;rintro e w1 ⟨rfl,hb⟩;have HB:=aK (below_step (below_alloc (Below.refl _ _) _) hb:Below w.heap.size w w1);have hbx:=box_new hb;obtain ⟨AW,cW,AC,cC,AF,cF,AB,cB,h0,hW,_,_,_,_⟩:=MV_below HM.out HB.out;have p1:=eq_true (show 0≤at_ by omega);have p2:=eq_true (show at_<(m.words.length:Int) by omega);obtain ⟨ad,e0,hx⟩:=Kd.at_int hW at_ (by omega) (by omega)
  cases e0
  have b0:=(blk_cell hbx 0).trans rfl;have b1:=(blk_cell hbx 1).trans rfl;have g0:=(blk_cell h0 0).trans rfl;clear hW h1 h2 c1 hbx h0 hb;go_wp2
  go_quiet (fail)
  go_wp2;go_ret;exact ⟨by rw [←HR.out];rfl,pw_below_drewN HB.out _⟩
 ·rw [if_neg c1] at h
  have d1:decide (c<0)=false:=decide_eq_false c1
  split at h
  case isFalse=>simp at h
  case isTrue h2=>
  have HR:=aK (Option.some.inj h);clear h;unfold thV;go_enter Try.func84,Try.ntmps84
  go_wp2_with fail
  go_at_call 109;refine (thing_class.calls g m at_ c _ (MV_below HM.out (below_alloc (Below.refl _ _) _)) HC.out).mono ?_;rintro e w1 ⟨rfl,hb⟩;have HB:=aK (below_step (below_alloc (Below.refl _ _) _) hb:Below w.heap.size w w1);have hbx:=box_new hb;have HM1:=aK (MV_below HM.out HB.out);obtain ⟨AW,cW,AC,cC,AF,cF,AB,cB,h0,_,_,hF,_,_⟩:=HM1.out;have p1:=eq_true (show 0≤c by omega);have p2:=eq_true (show c<(m.fields.length:Int) by omega);obtain ⟨ad,Af,cf,e0,hx,_⟩:=at_rows hF c (by omega) (by omega)
  cases e0
  have b0:=(blk_cell hbx 0).trans rfl;have b1:=(blk_cell hbx 1).trans rfl;have g5:=(blk_cell h0 5).trans rfl;clear hF h1 h2 c1 hbx h0 hb;go_wp2;refine sT 11 (S:=fun w'=>Aside0 (Below w.heap.size w w')∧Aside0 (MV w' g (m))∧w'.cell? (⟨w.heap.size,0,none⟩)=some (.pointer (some ⟨g,0,none⟩))∧w'.cell? (⟨w.heap.size,1,none⟩)=some (.int .i64 at_)∧w'.cell? (⟨g,5,none⟩)=some (.slice (some ad) m.fields.length cF)∧w'.cell? (ad.add c.toNat)=some (.slice Af (rdL m.fields c).length cf)) (ds:=[]) ⟨⟨below_drew1 HB.out⟩,⟨MV_below HM1.out (below_drew1 (Below.refl _ _))⟩,(by go_simp),(by go_simp),(by go_simp),(by go_simp)⟩ (fun hHeld=>?_);refine pS 0 16 #[true,false,false,false,false,false,false,false,false,false,false] ?_;refine tS 1 17 #[true,true,false,false,false,false,false,false,false,false,false] rfl rfl (by kernel_rfl) hHeld zz4 ?_;refine pS 2 18 #[true,true,true,false,false,false,false,false,false,false,false] ?_;refine pS 3 19 #[true,true,true,true,false,false,false,false,false,false,false] ?_;refine tS 4 20 #[true,true,true,true,true,false,false,false,false,false,false] rfl rfl (by kernel_rfl) hHeld zz4 ?_;refine tS 5 21 #[true,true,true,true,true,true,false,false,false,false,false] rfl rfl (by kernel_rfl) hHeld zz4 ?_;refine oS 6 22 #[true,true,true,true,true,true,true,false,false,false,false] rfl rfl (fun K hK=>?_);refine gO Try.func109 #[thV g at_] ?_;(with_reducible refine (thing_class.calls g m at_ c _ hHeld.2.1.out HC.out).mono ?_);rintro e w3 ⟨rfl,hb3⟩;refine ⟨_,rfl,?_⟩;refine hK.out _ _ ⟨⟨below_step hHeld.1.out hb3⟩,⟨MV_below hHeld.2.1.out hb3⟩,(pw_cell_below hb3 hHeld.2.2.1),(pw_cell_below hb3 hHeld.2.2.2.1),(pw_cell_below hb3 hHeld.2.2.2.2.1),(pw_cell_below hb3 hHeld.2.2.2.2.2)⟩ (fun hHeld=>?_);clear hK K;refine nS 22 ?_;refine pS 7 23 #[true,true,true,true,true,true,true,true,false,false,false] ?_;refine tS 8 24 #[true,true,true,true,true,true,true,true,true,false,false] rfl rfl (by kernel_rfl) hHeld zz4 ?_;refine pS 9 25 #[true,true,true,true,true,true,true,true,true,true,false] ?_;refine pS 10 2 #[true,true,true,true,true,true,true,true,true,true,true] ?_;refine done_ (by kernel_rfl) ?_;go_wp2;go_ret;exact ⟨by rw [←HR.out];rfl,hHeld.1.out⟩
def thing_first.f (m:Mm) (at_:Int):Option Int:=(thing_class.f m at_).bind fun c=>some (if c<0 then at_+1 else at_)
theorem thing_class_lt {m:Mm} {at_ c:Int} (hc:thing_class.f m at_=some c):1≤at_∧at_≤m.words.length∧m.words.length≤281474976710656:=by
 unfold thing_class.f at hc
 split at hc
 case isTrue hb=>exact hb
 case isFalse=>simp at hc
set_option maxHeartbeats 4000000 in
set_option maxRecDepth 100000 in
theorem thing_first.calls (g:Nat) (m:Mm) (at_ r:Int) (w:World) (hm:MV w g m) (h:thing_first.f m at_=some r):
  Calls Try.prog 86 #[thV g at_] w fun e w'=>e= .returned (.int .i64 r)∧Below w.heap.size w w':=by
 unfold thing_first.f at h;obtain ⟨c,hc,h⟩:=Option.bind_eq_some_iff.mp h;have hl:=thing_class_lt hc;have HR:=aK (Option.some.inj h);have HC:=aK hc;have HM:=aK hm;obtain ⟨j,hj⟩: ∃j,j=at_+1:=⟨_,rfl⟩;have q:IntKind.i64.wrap (at_+1)=j:=by rw [hj];exact IntWalk.i64_in _ ⟨by omega,by omega⟩
 rw [←hj] at HR;clear hc hm h hl hj;by_cases c1:c<0
 ·rw [if_pos c1] at HR
  have d1:decide (c<0)=true:=decide_eq_true c1
  clear c1;unfold thV;go_enter Try.func86,Try.ntmps86
  go_wp2_with fail
  go_at_call 109;refine (thing_class.calls g m at_ c _ (MV_below HM.out (below_alloc (Below.refl _ _) _)) HC.out).mono ?_;rintro e w1 ⟨rfl,hb⟩;have HB:=aK (below_step (below_alloc (Below.refl _ _) _) hb:Below w.heap.size w w1);have hbx:=box_new hb;have b1:=(blk_cell hbx 1).trans rfl;clear hbx hb;go_wp2;go_ret;exact ⟨by rw [←HR.out];rfl,HB.out⟩
 ·rw [if_neg c1] at HR
  have d1:decide (c<0)=false:=decide_eq_false c1
  clear c1;unfold thV;go_enter Try.func86,Try.ntmps86
  go_wp2_with fail
  go_at_call 109;refine (thing_class.calls g m at_ c _ (MV_below HM.out (below_alloc (Below.refl _ _) _)) HC.out).mono ?_;rintro e w1 ⟨rfl,hb⟩;have HB:=aK (below_step (below_alloc (Below.refl _ _) _) hb:Below w.heap.size w w1);have hbx:=box_new hb;have b1:=(blk_cell hbx 1).trans rfl;clear hbx hb;go_wp2;go_ret;exact ⟨by rw [←HR.out];rfl,HB.out⟩
def thing_size.f (m:Mm) (at_:Int):Option Int:=(thing_first.f m at_).bind fun a=>(thing_count.f m at_).bind fun n=>some (wrap64 (a - (at_ - 1)+n))
theorem thing_first_lt {m:Mm} {at_ a:Int} (h:thing_first.f m at_=some a):1≤at_∧at_≤m.words.length∧m.words.length≤281474976710656∧(a=at_∨a=at_+1):=by
 unfold thing_first.f at h;obtain ⟨c,hc,h⟩:=Option.bind_eq_some_iff.mp h;have t1:=thing_class_lt hc;have t2:=Option.some.inj h;refine ⟨t1.1,t1.2.1,t1.2.2,?_⟩
 split at t2<;>omega
set_option maxHeartbeats 4000000 in
set_option maxRecDepth 100000 in
theorem thing_size.calls (g:Nat) (m:Mm) (at_ r:Int) (w:World) (hm:MV w g m) (h:thing_size.f m at_=some r):
  Calls Try.prog 106 #[thV g at_] w fun e w'=>e= .returned (.int .i64 r)∧Below w.heap.size w w':=by
 unfold thing_size.f at h;obtain ⟨a,ha,h⟩:=Option.bind_eq_some_iff.mp h;obtain ⟨n,hn,h⟩:=Option.bind_eq_some_iff.mp h;obtain ⟨l1,l2,l3,l4⟩:=thing_first_lt ha;have HFi:=aK ha;have HN:=aK hn;have HR:=aK (Option.some.inj h);obtain ⟨j,hj⟩: ∃j,j=at_ - 1:=⟨_,rfl⟩;have q1:IntKind.i64.wrap (at_ - 1)=j:=by rw [hj];exact IntWalk.i64_in _ ⟨by omega,by omega⟩
 obtain ⟨d,hd⟩: ∃d,d=a - j:=⟨_,rfl⟩;have q2:IntKind.i64.wrap (a - j)=d:=by rw [hd];exact IntWalk.i64_in _ ⟨by omega,by omega⟩
 rw [←hj,←hd] at HR;have HM1:=aK (MV_below hm (below_alloc (Below.refl _ _) (.cells #[.pointer (some ⟨g,0,none⟩),.int .i64 at_] 102 (0,0))));have HB:=aK (below_alloc (Below.refl w.heap.size w) (.cells #[.pointer (some ⟨g,0,none⟩),.int .i64 at_] 102 (0,0)));have b0:(w.alloc (.cells #[.pointer (some ⟨g,0,none⟩),.int .i64 at_] 102 (0,0))).cell? ⟨w.heap.size,0,none⟩=some (.pointer (some ⟨g,0,none⟩)):=(blk_cell (blk_new _ _) 0).trans rfl
 have b1:(w.alloc (.cells #[.pointer (some ⟨g,0,none⟩),.int .i64 at_] 102 (0,0))).cell? ⟨w.heap.size,1,none⟩=some (.int .i64 at_):=(blk_cell (blk_new _ _) 1).trans rfl
 clear ha hn hm h l1 l2 l3 l4 hj hd;unfold thV;go_enter Try.func106,Try.ntmps106;go_wp2;refine sT 10 (S:=fun w'=>Aside0 (Below w.heap.size w w')∧Aside0 (MV w' g (m))∧w'.cell? (⟨w.heap.size,0,none⟩)=some (.pointer (some ⟨g,0,none⟩))∧w'.cell? (⟨w.heap.size,1,none⟩)=some (.int .i64 at_)) (ds:=[]) ⟨⟨below_drew1 HB.out⟩,⟨MV_below HM1.out (below_drew1 (Below.refl _ _))⟩,(by go_simp),(by go_simp)⟩ (fun hHeld=>?_);refine pS 2 5 #[false,false,true,false,false,false,false,false,false,false] ?_;refine tS 0 3 #[true,false,true,false,false,false,false,false,false,false] rfl rfl (by kernel_rfl) hHeld zz12 ?_;refine tS 3 6 #[true,false,true,true,false,false,false,false,false,false] rfl rfl (by kernel_rfl) hHeld zz12 ?_;refine pS 4 7 #[true,false,true,true,true,false,false,false,false,false] ?_;refine tS 6 9 #[true,false,true,true,true,false,true,false,false,false] rfl rfl (by kernel_rfl) hHeld zz12 ?_;refine oS 1 4 #[true,true,true,true,true,false,true,false,false,false] rfl rfl (fun K hK=>?_);refine gO Try.func86 #[thV g at_] ?_;(with_reducible refine (thing_first.calls g m at_ a _ hHeld.2.1.out HFi.out).mono ?_);rintro e w3 ⟨rfl,hb3⟩;refine ⟨_,rfl,?_⟩;refine hK.out _ _ ⟨⟨below_step hHeld.1.out hb3⟩,⟨MV_below hHeld.2.1.out hb3⟩,(pw_cell_below hb3 hHeld.2.2.1),(pw_cell_below hb3 hHeld.2.2.2)⟩ (fun hHeld=>?_);clear hK K;refine nS 4 ?_;refine pS 5 8 #[true,true,true,true,true,true,true,false,false,false] ?_;refine oS 7 10 #[true,true,true,true,true,true,true,true,false,false] rfl rfl (fun K hK=>?_);refine gO Try.func84 #[thV g at_] ?_;(with_reducible refine (thing_count.calls g m at_ n _ hHeld.2.1.out HN.out).mono ?_);rintro e w3 ⟨rfl,hb3⟩;refine ⟨_,rfl,?_⟩;refine hK.out _ _ ⟨⟨below_step hHeld.1.out hb3⟩,⟨MV_below hHeld.2.1.out hb3⟩,(pw_cell_below hb3 hHeld.2.2.1),(pw_cell_below hb3 hHeld.2.2.2)⟩ (fun hHeld=>?_);clear hK K;refine nS 10 ?_;refine pS 8 11 #[true,true,true,true,true,true,true,true,true,false] ?_;refine pS 9 2 #[true,true,true,true,true,true,true,true,true,true] ?_;refine done_ (by kernel_rfl) ?_;go_wp2;go_ret;exact ⟨by rw [←HR.out];rfl,hHeld.1.out⟩
set_option maxHeartbeats 4000000 in
set_option maxRecDepth 100000 in
theorem Mem_card.calls (A0:Option Addr) (n0 c0:Nat) (a1 a2 a3:Int) (A4:Option Addr) (n4 c4:Nat) (x j c:Int) (w:World) (hj:IntKind.i64.wrap (x - a1)=j) (h:wrap64 (Int.tdiv j 4)=c):
  Calls Try.prog 57 #[.agg #[.slice A0 n0 c0,.int .i64 a1,.int .i64 a2,.int .i64 a3,.slice A4 n4 c4],.int .i64 x] w fun e w'=>e= .returned (.int .i64 c)∧Below w.heap.size w w':=by
 go_enter Try.func57,Try.ntmps57;go_wp2;go_ret;exact ⟨by rw [←h,←i64_w];rfl,below_alloc (Below.refl _ _) _⟩
def cmp_isNaN_int.f (a0:Int):Option (Bool):=some (a0 !=a0)
set_option maxHeartbeats 8000000 in
set_option maxRecDepth 100000 in
theorem cmp_isNaN_int.calls (a0:Int) (r:Bool) (w:World) (h:cmp_isNaN_int.f a0=some r):
  Calls Try.prog 116 #[.int .i64 a0] w fun e w'=>e= .returned (.bool r)∧Drawn0 w w':=by
 have H:(some (a0 !=a0))=some r:=h
 clear h;obtain rfl:=Option.some.inj H;go_enter Try.func116,Try.ntmps116;go_wp2;go_ret;exact ⟨zz5,zz10⟩
def cmp_Less_int.f (a0:Int) (a1:Int):Option (Bool):=(cmp_isNaN_int.f a0).bind fun t304=>(if t304=true then ((cmp_isNaN_int.f a1).bind fun t305=>(if t305=true then (some (decide (a0<a1))) else (some true))) else (some (decide (a0<a1))))
set_option maxHeartbeats 8000000 in
set_option maxRecDepth 100000 in
theorem cmp_Less_int.calls (a0:Int) (a1:Int) (r:Bool) (w:World) (h:cmp_Less_int.f a0 a1=some r):
  Calls Try.prog 107 #[.int .i64 a0,.int .i64 a1] w fun e w'=>e= .returned (.bool r)∧Drawn0 w w':=by
 have H:((cmp_isNaN_int.f a0).bind fun t304=>(if t304=true then ((cmp_isNaN_int.f a1).bind fun t305=>(if t305=true then (some (decide (a0<a1))) else (some true))) else (some (decide (a0<a1)))))=some r:=h
 clear h;replace H:=Option.bind_eq_some_iff.mp H;obtain ⟨t304,A30,H⟩:=H;(try dsimp only at H);have A3:=aK A30;clear A30;by_cases c4:t304=true
 ·subst c4
  rw [if_pos rfl] at H;replace H:=Option.bind_eq_some_iff.mp H;obtain ⟨t305,A50,H⟩:=H;(try dsimp only at H);have A5:=aK A50;clear A50;by_cases c6:t305=true
  ·subst c6
   rw [if_pos rfl] at H;obtain rfl:=Option.some.inj H;go_enter Try.func107,Try.ntmps107
   go_wp2_with (first|((with_reducible refine gate_callee (f:=116) rfl ?_);refine goesL_ (some 6) rfl rfl Try.func116 (by kernel_rfl) rfl #[.int .i64 a0] rfl zz2 ?_;(with_reducible refine (cmp_isNaN_int.calls a0 true _ A3.out).mono ?_);rintro e w' ⟨rfl,⟨nd,rfl⟩⟩;refine ⟨_,rfl,?_⟩)|(go_at_call 116;(with_reducible refine (cmp_isNaN_int.calls a1 true _ A5.out).mono ?_);rintro e w' ⟨rfl,⟨nd,rfl⟩⟩))
   go_ret;exact ⟨zz5,zz10⟩
  ·replace c6 := Bool.eq_false_iff.mpr c6
   subst c6;rw [if_neg (show¬(false=true) by decide)] at H;obtain rfl:=Option.some.inj H;go_enter Try.func107,Try.ntmps107
   go_wp2_with (first|((with_reducible refine gate_callee (f:=116) rfl ?_);refine goesL_ (some 6) rfl rfl Try.func116 (by kernel_rfl) rfl #[.int .i64 a0] rfl zz2 ?_;(with_reducible refine (cmp_isNaN_int.calls a0 true _ A3.out).mono ?_);rintro e w' ⟨rfl,⟨nd,rfl⟩⟩;refine ⟨_,rfl,?_⟩)|(go_at_call 116;(with_reducible refine (cmp_isNaN_int.calls a1 false _ A5.out).mono ?_);rintro e w' ⟨rfl,⟨nd,rfl⟩⟩))
   go_ret;exact ⟨zz5,zz10⟩
 ·replace c4 := Bool.eq_false_iff.mpr c4
  subst c4;rw [if_neg (show¬(false=true) by decide)] at H;obtain rfl:=Option.some.inj H;go_enter Try.func107,Try.ntmps107
  go_wp2_with (first|((with_reducible refine gate_callee (f:=116) rfl ?_);refine goesL_ (some 6) rfl rfl Try.func116 (by kernel_rfl) rfl #[.int .i64 a0] rfl zz2 ?_;(with_reducible refine (cmp_isNaN_int.calls a0 false _ A3.out).mono ?_);rintro e w' ⟨rfl,⟨nd,rfl⟩⟩;refine ⟨_,rfl,?_⟩))
  go_ret;exact ⟨zz5,zz10⟩
def slices_isNaN_int.f (a0:Int):Option (Bool):=some (a0 !=a0)
set_option maxHeartbeats 8000000 in
set_option maxRecDepth 100000 in
theorem slices_isNaN_int.calls (a0:Int) (r:Bool) (w:World) (h:slices_isNaN_int.f a0=some r):
  Calls Try.prog 108 #[.int .i64 a0] w fun e w'=>e= .returned (.bool r)∧Drawn0 w w':=by
 have H:(some (a0 !=a0))=some r:=h
 clear h;obtain rfl:=Option.some.inj H;go_enter Try.func108,Try.ntmps108;go_wp2;go_ret;exact ⟨zz5,zz10⟩
def slices_BinarySearch_int_int.l0:Nat→List Int→Int→Int→Int→Int→Option (Int×Bool)
  |0,_,_,_,_,_=>none
  |k+1,x0,x1,x6,x7,x8=>if x7<x8 then (if 0≤(wrap64 ((IntKind.u64.wrap (wrap64 (x7+x8)))/2)) then (if (wrap64 ((IntKind.u64.wrap (wrap64 (x7+x8)))/2))<(x0.length:Int) then ((cmp_Less_int.f (rd x0 (wrap64 ((IntKind.u64.wrap (wrap64 (x7+x8)))/2))) x1).bind fun t307=>(if t307=true then (slices_BinarySearch_int_int.l0 k x0 x1 x6 (wrap64 ((wrap64 ((IntKind.u64.wrap (wrap64 (x7+x8)))/2))+1)) x8) else (slices_BinarySearch_int_int.l0 k x0 x1 x6 x7 (wrap64 ((IntKind.u64.wrap (wrap64 (x7+x8)))/2))))) else (none)) else (none)) else (if x7<x6 then (if 0≤x7 then (if x7<(x0.length:Int) then (if (rd x0 x7)=x1 then (some (x7,true)) else ((slices_isNaN_int.f (rd x0 x7)).bind fun t310=>(if t310=true then ((slices_isNaN_int.f x1).bind fun t311=>(some (x7,t311))) else (some (x7,false))))) else (none)) else (none)) else (some (x7,false)))
def slices_BinarySearch_int_int.f (k:Nat) (l0:List Int) (a1:Int):Option (Int×Bool):=slices_BinarySearch_int_int.l0 k l0 a1 (l0.length:Int) 0 (l0.length:Int)
theorem slices_BinarySearch_int_int.mono_l: ∀k,(∀y0 y1 y2 y3 y4,LeO (slices_BinarySearch_int_int.l0 k y0 y1 y2 y3 y4) (slices_BinarySearch_int_int.l0 (k+1) y0 y1 y2 y3 y4))
 |0=>fun _ _ _ _ _ r h=>by simp [slices_BinarySearch_int_int.l0] at h
 | k + 1 => by
  have ih0:=slices_BinarySearch_int_int.mono_l k
  ·intro y0 y1 y2 y3 y4
   unfold slices_BinarySearch_int_int.l0;repeat' first
   |(with_reducible exact ih0 _ _ _ _ _)
   |(with_reducible exact LeO.refl _)
   |(with_reducible exact LeO.none _)
   |(with_reducible refine LeO.ite ?_ ?_)
   |(with_reducible refine LeO.bind ?_ (fun _=>?_))
   |exact ih0 _ _ _ _ _
   |exact LeO.none _
   |refine LeO.ite ?_ ?_
   |refine LeO.bind ?_ (fun _=>?_)
theorem slices_BinarySearch_int_int.mono: ∀a0 a1 k,LeO (slices_BinarySearch_int_int.f k a0 a1) (slices_BinarySearch_int_int.f (k+1) a0 a1):=by
  intro a0 a1 k;have ih0:=slices_BinarySearch_int_int.mono_l k;unfold slices_BinarySearch_int_int.f
  repeat' first
      |(with_reducible exact ih0 _ _ _ _ _)
      |(with_reducible exact LeO.refl _)
      |(with_reducible exact LeO.none _)
      |(with_reducible refine LeO.ite ?_ ?_)
      |(with_reducible refine LeO.bind ?_ (fun _=>?_))
      |exact ih0 _ _ _ _ _
      |exact LeO.none _
      |refine LeO.ite ?_ ?_
      |refine LeO.bind ?_ (fun _=>?_)
set_option maxHeartbeats 8000000 in
set_option maxRecDepth 100000 in
theorem slices_BinarySearch_int_int.calls (k : Nat) (A0 : Option Addr) (c0 : Nat) (l0 : List Int) (a1 : Int) (r1 : Int) (r2 : Bool) (w : World) (hr0 : Kd.C (Kd.int .i64) w A0 l0.length l0) (hc0 : l0.length ≤ c0) (h : slices_BinarySearch_int_int.f k l0 a1 = some (r1, r2)) :
  Calls Try.prog 83 #[.slice A0 l0.length c0,.int .i64 a1] w fun e w'=>e= .returned (.tuple #[.int .i64 r1,.bool r2])∧Drawn0 w w':=by
 have HR0:=aK hr0;have HC0:=aK hc0;clear hr0 hc0;have H:(slices_BinarySearch_int_int.l0 k l0 a1 (l0.length:Int) 0 (l0.length:Int))=some (r1,r2):=h
 clear h;have H':=aK H;clear H;go_enter Try.func83,Try.ntmps83;go_wp2
 go_loopg [7,8] k (fun kq v7 v8 w'=> ∃(x7_1:Int) (x8_1:Int),v7= .int .i64 x7_1∧v8= .int .i64 x8_1∧Aside0 (slices_BinarySearch_int_int.l0 kq l0 a1 (l0.length:Int) x7_1 x8_1=some (r1,r2))∧Aside0 (kq≤k)∧Drawn0 w w')
 case atStart=>exact ⟨(0),((l0.length:Int)),zz5,zz5,H',⟨Nat.le_refl _⟩,by repeat (first|exact Drawn0.refl _|apply Drawn0.step)⟩
 case round =>
  clear H';(try clear p2);obtain ⟨x7_1,x8_1,rfl,rfl,HA,HK1,⟨m1,rfl⟩⟩:=hrel
  cases gk with
  |zero=>exact absurd HA.out (by simp [slices_BinarySearch_int_int.l0])
  | succ k1 =>
   have H:=HA.out;clear HA;simp only [slices_BinarySearch_int_int.l0] at H;by_cases c3:x7_1<x8_1
   ·rw [if_pos c3] at H
    have c3b0:decide (x7_1<x8_1)=true:=decide_eq_true c3
    clear c3;obtain ⟨ji4,hji4⟩: ∃j_:Int,(wrap64 ((IntKind.u64.wrap (wrap64 (x7_1+x8_1)))/2))=j_:=⟨_,rfl⟩;replace H:(if 0≤(ji4) then (if (ji4)<(l0.length:Int) then ((cmp_Less_int.f (rd l0 (ji4)) a1).bind fun t307=>(if t307=true then (slices_BinarySearch_int_int.l0 k1 l0 a1 (l0.length:Int) (wrap64 ((ji4)+1)) x8_1) else (slices_BinarySearch_int_int.l0 k1 l0 a1 (l0.length:Int) x7_1 ji4))) else (none)) else (none))=some (r1,r2):=by first|(rw [hji4] at H;exact H)|(simp only [hji4] at H ⊢;exact H)
    have hji4w:(IntKind.i64.wrap ((IntKind.u64.wrap (wrap64 (x7_1+x8_1)))/2))=ji4:=(i64_w _).trans hji4
    by_cases c5:0≤(ji4)
    ·rw [if_pos c5] at H
     have c5b0:decide (0≤(ji4))=true:=decide_eq_true c5
     clear c5;by_cases c6:(ji4)<(l0.length:Int)
     ·rw [if_pos c6] at H
      have c6b0:decide ((ji4)<(l0.length:Int))=true:=decide_eq_true c6
      clear c6;replace H:=Option.bind_eq_some_iff.mp H;obtain ⟨t307,A70,H⟩:=H;(try dsimp only at H);have A7:=aK A70;clear A70;by_cases c8:t307=true
      ·subst c8
       rw [if_pos rfl] at H;have H':=aK H;clear H;have p306:0≤((ji4):Int):=of_decide_eq_true zz3
       have q306:(ji4)<(l0.length:Int):=of_decide_eq_true zz3
       obtain ⟨ad306,e306,hx306_0⟩:=Kd.at_int HR0.out (ji4) p306 q306
       cases e306
       replace p306:=eq_true p306;replace q306:=eq_true q306
       go_wp2_with (first|((with_reducible refine gate_callee (f:=107) rfl ?_);refine goesL_ (some 27) rfl rfl Try.func107 (by kernel_rfl) rfl #[.int .i64 (rd l0 (ji4)),.int .i64 a1] rfl (by (try simp only [List.map_toArray,List.map_cons,List.map_nil]);first|done|(simp only [hji4];rfl)|rfl|(simp only [List.length_drop,List.length_take];rfl)) ?_;(with_reducible refine (cmp_Less_int.calls (rd l0 (ji4)) a1 true _ A7.out).mono ?_);rintro e w' ⟨rfl,⟨nd,rfl⟩⟩;refine ⟨_,rfl,?_⟩))
       go_roundg k1
       case measure=>have:=HK1.out;omega
       case rel=>exact ⟨(wrap64 ((ji4)+1)),(x8_1),(by first|rfl|(simp;done)|(simp only [←hji4]<;>(first|rfl|simp))|(simp [*];done)),zz5,H',⟨by have:=HK1.out;omega⟩,by repeat (first|exact Drawn0.refl _|apply Drawn0.step)⟩
      ·replace c8 := Bool.eq_false_iff.mpr c8
       subst c8;rw [if_neg (show¬(false=true) by decide)] at H;have H':=aK H;clear H;have p306:0≤((ji4):Int):=of_decide_eq_true zz3
       have q306:(ji4)<(l0.length:Int):=of_decide_eq_true zz3
       obtain ⟨ad306,e306,hx306_0⟩:=Kd.at_int HR0.out (ji4) p306 q306
       cases e306
       replace p306:=eq_true p306;replace q306:=eq_true q306
       go_wp2_with (first|((with_reducible refine gate_callee (f:=107) rfl ?_);refine goesL_ (some 27) rfl rfl Try.func107 (by kernel_rfl) rfl #[.int .i64 (rd l0 (ji4)),.int .i64 a1] rfl (by (try simp only [List.map_toArray,List.map_cons,List.map_nil]);first|done|(simp only [hji4];rfl)|rfl|(simp only [List.length_drop,List.length_take];rfl)) ?_;(with_reducible refine (cmp_Less_int.calls (rd l0 (ji4)) a1 false _ A7.out).mono ?_);rintro e w' ⟨rfl,⟨nd,rfl⟩⟩;refine ⟨_,rfl,?_⟩))
       go_roundg k1
       case measure=>have:=HK1.out;omega
       case rel=>exact ⟨(x7_1),(ji4),zz5,(by first|rfl|(simp;done)|(simp only [←hji4]<;>(first|rfl|simp))|(simp [*];done)),H',⟨by have:=HK1.out;omega⟩,by repeat (first|exact Drawn0.refl _|apply Drawn0.step)⟩
     ·rw [if_neg c6] at H
      exact absurd H (by simp)
    ·rw [if_neg c5] at H
     exact absurd H (by simp)
   ·rw [if_neg c3] at H
    have c3b0:decide (x7_1<x8_1)=false:=decide_eq_false c3
    clear c3;by_cases c9:x7_1<(l0.length:Int)
    ·rw [if_pos c9] at H
     have c9b0:decide (x7_1<(l0.length:Int))=true:=decide_eq_true c9
     clear c9;by_cases c10:0≤x7_1
     ·rw [if_pos c10] at H
      have c10b0:decide (0≤x7_1)=true:=decide_eq_true c10
      clear c10;by_cases c11:x7_1<(l0.length:Int)
      ·rw [if_pos c11] at H
       have c11b0:decide (x7_1<(l0.length:Int))=true:=decide_eq_true c11
       clear c11;by_cases c12:(rd l0 x7_1)=a1
       ·rw [if_pos c12] at H
        have c12b0:((rd l0 x7_1)==a1)=true:=beq_iff_eq.mpr c12
        have c12b1:((rd l0 x7_1) !=a1)=false:=bne_eq_false_iff_eq.mpr c12
        clear c12;simp only [Option.some.injEq,Prod.mk.injEq] at H;obtain ⟨rfl,rfl⟩:=H;have p308:0≤(x7_1:Int):=of_decide_eq_true zz3
        have q308:x7_1<(l0.length:Int):=of_decide_eq_true zz3
        obtain ⟨ad308,e308,hx308_0⟩:=Kd.at_int HR0.out x7_1 p308 q308
        cases e308
        replace p308:=eq_true p308;replace q308:=eq_true q308;go_wp2
        go_ret2
        exact ⟨zz5,zz10⟩
       ·rw [if_neg c12] at H
        have c12b0:((rd l0 x7_1)==a1)=false:=beq_eq_false_iff_ne.mpr c12
        have c12b1:((rd l0 x7_1) !=a1)=true:=bne_iff_ne.mpr c12
        replace H:=Option.bind_eq_some_iff.mp H;obtain ⟨t310,A130,H⟩:=H;(try dsimp only at H);have A13:=aK A130;clear A130;by_cases c14:t310=true
        ·subst c14
         rw [if_pos rfl] at H;replace H:=Option.bind_eq_some_iff.mp H;obtain ⟨t311,A150,H⟩:=H;(try dsimp only at H);have A15:=aK A150;clear A150;simp only [Option.some.injEq,Prod.mk.injEq] at H;obtain ⟨rfl,rfl⟩:=H;have p308:0≤(x7_1:Int):=of_decide_eq_true zz3
         have q308:x7_1<(l0.length:Int):=of_decide_eq_true zz3
         obtain ⟨ad308,e308,hx308_0⟩:=Kd.at_int HR0.out x7_1 p308 q308
         cases e308
         replace p308:=eq_true p308;replace q308:=eq_true q308;have p309:0≤(x7_1:Int):=of_decide_eq_true zz3
         have q309:x7_1<(l0.length:Int):=of_decide_eq_true zz3
         obtain ⟨ad309,e309,hx309_0⟩:=Kd.at_int HR0.out x7_1 p309 q309;obtain rfl:ad308=ad309:=(by injection e309);replace p309:=eq_true p309;replace q309:=eq_true q309
         go_wp2_with (first|(go_at_call 108;(with_reducible refine (slices_isNaN_int.calls (rd l0 x7_1) true _ A13.out).mono ?_);rintro e w' ⟨rfl,⟨nd,rfl⟩⟩)|(go_at_call 108;(with_reducible refine (slices_isNaN_int.calls a1 t311 _ A15.out).mono ?_);rintro e w' ⟨rfl,⟨nd,rfl⟩⟩))
         go_ret2
         exact ⟨zz5,zz10⟩
        ·replace c14 := Bool.eq_false_iff.mpr c14
         subst c14;rw [if_neg (show¬(false=true) by decide)] at H;simp only [Option.some.injEq,Prod.mk.injEq] at H;obtain ⟨rfl,rfl⟩:=H;have p308:0≤(x7_1:Int):=of_decide_eq_true zz3
         have q308:x7_1<(l0.length:Int):=of_decide_eq_true zz3
         obtain ⟨ad308,e308,hx308_0⟩:=Kd.at_int HR0.out x7_1 p308 q308
         cases e308
         replace p308:=eq_true p308;replace q308:=eq_true q308;have p309:0≤(x7_1:Int):=of_decide_eq_true zz3
         have q309:x7_1<(l0.length:Int):=of_decide_eq_true zz3
         obtain ⟨ad309,e309,hx309_0⟩:=Kd.at_int HR0.out x7_1 p309 q309;obtain rfl:ad308=ad309:=(by injection e309);replace p309:=eq_true p309;replace q309:=eq_true q309
         go_wp2_with (first|(go_at_call 108;(with_reducible refine (slices_isNaN_int.calls (rd l0 x7_1) false _ A13.out).mono ?_);rintro e w' ⟨rfl,⟨nd,rfl⟩⟩))
         go_ret2
         exact ⟨zz5,zz10⟩
      ·rw [if_neg c11] at H
       exact absurd H (by simp)
     ·rw [if_neg c10] at H
      exact absurd H (by simp)
    ·rw [if_neg c9] at H
     have c9b0:decide (x7_1<(l0.length:Int))=false:=decide_eq_false c9
     clear c9;simp only [Option.some.injEq,Prod.mk.injEq] at H;obtain ⟨rfl,rfl⟩:=H;go_wp2
     go_ret2
     exact ⟨zz5,zz10⟩
def memory_has.f (k:Nat) (m:Mm) (at_:Int):Option Bool:=(slices_BinarySearch_int_int.f k m.begins at_).bind fun p=>some p.2
set_option maxHeartbeats 4000000 in
set_option maxRecDepth 100000 in
theorem memory_has.calls (k:Nat) (g:Nat) (m:Mm) (at_:Int) (r:Bool) (w:World) (hm:MV w g m) (h:memory_has.f k m at_=some r):
  Calls Try.prog 78 #[.pointer (some ⟨g,0,none⟩),.int .i64 at_] w fun e w'=>e= .returned (.bool r)∧Drawn0 w w':=by
 unfold memory_has.f at h;obtain ⟨⟨p1,p2⟩,hp,h⟩:=Option.bind_eq_some_iff.mp h;obtain rfl:p2=r:=Option.some.inj h;have HP:=aK hp;obtain ⟨AW,cW,AC,cC,AF,cF,AB,cB,h0,_,_,_,hB,_,_,_,lB⟩:=hm;have HBg:=aK hB;have HL:=aK lB;have g6:=(blk_cell h0 6).trans rfl;clear hp h h0 hB lB;go_enter Try.func78,Try.ntmps78
 go_wp2_with (go_at_call 83;refine (slices_BinarySearch_int_int.calls k AB cB m.begins at_ p1 p2 _ HBg.out HL.out HP.out).mono ?_;rintro e w' ⟨rfl,⟨nd,rfl⟩⟩)
 go_ret;exact ⟨rfl,Drawn0.step (Drawn0.refl _) _⟩
set_option maxHeartbeats 4000000 in
set_option maxRecDepth 100000 in
theorem Mem_isOld.calls (A0:Option Addr) (n0 c0:Nat) (a1 a2 a3:Int) (A4:Option Addr) (n4 c4:Nat) (x:Int) (r:Bool) (w:World) (h:decide (x>a1)=r):
  Calls Try.prog 81 #[.agg #[.slice A0 n0 c0,.int .i64 a1,.int .i64 a2,.int .i64 a3,.slice A4 n4 c4],.int .i64 x] w fun e w'=>e= .returned (.bool r)∧Below w.heap.size w w':=by
 go_enter Try.func81,Try.ntmps81;go_wp2;go_ret;exact ⟨by rw [←h];rfl,below_alloc (Below.refl _ _) _⟩
def thing_leads.f (m:Mm) (at_ k:Int):Option Bool:=(thing_class.f m at_).bind fun c=>
  if c= -1 then some false else if c= -2 then some true
  else if 0≤c∧c<m.fields.length∧0≤k∧k<(rdL m.fields c).length then some (rd (rdL m.fields c) k !=1) else none
set_option maxHeartbeats 4000000 in
set_option maxRecDepth 100000 in
theorem thing_leads.calls (g:Nat) (m:Mm) (at_ k:Int) (r:Bool) (w:World) (hm:MV w g m) (h:thing_leads.f m at_ k=some r):
  Calls Try.prog 85 #[thV g at_,.int .i64 k] w fun e w'=>e= .returned (.bool r)∧Below w.heap.size w w':=by
 unfold thing_leads.f at h;obtain ⟨c,hc,h⟩:=Option.bind_eq_some_iff.mp h;have HC:=aK hc;have HM:=aK hm;clear hc hm;by_cases c1:c= -1
 ·rw [if_pos c1] at h
  have HR:=aK (Option.some.inj h);have d1:(c== -1)=true:=beq_iff_eq.mpr c1
  clear c1 h;unfold thV;go_enter Try.func85,Try.ntmps85
  go_wp2_with fail
  go_at_call 109;refine (thing_class.calls g m at_ c _ (MV_below HM.out (below_alloc (Below.refl _ _) _)) HC.out).mono ?_;rintro e w1 ⟨rfl,hb⟩;have HB:=aK (below_step (below_alloc (Below.refl _ _) _) hb:Below w.heap.size w w1);clear hb;go_wp2;go_ret;exact ⟨by rw [←HR.out];rfl,HB.out⟩
 rw [if_neg c1] at h;have d1:(c== -1)=false:=beq_eq_false_iff_ne.mpr c1
 by_cases c2:c= -2
 ·rw [if_pos c2] at h
  have HR:=aK (Option.some.inj h);have d2:(c== -2)=true:=beq_iff_eq.mpr c2
  clear c1 c2 h;unfold thV;go_enter Try.func85,Try.ntmps85
  go_wp2_with fail
  go_at_call 109;refine (thing_class.calls g m at_ c _ (MV_below HM.out (below_alloc (Below.refl _ _) _)) HC.out).mono ?_;rintro e w1 ⟨rfl,hb⟩;have HB:=aK (below_step (below_alloc (Below.refl _ _) _) hb:Below w.heap.size w w1);clear hb;go_wp2;go_ret;exact ⟨by rw [←HR.out];rfl,HB.out⟩
 rw [if_neg c2] at h;have d2:(c== -2)=false:=beq_eq_false_iff_ne.mpr c2
 split at h
 case isFalse=>simp at h
 case isTrue h2=>
 obtain ⟨c3,c4,c5,c6⟩:=h2;have HR:=aK (Option.some.inj h);clear h c1 c2;unfold thV;go_enter Try.func85,Try.ntmps85
 go_wp2_with fail
 go_at_call 109;refine (thing_class.calls g m at_ c _ (MV_below HM.out (below_alloc (Below.refl _ _) _)) HC.out).mono ?_;rintro e w1 ⟨rfl,hb⟩;have HB:=aK (below_step (below_alloc (Below.refl _ _) _) hb:Below w.heap.size w w1);have hbx:=box_new hb;have HM1:=aK (MV_below HM.out HB.out);obtain ⟨AW,cW,AC,cC,AF,cF,AB,cB,h0,_,_,hF,_,_⟩:=HM1.out;have p1:=eq_true c3;have p2:=eq_true c4;obtain ⟨ad,Af,cf,e0,hx,_,hK⟩:=at_rows hF c (by omega) (by omega)
 cases e0
 have p3:=eq_true c5;have p4:=eq_true c6;obtain ⟨ad2,e0,hy⟩:=Kd.at_int hK k (by omega) (by omega)
 cases e0
 have b0:=(blk_cell hbx 0).trans rfl;have b1:=(blk_cell hbx 1).trans rfl;have g5:=(blk_cell h0 5).trans rfl;clear hF hK hbx h0 hb c3 c4 c5 c6;go_wp2;refine sT 14 (S:=fun w'=>Aside0 (Below w.heap.size w w')∧Aside0 (MV w' g (m))∧w'.cell? (⟨w.heap.size,0,none⟩)=some (.pointer (some ⟨g,0,none⟩))∧w'.cell? (⟨w.heap.size,1,none⟩)=some (.int .i64 at_)∧w'.cell? (⟨g,5,none⟩)=some (.slice (some ad) m.fields.length cF)∧w'.cell? (ad.add c.toNat)=some (.slice (some ad2) (rdL m.fields c).length cf)∧w'.cell? (ad2.add k.toNat)=some (.int .i64 (rd (rdL m.fields c) k))) (ds:=[]) ⟨⟨below_drew1 HB.out⟩,⟨MV_below HM1.out (below_drew1 (Below.refl _ _))⟩,(by go_simp),(by go_simp),(by go_simp),(by go_simp),(by go_simp)⟩ (fun hHeld=>?_);refine pS 0 11 (lA 14 1) ?_;refine pS 9 20 (lA 14 513) ?_;refine tS 1 12 (lA 14 515) rfl rfl (by kernel_rfl) hHeld zz26 ?_;refine pS 2 13 (lA 14 519) ?_;refine pS 3 14 (lA 14 527) ?_;refine tS 4 15 (lA 14 543) rfl rfl (by kernel_rfl) hHeld zz26 ?_;refine tS 5 16 (lA 14 575) rfl rfl (by kernel_rfl) hHeld zz26 ?_;refine oS 6 17 (lA 14 639) rfl rfl (fun K hK=>?_);refine gO Try.func109 #[thV g at_] ?_;(with_reducible refine (thing_class.calls g m at_ c _ hHeld.2.1.out HC.out).mono ?_);rintro e w3 ⟨rfl,hb3⟩;refine ⟨_,rfl,?_⟩;refine hK.out _ _ ⟨⟨below_step hHeld.1.out hb3⟩,⟨MV_below hHeld.2.1.out hb3⟩,(pw_cell_below hb3 hHeld.2.2.1),(pw_cell_below hb3 hHeld.2.2.2.1),(pw_cell_below hb3 hHeld.2.2.2.2.1),(pw_cell_below hb3 hHeld.2.2.2.2.2.1),(pw_cell_below hb3 hHeld.2.2.2.2.2.2)⟩ (fun hHeld=>?_);clear hK K;refine nS 17 ?_;refine pS 7 18 (lA 14 767) ?_;refine tS 8 19 (lA 14 1023) rfl rfl (by kernel_rfl) hHeld zz26 ?_;refine pS 10 21 (lA 14 2047) ?_;refine tS 11 22 (lA 14 4095) rfl rfl (by kernel_rfl) hHeld zz26 ?_;refine pS 12 23 (lA 14 8191) ?_;refine pS 13 4 (lA 14 16383) ?_;refine done_ (by kernel_rfl) ?_;go_wp2;go_ret;exact ⟨by rw [←HR.out];rfl,hHeld.1.out⟩
end Go.Proofs.Ytbaklikaoleplaa.K
