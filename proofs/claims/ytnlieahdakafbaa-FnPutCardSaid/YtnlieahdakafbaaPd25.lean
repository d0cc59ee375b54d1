import Derived.Test.YtnlieahdakafbaaPd24
import Derived.BigQuiet
namespace Go.Proofs.Ytnlieahdakafbaa.K
open Go.RowKit Go.Proofs.YtnlieahdakafbaaW.PrintWords Go.Proofs.YtnlieahdakafbaaW.PrintLast Go.Proofs.YtnlieahdakafbaaW.PrintMore
attribute [local go_sem] max2_int min2_int max_two min_two max_three min_three max_four min_four
set_option linter.unusedVariables false
set_option linter.unusedSimpArgs false
def impl_measure.j0:Nat→List (List Int)→Int→Int→Bool→Option (Int)
  |0,_,_,_,_=>none
  |k+1,x0,x1,x2,x7=>if x7=true then ((impl_within.f 0 x2 6).bind fun t165=>(if t165=true then (some (wrap64 (2+x2))) else (some 0))) else (if x1≥0 then (if x1<(x0.length:Int) then (if 0≤x1 then (some (wrap64 (1+((rd_L2 x0 x1).length:Int)))) else (none)) else (some 0)) else (some 0))
def impl_measure.f (k:Nat) (l0:List (List Int)) (a1:Int) (a2:Int):Option (Int):=if a1=(-1) then (impl_measure.j0 k l0 a1 a2 true) else (impl_measure.j0 k l0 a1 a2 (a1==(-2)))
set_option maxHeartbeats 8000000 in
set_option maxRecDepth 100000 in
theorem impl_measure.calls (k:Nat) (A0:Option Addr) (c0:Nat) (l0:List (List Int)) (a1:Int) (a2:Int) (r:Int) (w:World) (hr0:Kd.C (Kd.slice 3 (Kd.int .i64)) w A0 l0.length l0) (hc0:l0.length≤c0) (h:impl_measure.f k l0 a1 a2=some r):
  Calls Try.prog 56 #[.slice A0 l0.length c0,.int .i64 a1,.int .i64 a2] w fun e w'=>e= .returned (.int .i64 r)∧Drawn0 w w':=by
 have HR0:=aK hr0;have HC0:=aK hc0;clear hr0 hc0;have H:(if a1=(-1) then (impl_measure.j0 k l0 a1 a2 true) else (impl_measure.j0 k l0 a1 a2 (a1==(-2))))=some r:=h
 clear h;have HC4:=aK H;clear H;go_enter Try.func56,Try.ntmps56
 go_upto_region 1 with (fail)
 go_cut [7] (fun v7 wc=> ∃(kq:Nat) (x7_3:Bool),v7= .bool x7_3∧Aside0 (impl_measure.j0 kq l0 a1 a2 x7_3=some r)∧Aside0 (kq≤k)∧Drawn0 w wc)
 case first=>
  have H:=HC4.out;clear HC4;by_cases c5:a1=(-1)
  ·rw [if_pos c5] at H
   have c5b0:(a1==(-1))=true:=beq_iff_eq.mpr c5
   have c5b1:(a1 !=(-1))=false:=bne_eq_false_iff_eq.mpr c5
   clear c5
   (first|rw [c5b0]|(simp only [i64_w,i32_w];rw [c5b0])|skip)
   have H':=aK H;clear H;go_wp2;go_meet
   case rel=>exact ⟨_,(true),zz7,H',⟨by first|omega|exact Nat.le_refl _⟩,by repeat (first|exact Drawn0.refl _|apply Drawn0.step)⟩
  ·rw [if_neg c5] at H
   have c5b0:(a1==(-1))=false:=beq_eq_false_iff_ne.mpr c5
   have c5b1:(a1 !=(-1))=true:=bne_iff_ne.mpr c5
   (first|rw [c5b0]|(simp only [i64_w,i32_w];rw [c5b0])|skip)
   have H':=aK H;clear H;go_wp2;go_meet
   case rel=>exact ⟨_,((a1==(-2))),zz7,H',⟨by first|omega|exact Nat.le_refl _⟩,by repeat (first|exact Drawn0.refl _|apply Drawn0.step)⟩
 case rest =>
  clear HC4;(try clear p2);(try clear c5);(try clear c5b0);(try clear c5b1);obtain ⟨kq,x7_3,rfl,HA,HJ3,⟨mc3,rfl⟩⟩:=hcut
  cases kq with
  |zero=>exact absurd HA.out (by simp [impl_measure.j0])
  | succ kj3 =>
   have H:=HA.out;clear HA;simp only [impl_measure.j0] at H;by_cases c6:x7_3=true
   ·subst c6
    rw [if_pos rfl] at H;replace H:=Option.bind_eq_some_iff.mp H;obtain ⟨t165,A70,H⟩:=H;(try dsimp only at H);have A7:=aK A70;clear A70;by_cases c8:t165=true
    ·subst c8
     rw [if_pos rfl] at H;obtain rfl:=Option.some.inj H
     go_wp2_with (first|((with_reducible refine gate_callee (f:=91) rfl ?_);refine goesL_ (some 15) rfl rfl Try.func91 (by kernel_rfl) rfl #[.int .i64 0,.int .i64 a2,.int .i64 6] rfl zz2 ?_;(with_reducible refine (impl_within.calls 0 a2 6 true _ A7.out).mono ?_);rintro e w' ⟨rfl,⟨nd,rfl⟩⟩;refine ⟨_,rfl,?_⟩))
     go_ret;exact ⟨zz7,zz13⟩
    ·replace c8 := Bool.eq_false_iff.mpr c8
     subst c8;rw [if_neg (show¬(false=true) by decide)] at H;obtain rfl:=Option.some.inj H
     go_wp2_with (first|((with_reducible refine gate_callee (f:=91) rfl ?_);refine goesL_ (some 15) rfl rfl Try.func91 (by kernel_rfl) rfl #[.int .i64 0,.int .i64 a2,.int .i64 6] rfl zz2 ?_;(with_reducible refine (impl_within.calls 0 a2 6 false _ A7.out).mono ?_);rintro e w' ⟨rfl,⟨nd,rfl⟩⟩;refine ⟨_,rfl,?_⟩))
     go_ret;exact ⟨zz7,zz13⟩
   ·replace c6 := Bool.eq_false_iff.mpr c6
    subst c6;rw [if_neg (show¬(false=true) by decide)] at H;by_cases c9:a1≥0
    ·rw [if_pos c9] at H
     have c9b0:decide (0≤a1)=true:=decide_eq_true c9
     clear c9;by_cases c10:a1<(l0.length:Int)
     ·rw [if_pos c10] at H
      have c10b0:decide (a1<(l0.length:Int))=true:=decide_eq_true c10
      clear c10;by_cases c11:0≤a1
      ·rw [if_pos c11] at H
       have c11b0:decide (0≤a1)=true:=decide_eq_true c11
       clear c11;obtain rfl:=Option.some.inj H;have p166:0≤(a1:Int):=of_decide_eq_true zz3
       have q166:a1<(l0.length:Int):=of_decide_eq_true zz3
       obtain ⟨ad166,A166_0,c166_0,e166,hx166_0,hl166_0,hi166_0⟩:=at_L2 HR0.out a1 p166 q166
       cases e166
       have HR166_0:=aK hi166_0;have HC166_0:=aK hl166_0;clear hi166_0 hl166_0;replace p166:=eq_true p166;replace q166:=eq_true q166;go_wp2;go_ret;exact ⟨zz7,zz13⟩
      ·rw [if_neg c11] at H
       exact absurd H (by simp)
     ·rw [if_neg c10] at H
      have c10b0:decide (a1<(l0.length:Int))=false:=decide_eq_false c10
      clear c10;obtain rfl:=Option.some.inj H;go_wp2;go_ret;exact ⟨zz7,zz13⟩
    ·rw [if_neg c9] at H
     have c9b0:decide (0≤a1)=false:=decide_eq_false c9
     clear c9;obtain rfl:=Option.some.inj H;go_wp2;go_ret;exact ⟨zz7,zz13⟩
structure Mm where
 words:List Int
 young:Int
 top:Int
 old:Int
 cards:List Bool
 fields:List (List Int)
 begins:List Int
def MV (w:World) (g:Nat) (m:Mm):Prop:= ∃AW cW AC cC AF cF AB cB,
 w.heap[g]? =some (.cells #[.slice AW m.words.length cW,.int .i64 m.young,.int .i64 m.top,.int .i64 m.old,.slice AC m.cards.length cC,.slice AF m.fields.length cF,.slice AB m.begins.length cB] 72 (0,0))∧
 Kd.C (Kd.int .i64) w AW m.words.length m.words∧Kd.C Kd.bool w AC m.cards.length m.cards∧Kd.C (Kd.slice 3 (Kd.int .i64)) w AF m.fields.length m.fields∧Kd.C (Kd.int .i64) w AB m.begins.length m.begins∧
 m.words.length≤cW∧m.cards.length≤cC∧m.fields.length≤cF∧m.begins.length≤cB
theorem MV_below {w w':World} {g:Nat} {m:Mm} (h:MV w g m) (hb:Below w.heap.size w w'):MV w' g m:=by
  obtain ⟨AW,cW,AC,cC,AF,cF,AB,cB,h0,h1,h2,h3,h4,h5⟩:=h;exact ⟨AW,cW,AC,cC,AF,cF,AB,cB,(hb.block g (blk_lt h0)).trans h0,Kd.C_below h1 hb,Kd.C_below h2 hb,Kd.C_below h3 hb,Kd.C_below h4 hb,h5⟩
def thV (g:Nat) (at_:Int):Value:= .agg #[.pointer (some ⟨g,0,none⟩),.int .i64 at_]
def thing_class.f (m:Mm) (at_:Int):Option Int:=if 1≤at_∧at_≤m.words.length∧m.words.length≤281474976710656 then some (rd m.words (at_ - 1)) else none
set_option maxHeartbeats 4000000 in
set_option maxRecDepth 100000 in
theorem thing_class.calls (g:Nat) (m:Mm) (at_ r:Int) (w:World) (hm:MV w g m) (h:thing_class.f m at_=some r):
  Calls Try.prog 85 #[thV g at_] w fun e w'=>e= .returned (.int .i64 r)∧Below w.heap.size w w':=by
 unfold thing_class.f at h
 split at h
 case isFalse=>simp at h
 case isTrue hb=>
 have HR:=aK (Option.some.inj h);clear h;obtain ⟨AW,cW,AC,cC,AF,cF,AB,cB,h0,h1,h2,h3,h4,h5⟩:=hm;have HG:=blk_lt h0;obtain ⟨j,hj⟩: ∃j,j=at_ - 1:=⟨_,rfl⟩;have q:IntKind.i64.wrap (at_ - 1)=j:=by rw [hj];exact IntWalk.i64_in _ ⟨by omega,by omega⟩
 have p1:=eq_true (show 0≤j by omega);have p2:=eq_true (show j<(m.words.length:Int) by omega);obtain ⟨ad,e0,hx⟩:=Kd.at_int h1 j (by omega) (by omega)
 cases e0
 have x0: ∀o,(w.alloc o).cell? (ad.add j.toNat)=some (.int .i64 (rd m.words j)):=fun o=>((below_alloc (Below.refl _ _) o).cell (World.block_lt_of_cell? w _ hx)).trans hx
 rw [←hj] at HR;have c0: ∀o,(w.alloc o).cell? ⟨g,0,none⟩=_:=fun o=>(blk_cell (blk_alloc h0 o) 0).trans rfl
 clear h1 h2 h3 h4 h5 hb hj;unfold thV;go_enter Try.func85,Try.ntmps85;go_wp2
 go_quiet (fail)
 go_wp2;go_ret;exact ⟨by rw [←HR.out];rfl,by repeat (first|exact Below.refl _ _|apply below_alloc|apply pw_below_drewN|(refine below_set ?_ (by simp)))⟩
theorem box_new {w w':World} {cs:Array Value} {t:TypeId} (hb:Below (w.alloc (.cells cs t (0,0))).heap.size (w.alloc (.cells cs t (0,0))) w'):w'.heap[w.heap.size]? =some (.cells cs t (0,0)):=(hb.block w.heap.size (blk_lt (blk_new w _))).trans (blk_new w _)
def rdL (xs:List (List Int)) (i:Int):List Int:=xs.getD i.toNat []
theorem at_rows {w:World} {A:Option Addr} {n:Nat} {xs:List (List Int)} (h:Kd.C (Kd.slice 3 (Kd.int .i64)) w A n xs) (i:Int) (h0:0≤i) (h1:i<n): ∃ad A1 c1,A=some ad∧w.cell? (ad.add i.toNat)=some (.slice A1 (rdL xs i).length c1)∧(rdL xs i).length≤c1∧Kd.C (Kd.int .i64) w A1 (rdL xs i).length (rdL xs i):=by
  obtain ⟨ad,c,e,_,⟨A1,c1,rfl,l1,g1⟩,hc⟩:=Kd.C_get h [] i h0 h1;exact ⟨ad,A1,c1,e,by have:=hc 0 _ rfl;rw [show i.toNat*(Kd.slice 3 (Kd.int .i64)).sz+0=i.toNat from by show i.toNat*1+0=_;omega] at this;exact this,l1,g1⟩
def MO (w:World) (b g:Nat) (m:Mm):Prop:= ∃AW cW AC cC AF cF AB cB,
 w.heap[g]? =some (.cells #[.slice AW m.words.length cW,.int .i64 m.young,.int .i64 m.top,.int .i64 m.old,.slice AC m.cards.length cC,.slice AF m.fields.length cF,.slice AB m.begins.length cB] 72 (0,0))∧b≤g∧m.fields.length≤cF∧
 Kd.R (Kd.int .i64) 3 w b (fun k=>(k≠g∧some k≠(Value.slice AC m.cards.length cC).ownBlock)∧some k≠(Value.slice AB m.begins.length cB).ownBlock) (.slice AW m.words.length cW) m.words∧
 Kd.R Kd.bool 4 w b (fun k=>(k≠g∧some k≠(Value.slice AW m.words.length cW).ownBlock)∧some k≠(Value.slice AB m.begins.length cB).ownBlock) (.slice AC m.cards.length cC) m.cards∧
 Kd.F (Kd.slice 3 (Kd.int .i64)) w (fun k=>((k≠g∧some k≠(Value.slice AW m.words.length cW).ownBlock)∧some k≠(Value.slice AC m.cards.length cC).ownBlock)∧some k≠(Value.slice AB m.begins.length cB).ownBlock) AF m.fields.length m.fields∧
 Kd.R (Kd.int .i64) 3 w b (fun k=>(k≠g∧some k≠(Value.slice AW m.words.length cW).ownBlock)∧some k≠(Value.slice AC m.cards.length cC).ownBlock) (.slice AB m.begins.length cB) m.begins
theorem MO_below {w w':World} {b g:Nat} {m:Mm} (h:MO w b g m) (hb:Below w.heap.size w w'):MO w' b g m:=by
  obtain ⟨AW,cW,AC,cC,AF,cF,AB,cB,h0,hg,hf,h1,h2,h3,h4⟩:=h;exact ⟨AW,cW,AC,cC,AF,cF,AB,cB,(hb.block g (blk_lt h0)).trans h0,hg,hf,Kd.R_below h1 hb,Kd.R_below h2 hb,Kd.F_below h3 hb,Kd.R_below h4 hb⟩
theorem MO_MV {w:World} {b g:Nat} {m:Mm} (h:MO w b g m):MV w g m:=by
  obtain ⟨AW,cW,AC,cC,AF,cF,AB,cB,h0,hg,hf,h1,h2,h3,h4⟩:=h;exact ⟨AW,cW,AC,cC,AF,cF,AB,cB,h0,(Kd.R_reads' h1).2.2,(Kd.R_reads' h2).2.2,Kd.F_now h3,(Kd.R_reads' h4).2.2,(Kd.R_reads' h1).2.1,(Kd.R_reads' h2).2.1,hf,(Kd.R_reads' h4).2.1⟩
theorem MO_begins {w w1:World} {b g:Nat} {m:Mm} {AW:Option Addr} {cW:Nat} {AC:Option Addr} {cC:Nat} {AF:Option Addr} {cF:Nat} {AB:Option Addr} {cB:Nat} {AN:Option Addr} {cN:Nat} {ys acc:List Int}
  (h0:w.heap[g]? =some (.cells #[.slice AW m.words.length cW,.int .i64 m.young,.int .i64 m.top,.int .i64 m.old,.slice AC m.cards.length cC,.slice AF m.fields.length cF,.slice AB acc.length cB] 72 (0,0))) (hg:b≤g) (hf:m.fields.length≤cF)
  (h1:Kd.R (Kd.int .i64) 3 w b (fun k=>(k≠g∧some k≠(Value.slice AC m.cards.length cC).ownBlock)∧some k≠(Value.slice AB acc.length cB).ownBlock) (.slice AW m.words.length cW) m.words)
  (h2:Kd.R Kd.bool 4 w b (fun k=>(k≠g∧some k≠(Value.slice AW m.words.length cW).ownBlock)∧some k≠(Value.slice AB acc.length cB).ownBlock) (.slice AC m.cards.length cC) m.cards)
  (h3:Kd.F (Kd.slice 3 (Kd.int .i64)) w (fun k=>((k≠g∧some k≠(Value.slice AW m.words.length cW).ownBlock)∧some k≠(Value.slice AC m.cards.length cC).ownBlock)∧some k≠(Value.slice AB acc.length cB).ownBlock) AF m.fields.length m.fields)
  (h4:Kd.R (Kd.int .i64) 3 w b (fun k=>(k≠g∧some k≠(Value.slice AW m.words.length cW).ownBlock)∧some k≠(Value.slice AC m.cards.length cC).ownBlock) (.slice AB acc.length cB) acc)
  (hn:Kd.R (Kd.int .i64) 3 w1 b (fun k=>(k≠g∧some k≠(Value.slice AW m.words.length cW).ownBlock)∧some k≠(Value.slice AC m.cards.length cC).ownBlock) (.slice AN ys.length cN) ys)
  (hgr:w.grownBy w1 (Value.slice AB acc.length cB).ownBlock) (hat:(Value.slice AN ys.length cN).ownBlock=(Value.slice AB acc.length cB).ownBlock∨∃k,(Value.slice AN ys.length cN).ownBlock=some k∧w.heap.size≤k):
  MO (w1.setCell ⟨g,6,none⟩ (.slice AN ys.length cN)) b g {m with begins:=ys}:=
 ⟨AW, cW, AC, cC, AF, cF, AN, cN, blk_put (blk_grown h0 hgr (Kd.R_away h4 (fun _ hk => hk.1.1))) 6 _ rfl, hg, hf,
  Kd.R_far (Kd.R_after h1 hgr hat) (fun _ hk=>hk.1.1) _,Kd.R_far (Kd.R_after h2 hgr hat) (fun _ hk=>hk.1.1) _,Kd.F_far (Kd.F_after h3 hgr hat) (fun _ hk=>hk.1.1.1) _,Kd.R_far hn (fun _ hk=>hk.1.1) _⟩
def measN (F:List (List Int)) (c n:Int):Int:=if c= -1∨c= -2 then (if 0≤n∧n≤6 then 2+n else 0) else if 0≤c∧c<F.length then 1+((rdL F c).length:Int) else 0
def FShort (F:List (List Int)):Prop:= ∀c:Int,0≤c→c<F.length→(rdL F c).length≤4294967296
theorem measure_eq {F:List (List Int)} (hF:FShort F) (c n:Int):impl_measure.f 1 F c n=some (measN F c n):=by
 have w1: ∀x:Int,impl_within.f 0 x 6=some (decide (0≤x∧x≤6)):=fun x=>by
  unfold impl_within.f;by_cases a:0≤x<;>by_cases b:x≤6<;>simp [a,b]
 have key: ∀t:Bool,impl_measure.j0 1 F c n t=if t=true then (if 0≤n∧n≤6 then some (2+n) else some 0) else if 0≤c∧c<F.length then some (1+((rdL F c).length:Int)) else some 0:=fun t=>by
  show impl_measure.j0 (0+1) F c n t=_
  rw [impl_measure.j0,w1]
  cases t with
  | true =>
   simp only [if_pos,Option.bind_some]
   by_cases a:0≤n∧n≤6
   ·rw [if_pos (decide_eq_true a), if_pos a]
    congr 1
    unfold wrap64;omega
   ·rw [if_neg (by simpa using a),if_neg a]
  | false =>
   simp only [Bool.false_eq_true,if_false]
   by_cases h3:c≥0
   ·rw [if_pos h3]
    by_cases h4:c<(F.length:Int)
    ·rw [if_pos h4, if_pos (show 0 ≤ c from h3), if_pos ⟨h3, h4⟩]
     have:=hF c h3 h4
     show some (wrap64 (1+((rdL F c).length:Int)))=_
     congr 1
     unfold wrap64;omega
    ·rw [if_neg h4,if_neg (fun h=>h4 h.2)]
   ·rw [if_neg h3,if_neg (fun h=>h3 h.1)]
 unfold impl_measure.f measN;rw [key,key];by_cases h1:c= -1
 ·rw [if_pos h1, if_pos rfl, if_pos (Or.inl h1)]
  by_cases a:0≤n∧n≤6
  ·rw [if_pos a,if_pos a]
  ·rw [if_neg a,if_neg a]
 ·rw [if_neg h1]
  by_cases h2:c= -2
  ·rw [if_pos (beq_iff_eq.mpr h2), if_pos (Or.inr h2)]
   by_cases a:0≤n∧n≤6
   ·rw [if_pos a,if_pos a]
   ·rw [if_neg a,if_neg a]
  ·rw [if_neg (by simpa using h2), if_neg (show ¬ (c = -1 ∨ c = -2) from fun h => h.elim h1 h2)]
   by_cases a:0≤c∧c<(F.length:Int)
   ·rw [if_pos a,if_pos a]
   ·rw [if_neg a,if_neg a]
theorem measN_nn (F:List (List Int)) (c n:Int):0≤measN F c n:=by
 unfold measN
 split
 ·split<;>omega
 ·split<;>omega
theorem measN_le {F:List (List Int)} (hF:FShort F) (c n:Int):measN F c n≤4294967297:=by
 unfold measN
 split
 ·split<;>omega
 ·split
  case isTrue h=>have:=hF c h.1 h.2;omega
  case isFalse=>omega
theorem measure_calls (AF:Option Addr) (cF:Nat) (F:List (List Int)) (c n s:Int) (w:World) (hr:Kd.C (Kd.slice 3 (Kd.int .i64)) w AF F.length F) (hc:F.length≤cF) (hF:FShort F) (hs:measN F c n=s):
    Calls Try.prog 56 #[.slice AF F.length cF,.int .i64 c,.int .i64 n] w fun e w'=>e= .returned (.int .i64 s)∧Below w.heap.size w w':=
  (impl_measure.calls 1 AF cF F c n s w hr hc (by rw [measure_eq hF,hs])).mono (fun e w' h=>⟨h.1,h.2.below⟩)
def mstep (ws:List Int) (F:List (List Int)) (hi x:Int):Int:=
  if rd ws x<0 then (if x+1<hi then (if measN F (rd ws x) (rd ws (x+1))≤hi - x then measN F (rd ws x) (rd ws (x+1)) else 0) else 0)
  else (if measN F (rd ws x) 0≤hi - x then measN F (rd ws x) 0 else 0)
def mwalk (ws:List Int) (F:List (List Int)) (hi:Int):Nat→Int→List Int→Option (Bool×List Int)
  |0,_,_=>none
  |k+1,x,acc=>if x<hi then (if mstep ws F hi x=0 then some (false,acc) else mwalk ws F hi k (x+mstep ws F hi x) (acc++[x+1])) else some (true,acc)
theorem mwalk_lt (ws:List Int) (F:List (List Int)) (hi x:Int):mstep ws F hi x=0∨(0<mstep ws F hi x∧mstep ws F hi x≤hi - x):=by
 unfold mstep;have h1:=measN_nn F (rd ws x) (rd ws (x+1));have h2:=measN_nn F (rd ws x) 0;repeat' split
 all_goals omega
set_option maxHeartbeats 16000000 in
set_option maxRecDepth 100000 in
theorem memory_walk.calls (b g:Nat) (m:Mm) (from_ hi:Int) (q:Nat) (r:Bool×List Int) (w:World) (hm:MO w b g m) (hb:b≤w.heap.size) (h0:0≤from_) (h1:hi≤m.words.length) (h2:m.words.length≤1048576) (h3:m.begins.length≤1048576) (h4:FShort m.fields)
  (h:mwalk m.words m.fields hi q from_ m.begins=some r):
  Calls Try.prog 69 #[.pointer (some ⟨g,0,none⟩),.int .i64 from_,.int .i64 hi] w fun e w'=>e= .returned (.bool r.1)∧MO w' b g {m with begins:=r.2}∧Below b w w':=by
 have HM:=aK hm;have HBs:=aK hb;have H0:=aK h0;have H1:=aK h1;have H2:=aK h2;have H3:=aK h3;have H4:=aK h4;have HW:=aK h;clear hm hb h0 h1 h2 h3 h4 h;go_enter Try.func69,Try.ntmps69;go_wp2
 go_loopw [7] (fun i wr=> ∃(k:Nat) (x:Int) (acc:List Int),i= .int .i64 x∧Aside0 (mwalk m.words m.fields hi k x acc=some r)∧Aside0 (0≤x)∧Aside0 (acc.length≤m.begins.length+x.toNat)∧Aside0 (MO wr b g {m with begins:=acc})∧Aside0 (Below b w wr)) (fun i _=>(hi - intOf i).toNat)
 case atStart=>exact ⟨q,from_,m.begins,rfl,HW,H0,⟨by omega⟩,HM,⟨Below.refl _ _⟩⟩
 case round =>
  obtain ⟨k,x,acc,rfl,HA,HX,HL,HO,HB0⟩:=hrel
  cases k with
  |zero=>exact absurd HA.out (by simp [mwalk])
  | succ k1 =>
   have H:=HA.out;clear HA;unfold mwalk at H;by_cases c0:x<hi
   ·rw [if_pos c0] at H
    have d0:decide (x<hi)=true:=decide_eq_true c0
    have HV:=aK (MO_MV HO.out);obtain ⟨AW,cW,AC,cC,AF,cF,AB,cB,g0,hg,hf,r1,r2,r3,r4⟩:=HO.out;have hx:=HX.out;have hl1:=H1.out;have hl2:=H2.out;obtain ⟨ad,e0,hcell⟩:=Kd.at_int (Kd.R_reads' r1).2.2 x (by omega) (by show x<(m.words.length:Int);omega)
    cases e0
    have R1:=aK r1;have R2:=aK r2;have R3:=aK r3;have R4:=aK r4;have G0:=aK g0;have HF:=aK hf;have HGb:=aK hg;have p1:=eq_true hx;have p2:=eq_true (show x<(m.words.length:Int) by omega);have k0:=(blk_cell g0 0).trans rfl;have k5:=(blk_cell g0 5).trans rfl;have k6:=(blk_cell g0 6).trans rfl;obtain ⟨u,hu⟩: ∃u,rd m.words x=u:=⟨_,rfl⟩;have HU:=aK hu;replace hcell:wr.cell? (ad.add x.toNat)=some (.int .i64 u):=by rw [←hu];exact hcell
    obtain ⟨x1,hx1⟩: ∃x1,x1=x+1:=⟨_,rfl⟩;have q1:IntKind.i64.wrap (x+1)=x1:=by rw [hx1];exact IntWalk.i64_in _ ⟨by omega,by omega⟩
    have HX1:=aK hx1;have HC0:=aK c0;clear r1 r2 r3 r4 g0 hg hf hu c0;by_cases c1:u<0
    ·have d1 : decide (u < 0) = true := decide_eq_true c1
     by_cases c2:x+1<hi
     ·have d2 : decide (x1 ≥ hi) = false := decide_eq_false (by omega)
      obtain ⟨ad2,e0,hcell2⟩:=Kd.at_int (Kd.R_reads' R1.out).2.2 x1 (by omega) (by show x1<(m.words.length:Int);omega)
      cases e0
      have p3:=eq_true (show 0≤x1 by omega);have p4:=eq_true (show x1<(m.words.length:Int) by omega);obtain ⟨n,hn⟩: ∃n,rd m.words x1=n:=⟨_,rfl⟩;replace hcell2:wr.cell? (ad.add x1.toNat)=some (.int .i64 n):=by rw [←hn];exact hcell2
      obtain ⟨s,hs⟩: ∃s,measN m.fields u n=s:=⟨_,rfl⟩;have HS:=aK hs;have HST:=aK (show mstep m.words m.fields hi x=if s≤hi - x then s else 0 by unfold mstep;rw [HU.out,if_pos c1,if_pos c2,←hx1,hn,hs]);clear hs hn c1 c2;have HFC:=aK (Kd.F_now R3.out);have HB:=aK (Below.refl wr.heap.size wr);have HM1:=aK (MO_MV HO.out);have hs0:=measN_nn m.fields u n;rw [HS.out] at hs0;have hs1:=measN_le H4.out u n;rw [HS.out] at hs1;obtain ⟨t,ht⟩: ∃t,t=hi - x:=⟨_,rfl⟩;have q2:IntKind.i64.wrap (hi - x)=t:=by rw [ht];exact IntWalk.i64_in _ ⟨by have:=HC0.out;omega,by omega⟩
      by_cases z0:s=0
      ·have e1 : (s == 0) = true := beq_iff_eq.mpr z0
       have hz:mstep m.words m.fields hi x=0:=by rw [HST.out];split<;>omega
       rw [if_pos hz] at H;have HR:=aK (Option.some.inj H);clear H hz ht hs0 hs1 z0 hl1 hl2 hx1 hx;go_wp2;refine sT 15 (S:=fun w'=>Aside0 (Below wr.heap.size wr w')∧Aside0 (MV w' g ({m with begins:=acc}))∧w'.cell? (⟨g,0,none⟩)=some (.slice (some ad) m.words.length cW)∧w'.cell? (⟨g,5,none⟩)=some (.slice AF m.fields.length cF)∧w'.cell? (ad.add x.toNat)=some (.int .i64 u)∧w'.cell? (⟨g,6,none⟩)=some (.slice AB acc.length cB)) (ds:=[]) ⟨⟨below_drew1 HB.out⟩,⟨MV_below HM1.out (below_drew1 (Below.refl _ _))⟩,(by go_simp),(by go_simp),(by go_simp),(by go_simp)⟩ (fun hHeld=>?_);refine pS 0 36 (lA 15 1) ?_;refine pS 1 37 (lA 15 3) ?_;refine pS 2 38 (lA 15 7) ?_;refine pS 4 40 (lA 15 23) ?_;refine pS 5 41 (lA 15 55) ?_;refine pS 6 42 (lA 15 119) ?_;refine pS 7 43 (lA 15 247) ?_;refine pS 9 45 (lA 15 759) ?_;refine pS 12 48 (lA 15 4855) ?_;refine tS 3 39 (lA 15 4863) rfl rfl (by kernel_rfl) hHeld zz5 ?_;refine tS 8 44 (lA 15 5119) rfl rfl (by kernel_rfl) hHeld zz5 ?_;refine pS 10 46 (lA 15 6143) ?_;refine tS 11 47 (lA 15 8191) rfl rfl (by kernel_rfl) hHeld zz5 ?_;refine oS 13 49 (lA 15 16383) rfl rfl (fun K hK=>?_);refine gO Try.func56 #[.slice AF m.fields.length cF,.int .i64 u,.int .i64 n] ?_;(with_reducible refine (measure_calls AF cF m.fields u n s _ (Kd.C_below HFC.out hHeld.1.out) HF.out H4.out HS.out).mono ?_);rintro e w3 ⟨rfl,hb3⟩;refine ⟨_,rfl,?_⟩;refine hK.out _ _ ⟨⟨below_step hHeld.1.out hb3⟩,⟨MV_below hHeld.2.1.out hb3⟩,(pw_cell_below hb3 hHeld.2.2.1),(pw_cell_below hb3 hHeld.2.2.2.1),(pw_cell_below hb3 hHeld.2.2.2.2.1),(pw_cell_below hb3 hHeld.2.2.2.2.2)⟩ (fun hHeld=>?_);clear hK K;refine nS 49 ?_;refine pS 14 9 (lA 15 32767) ?_;refine done_ (by kernel_rfl) ?_;go_wp2;go_ret;exact ⟨by rw [←HR.out];rfl,by rw [←HR.out];exact MO_below HO.out hHeld.1.out,below_then HB0.out (Nat.le_trans HBs.out HB0.out.size) hHeld.1.out⟩
      have e1:(s==0)=false:=beq_eq_false_iff_ne.mpr z0
      by_cases z1:s>t
      ·have e2 : decide (s > t) = true := decide_eq_true z1
       have hz:mstep m.words m.fields hi x=0:=by rw [HST.out];split<;>omega
       rw [if_pos hz] at H;have HR:=aK (Option.some.inj H);clear H hz ht hs0 hs1 z0 z1 hl1 hl2 hx1 hx;go_wp2;refine sT 15 (S:=fun w'=>Aside0 (Below wr.heap.size wr w')∧Aside0 (MV w' g ({m with begins:=acc}))∧w'.cell? (⟨g,0,none⟩)=some (.slice (some ad) m.words.length cW)∧w'.cell? (⟨g,5,none⟩)=some (.slice AF m.fields.length cF)∧w'.cell? (ad.add x.toNat)=some (.int .i64 u)∧w'.cell? (⟨g,6,none⟩)=some (.slice AB acc.length cB)) (ds:=[]) ⟨⟨below_drew1 HB.out⟩,⟨MV_below HM1.out (below_drew1 (Below.refl _ _))⟩,(by go_simp),(by go_simp),(by go_simp),(by go_simp)⟩ (fun hHeld=>?_);refine pS 0 36 (lA 15 1) ?_;refine pS 1 37 (lA 15 3) ?_;refine pS 2 38 (lA 15 7) ?_;refine pS 4 40 (lA 15 23) ?_;refine pS 5 41 (lA 15 55) ?_;refine pS 6 42 (lA 15 119) ?_;refine pS 7 43 (lA 15 247) ?_;refine pS 9 45 (lA 15 759) ?_;refine pS 12 48 (lA 15 4855) ?_;refine tS 3 39 (lA 15 4863) rfl rfl (by kernel_rfl) hHeld zz5 ?_;refine tS 8 44 (lA 15 5119) rfl rfl (by kernel_rfl) hHeld zz5 ?_;refine pS 10 46 (lA 15 6143) ?_;refine tS 11 47 (lA 15 8191) rfl rfl (by kernel_rfl) hHeld zz5 ?_;refine oS 13 49 (lA 15 16383) rfl rfl (fun K hK=>?_);refine gO Try.func56 #[.slice AF m.fields.length cF,.int .i64 u,.int .i64 n] ?_;(with_reducible refine (measure_calls AF cF m.fields u n s _ (Kd.C_below HFC.out hHeld.1.out) HF.out H4.out HS.out).mono ?_);rintro e w3 ⟨rfl,hb3⟩;refine ⟨_,rfl,?_⟩;refine hK.out _ _ ⟨⟨below_step hHeld.1.out hb3⟩,⟨MV_below hHeld.2.1.out hb3⟩,(pw_cell_below hb3 hHeld.2.2.1),(pw_cell_below hb3 hHeld.2.2.2.1),(pw_cell_below hb3 hHeld.2.2.2.2.1),(pw_cell_below hb3 hHeld.2.2.2.2.2)⟩ (fun hHeld=>?_);clear hK K;refine nS 49 ?_;refine pS 14 9 (lA 15 32767) ?_;refine done_ (by kernel_rfl) ?_;go_wp2;go_ret;exact ⟨by rw [←HR.out];rfl,by rw [←HR.out];exact MO_below HO.out hHeld.1.out,below_then HB0.out (Nat.le_trans HBs.out HB0.out.size) hHeld.1.out⟩
      ·have e2 : decide (s > t) = false := decide_eq_false z1
       have hz:mstep m.words m.fields hi x=s:=by rw [HST.out,if_pos (by omega)]
       rw [hz,if_neg z0,←HX1.out] at H;obtain ⟨x2,hx2⟩: ∃x2,x2=x+s:=⟨_,rfl⟩;have q3:IntKind.i64.wrap (x+s)=x2:=by rw [hx2];exact IntWalk.i64_in _ ⟨by omega,by omega⟩
       rw [←hx2] at H;have H':=aK H;have HX2:=aK hx2;have HT:=aK ht;have HZ:=aK (show 0<s∧s≤t by omega);clear H ht hs0 hs1 z0 z1 hl1 hl2 hz hx2 hx1 hx;go_wp2;refine sT 15 (S:=fun w'=>Aside0 (Below wr.heap.size wr w')∧Aside0 (MV w' g ({m with begins:=acc}))∧w'.cell? (⟨g,0,none⟩)=some (.slice (some ad) m.words.length cW)∧w'.cell? (⟨g,5,none⟩)=some (.slice AF m.fields.length cF)∧w'.cell? (ad.add x.toNat)=some (.int .i64 u)∧w'.cell? (⟨g,6,none⟩)=some (.slice AB acc.length cB)) (ds:=[]) ⟨⟨below_drew1 HB.out⟩,⟨MV_below HM1.out (below_drew1 (Below.refl _ _))⟩,(by go_simp),(by go_simp),(by go_simp),(by go_simp)⟩ (fun hHeld=>?_);refine pS 0 36 (lA 15 1) ?_;refine pS 1 37 (lA 15 3) ?_;refine pS 2 38 (lA 15 7) ?_;refine pS 4 40 (lA 15 23) ?_;refine pS 5 41 (lA 15 55) ?_;refine pS 6 42 (lA 15 119) ?_;refine pS 7 43 (lA 15 247) ?_;refine pS 9 45 (lA 15 759) ?_;refine pS 12 48 (lA 15 4855) ?_;refine tS 3 39 (lA 15 4863) rfl rfl (by kernel_rfl) hHeld zz5 ?_;refine tS 8 44 (lA 15 5119) rfl rfl (by kernel_rfl) hHeld zz5 ?_;refine pS 10 46 (lA 15 6143) ?_;refine tS 11 47 (lA 15 8191) rfl rfl (by kernel_rfl) hHeld zz5 ?_;refine oS 13 49 (lA 15 16383) rfl rfl (fun K hK=>?_);refine gO Try.func56 #[.slice AF m.fields.length cF,.int .i64 u,.int .i64 n] ?_;(with_reducible refine (measure_calls AF cF m.fields u n s _ (Kd.C_below HFC.out hHeld.1.out) HF.out H4.out HS.out).mono ?_);rintro e w3 ⟨rfl,hb3⟩;refine ⟨_,rfl,?_⟩;refine hK.out _ _ ⟨⟨below_step hHeld.1.out hb3⟩,⟨MV_below hHeld.2.1.out hb3⟩,(pw_cell_below hb3 hHeld.2.2.1),(pw_cell_below hb3 hHeld.2.2.2.1),(pw_cell_below hb3 hHeld.2.2.2.2.1),(pw_cell_below hb3 hHeld.2.2.2.2.2)⟩ (fun hHeld=>?_);clear hK K;refine nS 49 ?_;refine pS 14 9 (lA 15 32767) ?_;refine done_ (by kernel_rfl) ?_;have HB2:=hHeld.1;have k6:=hHeld.2.2.2.2.2;clear hHeld HB HM1 HFC HV;have GN:=aK ((HB2.out.block g (blk_lt G0.out)).trans G0.out);have HS3:=aK (show b≤w3.heap.size from Nat.le_trans (Nat.le_trans HBs.out HB0.out.size) HB2.out.size)
       go_wp2_with ((with_reducible refine gate_builtin (b:= .append) (xs:= #[.tmp 63,.tmp 66]) rfl ?_);at_builtin;refine Kd.R_append (Kd.int .i64) (w0:=w) b rfl (.tmp 63) (.tmp 66) 24 3 (.int .i64 0) 8 rfl Try.underlying24 info3 rfl (by decide) (by omega) (.slice AB acc.length cB) acc x1 [.int .i64 x1] (fun k=>(k≠g∧some k≠(Value.slice (some ad) m.words.length cW).ownBlock)∧some k≠(Value.slice AC m.cards.length cC).ownBlock) (fun _=>False) rfl rfl ?aP (fun _ hk=>hk.elim) ?aF ?aO ?aB ?aS ?aL ?_;(case aP=>exact rfl);(case aB=>exact below_then HB0.out (Nat.le_trans HBs.out HB0.out.size) HB2.out);(case aF=>exact fun k hk=>⟨⟨by have:=blk_lt GN.out;omega,fun e=>by have:=Kd.R_lt (Kd.R_below R1.out HB2.out) k e.symm;omega⟩,fun e=>by have:=Kd.R_lt (Kd.R_below R2.out HB2.out) k e.symm;omega⟩);(case aO=>exact Kd.R_below R4.out HB2.out);(case aS=>exact HS3.out);(case aL=>have:=HL.out;have:=H3.out;have:=H1.out;have:=H2.out;have:=HC0.out;omega);intro v67 w5 ho hbn hgr hat;obtain ⟨AN,cN,rfl⟩:=Kd.R_slice ho;have HMO:=aK (MO_begins GN.out HGb.out HF.out (Kd.R_below R1.out HB2.out) (Kd.R_below R2.out HB2.out) (Kd.F_below R3.out HB2.out) (Kd.R_below R4.out HB2.out) ho hgr hat);have HBN:=aK (show Below b w (w5.setCell ⟨g,6,none⟩ (.slice AN (acc++[x1]).length cN)) from hbn.setCell HGb.out _);have GW:=aK (blk_grown GN.out hgr (Kd.R_away (Kd.R_below R4.out HB2.out) (fun _ hk=>hk.1.1)));have n6:=(blk_cell GW.out 6).trans rfl;have nf6:=blk_frozen GW.out 6;clear ho hbn hgr hat)
       go_roundw
       case rel=>exact ⟨k1,x2,acc++[x1],rfl,H',⟨by have:=HX2.out;have:=HZ.out;have:=HX.out;omega⟩,⟨by have:=HL.out;have:=HX2.out;have:=HZ.out;have:=HX.out;rw [List.length_append,List.length_singleton];omega⟩,by rw [show acc.length+1=(acc++[x1]).length by simp];exact HMO,by rw [show acc.length+1=(acc++[x1]).length by simp];exact HBN⟩
       case measure=>have:=HX2.out;have:=HZ.out;have:=HT.out;show (hi - x2).toNat<(hi - x).toNat;omega
     ·have d2 : decide (x1 ≥ hi) = true := decide_eq_true (by omega)
      have hz:mstep m.words m.fields hi x=0:=by unfold mstep;rw [HU.out,if_pos c1,if_neg c2]
      rw [if_pos hz] at H;have HR:=aK (Option.some.inj H);clear H hz c1 c2 hx1 hx hl1 hl2;go_wp2;go_ret;exact ⟨by rw [←HR.out];rfl,by rw [←HR.out];exact HO.out,HB0.out⟩
    ·have d1 : decide (u < 0) = false := decide_eq_false c1
     obtain ⟨s,hs⟩: ∃s,measN m.fields u 0=s:=⟨_,rfl⟩;have HS:=aK hs;have HST:=aK (show mstep m.words m.fields hi x=if s≤hi - x then s else 0 by unfold mstep;rw [HU.out,if_neg c1,hs]);clear hs c1;have HFC:=aK (Kd.F_now R3.out);have HB:=aK (Below.refl wr.heap.size wr);have HM1:=aK (MO_MV HO.out);have hs0:=measN_nn m.fields u 0;rw [HS.out] at hs0;have hs1:=measN_le H4.out u 0;rw [HS.out] at hs1;obtain ⟨t,ht⟩: ∃t,t=hi - x:=⟨_,rfl⟩;have q2:IntKind.i64.wrap (hi - x)=t:=by rw [ht];exact IntWalk.i64_in _ ⟨by have:=HC0.out;omega,by omega⟩
     by_cases z0:s=0
     ·have e1 : (s == 0) = true := beq_iff_eq.mpr z0
      have hz:mstep m.words m.fields hi x=0:=by rw [HST.out];split<;>omega
      rw [if_pos hz] at H;have HR:=aK (Option.some.inj H);clear H hz ht hs0 hs1 z0 hl1 hl2 hx1 hx;go_wp2;refine sT 15 (S:=fun w'=>Aside0 (Below wr.heap.size wr w')∧Aside0 (MV w' g ({m with begins:=acc}))∧w'.cell? (⟨g,0,none⟩)=some (.slice (some ad) m.words.length cW)∧w'.cell? (⟨g,5,none⟩)=some (.slice AF m.fields.length cF)∧w'.cell? (ad.add x.toNat)=some (.int .i64 u)∧w'.cell? (⟨g,6,none⟩)=some (.slice AB acc.length cB)) (ds:=[]) ⟨⟨below_drew1 HB.out⟩,⟨MV_below HM1.out (below_drew1 (Below.refl _ _))⟩,(by go_simp),(by go_simp),(by go_simp),(by go_simp)⟩ (fun hHeld=>?_);refine pS 0 36 (lA 15 1) ?_;refine pS 1 37 (lA 15 3) ?_;refine pS 2 38 (lA 15 7) ?_;refine pS 4 40 (lA 15 23) ?_;refine pS 5 41 (lA 15 55) ?_;refine pS 6 42 (lA 15 119) ?_;refine pS 7 43 (lA 15 247) ?_;refine pS 9 45 (lA 15 759) ?_;refine pS 12 48 (lA 15 4855) ?_;refine tS 3 39 (lA 15 4863) rfl rfl (by kernel_rfl) hHeld zz5 ?_;refine tS 8 44 (lA 15 5119) rfl rfl (by kernel_rfl) hHeld zz5 ?_;refine pS 10 46 (lA 15 6143) ?_;refine tS 11 47 (lA 15 8191) rfl rfl (by kernel_rfl) hHeld zz5 ?_;refine oS 13 49 (lA 15 16383) rfl rfl (fun K hK=>?_);refine gO Try.func56 #[.slice AF m.fields.length cF,.int .i64 u,.int .i64 0] ?_;(with_reducible refine (measure_calls AF cF m.fields u 0 s _ (Kd.C_below HFC.out hHeld.1.out) HF.out H4.out HS.out).mono ?_);rintro e w3 ⟨rfl,hb3⟩;refine ⟨_,rfl,?_⟩;refine hK.out _ _ ⟨⟨below_step hHeld.1.out hb3⟩,⟨MV_below hHeld.2.1.out hb3⟩,(pw_cell_below hb3 hHeld.2.2.1),(pw_cell_below hb3 hHeld.2.2.2.1),(pw_cell_below hb3 hHeld.2.2.2.2.1),(pw_cell_below hb3 hHeld.2.2.2.2.2)⟩ (fun hHeld=>?_);clear hK K;refine nS 49 ?_;refine pS 14 9 (lA 15 32767) ?_;refine done_ (by kernel_rfl) ?_;go_wp2;go_ret;exact ⟨by rw [←HR.out];rfl,by rw [←HR.out];exact MO_below HO.out hHeld.1.out,below_then HB0.out (Nat.le_trans HBs.out HB0.out.size) hHeld.1.out⟩
     have e1:(s==0)=false:=beq_eq_false_iff_ne.mpr z0
     by_cases z1:s>t
     ·have e2 : decide (s > t) = true := decide_eq_true z1
      have hz:mstep m.words m.fields hi x=0:=by rw [HST.out];split<;>omega
      rw [if_pos hz] at H;have HR:=aK (Option.some.inj H);clear H hz ht hs0 hs1 z0 z1 hl1 hl2 hx1 hx;go_wp2;refine sT 15 (S:=fun w'=>Aside0 (Below wr.heap.size wr w')∧Aside0 (MV w' g ({m with begins:=acc}))∧w'.cell? (⟨g,0,none⟩)=some (.slice (some ad) m.words.length cW)∧w'.cell? (⟨g,5,none⟩)=some (.slice AF m.fields.length cF)∧w'.cell? (ad.add x.toNat)=some (.int .i64 u)∧w'.cell? (⟨g,6,none⟩)=some (.slice AB acc.length cB)) (ds:=[]) ⟨⟨below_drew1 HB.out⟩,⟨MV_below HM1.out (below_drew1 (Below.refl _ _))⟩,(by go_simp),(by go_simp),(by go_simp),(by go_simp)⟩ (fun hHeld=>?_);refine pS 0 36 (lA 15 1) ?_;refine pS 1 37 (lA 15 3) ?_;refine pS 2 38 (lA 15 7) ?_;refine pS 4 40 (lA 15 23) ?_;refine pS 5 41 (lA 15 55) ?_;refine pS 6 42 (lA 15 119) ?_;refine pS 7 43 (lA 15 247) ?_;refine pS 9 45 (lA 15 759) ?_;refine pS 12 48 (lA 15 4855) ?_;refine tS 3 39 (lA 15 4863) rfl rfl (by kernel_rfl) hHeld zz5 ?_;refine tS 8 44 (lA 15 5119) rfl rfl (by kernel_rfl) hHeld zz5 ?_;refine pS 10 46 (lA 15 6143) ?_;refine tS 11 47 (lA 15 8191) rfl rfl (by kernel_rfl) hHeld zz5 ?_;refine oS 13 49 (lA 15 16383) rfl rfl (fun K hK=>?_);refine gO Try.func56 #[.slice AF m.fields.length cF,.int .i64 u,.int .i64 0] ?_;(with_reducible refine (measure_calls AF cF m.fields u 0 s _ (Kd.C_below HFC.out hHeld.1.out) HF.out H4.out HS.out).mono ?_);rintro e w3 ⟨rfl,hb3⟩;refine ⟨_,rfl,?_⟩;refine hK.out _ _ ⟨⟨below_step hHeld.1.out hb3⟩,⟨MV_below hHeld.2.1.out hb3⟩,(pw_cell_below hb3 hHeld.2.2.1),(pw_cell_below hb3 hHeld.2.2.2.1),(pw_cell_below hb3 hHeld.2.2.2.2.1),(pw_cell_below hb3 hHeld.2.2.2.2.2)⟩ (fun hHeld=>?_);clear hK K;refine nS 49 ?_;refine pS 14 9 (lA 15 32767) ?_;refine done_ (by kernel_rfl) ?_;go_wp2;go_ret;exact ⟨by rw [←HR.out];rfl,by rw [←HR.out];exact MO_below HO.out hHeld.1.out,below_then HB0.out (Nat.le_trans HBs.out HB0.out.size) hHeld.1.out⟩
     ·have e2 : decide (s > t) = false := decide_eq_false z1
      have hz:mstep m.words m.fields hi x=s:=by rw [HST.out,if_pos (by omega)]
      rw [hz,if_neg z0,←HX1.out] at H;obtain ⟨x2,hx2⟩: ∃x2,x2=x+s:=⟨_,rfl⟩;have q3:IntKind.i64.wrap (x+s)=x2:=by rw [hx2];exact IntWalk.i64_in _ ⟨by omega,by omega⟩
      rw [←hx2] at H;have H':=aK H;have HX2:=aK hx2;have HT:=aK ht;have HZ:=aK (show 0<s∧s≤t by omega);clear H ht hs0 hs1 z0 z1 hl1 hl2 hz hx2 hx1 hx;go_wp2;refine sT 15 (S:=fun w'=>Aside0 (Below wr.heap.size wr w')∧Aside0 (MV w' g ({m with begins:=acc}))∧w'.cell? (⟨g,0,none⟩)=some (.slice (some ad) m.words.length cW)∧w'.cell? (⟨g,5,none⟩)=some (.slice AF m.fields.length cF)∧w'.cell? (ad.add x.toNat)=some (.int .i64 u)∧w'.cell? (⟨g,6,none⟩)=some (.slice AB acc.length cB)) (ds:=[]) ⟨⟨below_drew1 HB.out⟩,⟨MV_below HM1.out (below_drew1 (Below.refl _ _))⟩,(by go_simp),(by go_simp),(by go_simp),(by go_simp)⟩ (fun hHeld=>?_);refine pS 0 36 (lA 15 1) ?_;refine pS 1 37 (lA 15 3) ?_;refine pS 2 38 (lA 15 7) ?_;refine pS 4 40 (lA 15 23) ?_;refine pS 5 41 (lA 15 55) ?_;refine pS 6 42 (lA 15 119) ?_;refine pS 7 43 (lA 15 247) ?_;refine pS 9 45 (lA 15 759) ?_;refine pS 12 48 (lA 15 4855) ?_;refine tS 3 39 (lA 15 4863) rfl rfl (by kernel_rfl) hHeld zz5 ?_;refine tS 8 44 (lA 15 5119) rfl rfl (by kernel_rfl) hHeld zz5 ?_;refine pS 10 46 (lA 15 6143) ?_;refine tS 11 47 (lA 15 8191) rfl rfl (by kernel_rfl) hHeld zz5 ?_;refine oS 13 49 (lA 15 16383) rfl rfl (fun K hK=>?_);refine gO Try.func56 #[.slice AF m.fields.length cF,.int .i64 u,.int .i64 0] ?_;(with_reducible refine (measure_calls AF cF m.fields u 0 s _ (Kd.C_below HFC.out hHeld.1.out) HF.out H4.out HS.out).mono ?_);rintro e w3 ⟨rfl,hb3⟩;refine ⟨_,rfl,?_⟩;refine hK.out _ _ ⟨⟨below_step hHeld.1.out hb3⟩,⟨MV_below hHeld.2.1.out hb3⟩,(pw_cell_below hb3 hHeld.2.2.1),(pw_cell_below hb3 hHeld.2.2.2.1),(pw_cell_below hb3 hHeld.2.2.2.2.1),(pw_cell_below hb3 hHeld.2.2.2.2.2)⟩ (fun hHeld=>?_);clear hK K;refine nS 49 ?_;refine pS 14 9 (lA 15 32767) ?_;refine done_ (by kernel_rfl) ?_;have HB2:=hHeld.1;have k6:=hHeld.2.2.2.2.2;clear hHeld HB HM1 HFC HV;have GN:=aK ((HB2.out.block g (blk_lt G0.out)).trans G0.out);have HS3:=aK (show b≤w3.heap.size from Nat.le_trans (Nat.le_trans HBs.out HB0.out.size) HB2.out.size)
      go_wp2_with ((with_reducible refine gate_builtin (b:= .append) (xs:= #[.tmp 63,.tmp 66]) rfl ?_);at_builtin;refine Kd.R_append (Kd.int .i64) (w0:=w) b rfl (.tmp 63) (.tmp 66) 24 3 (.int .i64 0) 8 rfl Try.underlying24 info3 rfl (by decide) (by omega) (.slice AB acc.length cB) acc x1 [.int .i64 x1] (fun k=>(k≠g∧some k≠(Value.slice (some ad) m.words.length cW).ownBlock)∧some k≠(Value.slice AC m.cards.length cC).ownBlock) (fun _=>False) rfl rfl ?aP (fun _ hk=>hk.elim) ?aF ?aO ?aB ?aS ?aL ?_;(case aP=>exact rfl);(case aB=>exact below_then HB0.out (Nat.le_trans HBs.out HB0.out.size) HB2.out);(case aF=>exact fun k hk=>⟨⟨by have:=blk_lt GN.out;omega,fun e=>by have:=Kd.R_lt (Kd.R_below R1.out HB2.out) k e.symm;omega⟩,fun e=>by have:=Kd.R_lt (Kd.R_below R2.out HB2.out) k e.symm;omega⟩);(case aO=>exact Kd.R_below R4.out HB2.out);(case aS=>exact HS3.out);(case aL=>have:=HL.out;have:=H3.out;have:=H1.out;have:=H2.out;have:=HC0.out;omega);intro v67 w5 ho hbn hgr hat;obtain ⟨AN,cN,rfl⟩:=Kd.R_slice ho;have HMO:=aK (MO_begins GN.out HGb.out HF.out (Kd.R_below R1.out HB2.out) (Kd.R_below R2.out HB2.out) (Kd.F_below R3.out HB2.out) (Kd.R_below R4.out HB2.out) ho hgr hat);have HBN:=aK (show Below b w (w5.setCell ⟨g,6,none⟩ (.slice AN (acc++[x1]).length cN)) from hbn.setCell HGb.out _);have GW:=aK (blk_grown GN.out hgr (Kd.R_away (Kd.R_below R4.out HB2.out) (fun _ hk=>hk.1.1)));have n6:=(blk_cell GW.out 6).trans rfl;have nf6:=blk_frozen GW.out 6;clear ho hbn hgr hat)
      go_roundw
      case rel=>exact ⟨k1,x2,acc++[x1],rfl,H',⟨by have:=HX2.out;have:=HZ.out;have:=HX.out;omega⟩,⟨by have:=HL.out;have:=HX2.out;have:=HZ.out;have:=HX.out;rw [List.length_append,List.length_singleton];omega⟩,by rw [show acc.length+1=(acc++[x1]).length by simp];exact HMO,by rw [show acc.length+1=(acc++[x1]).length by simp];exact HBN⟩
      case measure=>have:=HX2.out;have:=HZ.out;have:=HT.out;show (hi - x2).toNat<(hi - x).toNat;omega
   ·rw [if_neg c0] at H
    have d0:decide (x<hi)=false:=decide_eq_false c0
    have HR:=aK (Option.some.inj H);clear H c0;go_wp2;go_ret;exact ⟨by rw [←HR.out];rfl,by rw [←HR.out];exact HO.out,HB0.out⟩
def spec_l6In.f (a0:Int) (a1:Int) (a2:Int):Option (Bool):=if a0≥a1 then (some (decide (a0≤a2))) else (some false)
set_option maxHeartbeats 8000000 in
set_option maxRecDepth 100000 in
theorem spec_l6In.calls (a0:Int) (a1:Int) (a2:Int) (r:Bool) (w:World) (h:spec_l6In.f a0 a1 a2=some r):
  Calls Try.prog 79 #[.int .i64 a0,.int .i64 a1,.int .i64 a2] w fun e w'=>e= .returned (.bool r)∧Drawn0 w w':=by
 have H:(if a0≥a1 then (some (decide (a0≤a2))) else (some false))=some r:=h
 clear h;by_cases c4:a0≥a1
 ·rw [if_pos c4] at H
  have c4b0:decide (a1≤a0)=true:=decide_eq_true c4
  clear c4;obtain rfl:=Option.some.inj H;go_enter Try.func79,Try.ntmps79;go_wp2;go_ret;exact ⟨zz7,zz13⟩
 ·rw [if_neg c4] at H
  have c4b0:decide (a1≤a0)=false:=decide_eq_false c4
  clear c4;obtain rfl:=Option.some.inj H;go_enter Try.func79,Try.ntmps79;go_wp2;go_ret;exact ⟨zz7,zz13⟩
def spec_l21Cards.f (a0:Int):Option (Int):=some (wrap64 (Int.tdiv (wrap64 ((wrap64 (a0+4)) - 1)) 4))
set_option maxHeartbeats 8000000 in
set_option maxRecDepth 100000 in
theorem spec_l21Cards.calls (a0:Int) (r:Int) (w:World) (h:spec_l21Cards.f a0=some r):
  Calls Try.prog 84 #[.int .i64 a0] w fun e w'=>e= .returned (.int .i64 r)∧Drawn0 w w':=by
 have H:(some (wrap64 (Int.tdiv (wrap64 ((wrap64 (a0+4)) - 1)) 4)))=some r:=h
 clear h;obtain rfl:=Option.some.inj H;go_enter Try.func84,Try.ntmps84;go_wp2;go_ret;exact ⟨zz7,zz13⟩
def spec_MemNew.f (a0:Int) (a1:Int):Option (List Int×Int×Int×Int×List Bool):=(spec_l6In.f a0 0 40).bind fun t168=>(if t168=true then ((spec_l6In.f a1 14 120).bind fun t169=>(if t169=true then (if 0≤(wrap64 (a0+a1)) then (if (wrap64 (a0+a1):Int).toNat≤35184372088832 then ((spec_l21Cards.f a1).bind fun t173=>(if 0≤t173 then (if (t173:Int).toNat≤281474976710656 then (some ((List.replicate (wrap64 (a0+a1):Int).toNat 0),a0,0,a0,(List.replicate (t173:Int).toNat false))) else (none)) else (none))) else (none)) else (none)) else (some (([]:List Int),0,0,0,([]:List Bool))))) else (some (([]:List Int),0,0,0,([]:List Bool))))
def spec_MemNew.T3:Bool×List (List Nat×List Nat):=(true,[([],[]),([],[]),([0,1],[0,1]),([2,2],[2]),([],[]),([],[]),([],[]),([6],[6]),([7,7],[7]),([3,4,5,8],[3,4,5,8]),([9,7,0,1,2,3,4,5,6,7,8,9],[9])])
def spec_MemNew.B3:List Nat:=[0,0,3,7,0,0,0,64,192,511,1023]
theorem spec_MemNew.tab3:rtab .any (opsOf Try.f96 3)=spec_MemNew.T3:=by kernel_rfl
theorem spec_MemNew.bits3:waitsOk spec_MemNew.T3.2 spec_MemNew.B3=true:=by kernel_rfl
set_option maxHeartbeats 8000000 in
set_option maxRecDepth 100000 in
theorem spec_MemNew.calls (a0 : Int) (a1 : Int) (r1 : List Int) (r2 : Int) (r3 : Int) (r4 : Int) (r5 : List Bool) (w : World) (h : spec_MemNew.f a0 a1 = some (r1, r2, r3, r4, r5)) :
  Calls Try.prog 96 #[.int .i64 a0,.int .i64 a1] w fun e w'=> ∃v0_ v4_:Value,e= .returned (.agg #[v0_,.int .i64 r2,.int .i64 r3,.int .i64 r4,v4_])∧Kd.R (Kd.int .i64) 3 w' w.heap.size (fun _=>True) v0_ r1∧Kd.R Kd.bool 4 w' w.heap.size (fun _=>True) v4_ r5∧Below w.heap.size w w':=by
 have hu27:=Try.underlying27;have HB:=aK (Below.refl w.heap.size w);have H:((spec_l6In.f a0 0 40).bind fun t168=>(if t168=true then ((spec_l6In.f a1 14 120).bind fun t169=>(if t169=true then (if 0≤(wrap64 (a0+a1)) then (if (wrap64 (a0+a1):Int).toNat≤35184372088832 then ((spec_l21Cards.f a1).bind fun t173=>(if 0≤t173 then (if (t173:Int).toNat≤281474976710656 then (some ((List.replicate (wrap64 (a0+a1):Int).toNat 0),a0,0,a0,(List.replicate (t173:Int).toNat false))) else (none)) else (none))) else (none)) else (none)) else (some (([]:List Int),0,0,0,([]:List Bool))))) else (some (([]:List Int),0,0,0,([]:List Bool)))))=some (r1,r2,r3,r4,r5):=h
 clear h;replace H:=Option.bind_eq_some_iff.mp H;obtain ⟨t168,A30,H⟩:=H;(try dsimp only at H);have A3:=aK A30;clear A30;by_cases c4:t168=true
 ·subst c4
  rw [if_pos rfl] at H;replace H:=Option.bind_eq_some_iff.mp H;obtain ⟨t169,A50,H⟩:=H;(try dsimp only at H);have A5:=aK A50;clear A50;by_cases c6:t169=true
  ·subst c6
   rw [if_pos rfl] at H;obtain ⟨ji7,hji7⟩: ∃j_:Int,(wrap64 (a0+a1))=j_:=⟨_,rfl⟩;replace H:(if 0≤(ji7) then (if (ji7:Int).toNat≤35184372088832 then ((spec_l21Cards.f a1).bind fun t173=>(if 0≤t173 then (if (t173:Int).toNat≤281474976710656 then (some ((List.replicate (ji7:Int).toNat 0),a0,0,a0,(List.replicate (t173:Int).toNat false))) else (none)) else (none))) else (none)) else (none))=some (r1,r2,r3,r4,r5):=by first|(rw [hji7] at H;exact H)|(simp only [hji7] at H ⊢;exact H)
   (try rw [hji7] at A3)
   (try rw [hji7] at A5)
   have hji7w:(IntKind.i64.wrap (a0+a1))=ji7:=(i64_w _).trans hji7
   by_cases c8:0≤(ji7)
   ·rw [if_pos c8] at H
    have c8b0:=eq_true c8;have c8b1:decide (0≤(ji7))=true:=decide_eq_true c8
    clear c8;by_cases c9:(ji7:Int).toNat≤35184372088832
    ·rw [if_pos c9] at H
     have c9b0:=eq_true c9;have c9b1:decide ((ji7:Int).toNat≤35184372088832)=true:=decide_eq_true c9
     clear c9;obtain ⟨y170,hy170⟩: ∃y_:List Int,y_=(List.replicate (ji7:Int).toNat 0):=⟨_,rfl⟩;replace H:((spec_l21Cards.f a1).bind fun t173=>(if 0≤t173 then (if (t173:Int).toNat≤281474976710656 then (some (y170,a0,0,a0,(List.replicate (t173:Int).toNat false))) else (none)) else (none)))=some (r1,r2,r3,r4,r5):=by first|(rw [hy170];with_reducible exact H)|(have H2_:=(Option.bind_some _ _).symm.trans H;rw [hy170];with_reducible exact H2_)|(have H2_:=(Option.bind_some _ _).symm.trans H;with_reducible exact H2_)|with_reducible exact H|(rw [hy170];exact H)|exact H
     have Ny170:=aK hy170;clear hy170;replace H:=Option.bind_eq_some_iff.mp H;obtain ⟨t173,A100,H⟩:=H;(try dsimp only at H);have A10:=aK A100;clear A100;by_cases c11:0≤t173
     ·rw [if_pos c11] at H
      have c11b0:=eq_true c11;have c11b1:decide (0≤t173)=true:=decide_eq_true c11
      clear c11;by_cases c12:(t173:Int).toNat≤281474976710656
      ·rw [if_pos c12] at H
       have c12b0:=eq_true c12;have c12b1:decide ((t173:Int).toNat≤281474976710656)=true:=decide_eq_true c12
       clear c12;obtain ⟨y174,hy174⟩: ∃y_:List Bool,y_=(List.replicate (t173:Int).toNat false):=⟨_,rfl⟩;replace H:(some (y170,a0,0,a0,y174))=some (r1,r2,r3,r4,r5):=by first|(rw [hy174];with_reducible exact H)|(have H2_:=(Option.bind_some _ _).symm.trans H;rw [hy174];with_reducible exact H2_)|(have H2_:=(Option.bind_some _ _).symm.trans H;with_reducible exact H2_)|with_reducible exact H|(rw [hy174];exact H)|exact H
       have Ny174:=aK hy174;clear hy174;simp only [Option.some.injEq,Prod.mk.injEq] at H;obtain ⟨rfl,rfl,rfl,rfl,rfl⟩:=H;go_enter Try.func96,Try.ntmps96;try go_wp2_with (first|((with_reducible refine gate_dst (N:=4) rfl ?_);refine box_event ?hg (N:=4) ?hd (cs:= #[.slice none 0 0,.int .i64 0,.int .i64 0,.int .i64 0,.slice none 0 0]) (t:=27) ?hr ?_;(case hd=>rfl);(case hg=>rfl);(case hr=>first|(go_simp;done)|(go_simp;rfl));intro gb167 hg w13 hbox hb;have BK167:=aK (hbox);have GW167:=aK ((by rw [hg];exact (below_size zz1):w.heap.size≤gb167));have GE167:=aK ((by rw [hg];exact (below_size zz1):w.heap.size≤gb167));replace HB:=aK (below_step zz1 hb);clear hb hbox hg)|((with_reducible refine gate_callee (f:=79) rfl ?_);refine goesL_ (some 6) rfl rfl Try.func79 (by kernel_rfl) rfl #[.int .i64 a0,.int .i64 0,.int .i64 40] rfl zz2 ?_;(with_reducible refine (spec_l6In.calls a0 0 40 true _ A3.out).mono ?_);rintro e w' ⟨rfl,⟨nd,rfl⟩⟩;refine ⟨_,rfl,?_⟩;(try (rw [drewN_self w13];generalize hq_:World.drewN w13 _=w13;have n0_:Aside0 (w13.heap[gb167]? =some (.cells #[.slice none 0 0,.int .i64 0,.int .i64 0,.int .i64 0,.slice none 0 0] 27 (0,0))):=⟨by rw [←hq_];exact zz19⟩;have n1_:Aside0 (Below w.heap.size w w13):=⟨by rw [←hq_];exact zz9⟩;clear BK167 HB hq_;have BK167:=n0_;have HB:=n1_;clear n0_ n1_)))|(go_at_call 79;(with_reducible refine (spec_l6In.calls a1 14 120 true _ A5.out).mono ?_);rintro e w' ⟨rfl,⟨nd,rfl⟩⟩;(try (rw [drewN_self w13];generalize hq_:World.drewN w13 _=w13;have n0_:Aside0 (w13.heap[gb167]? =some (.cells #[.slice none 0 0,.int .i64 0,.int .i64 0,.int .i64 0,.slice none 0 0] 27 (0,0))):=⟨by rw [←hq_];exact zz19⟩;have n1_:Aside0 (Below w.heap.size w w13):=⟨by rw [←hq_];exact zz9⟩;clear BK167 HB hq_;have BK167:=n0_;have HB:=n1_;clear n0_ n1_))))
       have n0_:=aK (blk_drew BK167.out);have n1_:=aK (below_drew1 HB.out);clear BK167;clear HB;have BK167:=n0_;have HB:=n1_;clear n0_ n1_;refine sT 11 (S:=fun w'=>True) (ds:=[]) trivial (fun hHeld=>?_);refine with_tabW spec_MemNew.tab3 spec_MemNew.bits3 (fun HT_ HW_=>?_);generalize w13.drew=w14 at BK167 HB hHeld ⊢;refine pT 0 14 #[true,false,false,false,false,false,false,false,false,false,false] HT_ ?_;refine pT 1 15 #[true,true,false,false,false,false,false,false,false,false,false] HT_ ?_;refine pT 2 16 #[true,true,true,false,false,false,false,false,false,false,false] HT_ ?_;refine pT 4 18 #[true,true,true,false,true,false,false,false,false,false,false] HT_ ?_;refine pT 5 19 #[true,true,true,false,true,true,false,false,false,false,false] HT_ ?_;refine pT 6 20 #[true,true,true,false,true,true,true,false,false,false,false] HT_ ?_;refine join_ (σ:=Value×Value) 2 #[true,true,true,true,true,true,true,true,true,false,false] (fun s_=>[(17,s_.1),(21,.int .i64 t173),(22,s_.2)]) (fun s_ w'=>(Kd.R (Kd.int .i64) 3 w' w.heap.size (fun _=>True) s_.1 y170)∧(Kd.R Kd.bool 4 w' w.heap.size (fun _=>True) s_.2 y174)∧(w'.heap[gb167]? =some (.cells #[.slice none 0 0,.int .i64 0,.int .i64 0,.int .i64 0,.slice none 0 0] 27 (0,0)))∧(Below w.heap.size w w')) ?_ ?_;rotate_left
       ·intro hCont
        refine two_ (i:=3) (j:=7) (Ni:=some 17) (Nj:=some 21) #[true,true,true,true,true,true,true,false,false,false,false] #[true,true,true,false,true,true,true,true,false,false,false] rfl rfl rfl rfl (two_of HT_.out (by kernel_rfl)) (by decide) (by decide) (fun K hK=>?_) (fun K hK=>?_)
        ·skip
         refine Kd.R_make_step (Kd.int .i64) _ 3 (by rfl) (N:=17) rfl 24 _ _ rfl ji7 rfl rfl Try.underlying24 (.int .i64 0) 8 info3 rfl (by decide) (by omega) 0 (ok:=fun _=>True) (okp:=fun _=>True) rfl (fun _ hk=>hk) trivial (of_decide_eq_true zz3) (Nat.le_trans (Nat.mul_le_mul_right _ (of_decide_eq_true zz3:ji7.toNat≤35184372088832)) (by omega)) (Below.refl _ _) (Nat.le_refl _) ?_;intro v171 w15 ho16 hb hg_ hnew_;clear hg_ hnew_
         (first|rw [←Ny170.out] at ho16|(simp only [Int.reduceToNat] at ho16;rw [←Ny170.out] at ho16))
         have n0_:=aK (Kd.R_lower ho16 (below_size zz9));have n1_:=aK (blk_below (g:=gb167) (o:= .cells #[.slice none 0 0,.int .i64 0,.int .i64 0,.int .i64 0,.slice none 0 0] 27 (0,0)) zz19 hb);have n2_:=aK (below_step zz9 hb);clear BK167;clear HB;have HO172:=n0_;have BK167:=n1_;have HB:=n2_;clear n0_ n1_ n2_;clear hb ho16;refine hK.out _ _ trivial (fun hHeld=>?_);clear hK K;refine nS 17 ?_;refine one_ (i:=7) (N:=some 21) #[true,true,true,true,true,true,true,true,false,false,false] rfl rfl (one_of HT_.out (by kernel_rfl)) (by decide) (fun K hK=>?_);refine goes_ Try.func84 (by kernel_rfl) rfl #[.int .i64 a1] (by rfl) rfl rfl zz2 ?_;(with_reducible refine (spec_l21Cards.calls a1 t173 _ A10.out).mono ?_);rintro e w' ⟨rfl,⟨nd,rfl⟩⟩;refine ⟨_,rfl,?_⟩;refine hK.out _ _ trivial (fun hHeld=>?_);clear hK K;refine nS 21 ?_;refine one_ (i:=8) (N:=some 22) #[true,true,true,true,true,true,true,true,true,false,false] rfl rfl (one_of HT_.out (by kernel_rfl)) (by decide) (fun K hK=>?_);refine Kd.R_make_step Kd.bool _ 4 (by rfl) (N:=22) rfl 25 _ _ rfl t173 rfl rfl Try.underlying25 (.bool false) 1 info4 rfl (by decide) (by omega) false (ok:=fun _=>True) (okp:=fun _=>True) rfl (fun _ hk=>hk) trivial (of_decide_eq_true zz3) (Nat.le_trans (Nat.mul_le_mul_right _ (of_decide_eq_true zz3:t173.toNat≤281474976710656)) (by omega)) (Below.refl _ _) (Nat.le_refl _) ?_;intro v175 w17 ho18 hb hg_ hnew_;clear hg_ hnew_
         (first|rw [←Ny174.out] at ho18|(simp only [Int.reduceToNat] at ho18;rw [←Ny174.out] at ho18))
         have n0_:=aK (Kd.R_below zz48 hb);have n1_:=aK (Kd.R_lower ho18 (below_size zz9));have n2_:=aK (blk_below (g:=gb167) (o:= .cells #[.slice none 0 0,.int .i64 0,.int .i64 0,.int .i64 0,.slice none 0 0] 27 (0,0)) zz19 hb);have n3_:=aK (below_step zz9 hb);clear HO172;clear BK167;clear HB;have HO172:=n0_;have HO176:=n1_;have BK167:=n2_;have HB:=n3_;clear n0_ n1_ n2_ n3_;clear hb ho18;obtain ⟨Ao19,co19,eo19⟩:=Kd.R_slice HO176.out
         (first|subst eo19|(injection eo19 with f1_ f2_ f3_;have f4_:=f1_.symm;have f5_:=f3_.symm;clear f1_ f2_ f3_;subst f4_;subst f5_))
         obtain ⟨Ao20,co20,eo20⟩:=Kd.R_slice HO172.out
         (first|subst eo20|(injection eo20 with f1_ f2_ f3_;have f4_:=f1_.symm;have f5_:=f3_.symm;clear f1_ f2_ f3_;subst f4_;subst f5_))
         refine hK.out _ _ trivial (fun hHeld=>?_);clear hK K;refine nS 22 ?_;exact norm_ zz29 (hCont (.slice Ao20 y170.length co20,.slice Ao19 y174.length co19) _ ⟨zz48,(by (with_reducible repeat (first|apply Kd.R_alloc|apply Kd.R_drewN|apply Kd.R_drew));exact HO176.out),zz19,zz9⟩)
        ·skip
         refine goes_ Try.func84 (by kernel_rfl) rfl #[.int .i64 a1] (by rfl) rfl rfl zz2 ?_;(with_reducible refine (spec_l21Cards.calls a1 t173 _ A10.out).mono ?_);rintro e w' ⟨rfl,⟨nd,rfl⟩⟩;refine ⟨_,rfl,?_⟩;refine hK.out _ _ trivial (fun hHeld=>?_);clear hK K;refine nS 21 ?_;refine two_ (i:=3) (j:=8) (Ni:=some 17) (Nj:=some 22) #[true,true,true,true,true,true,true,true,false,false,false] #[true,true,true,false,true,true,true,true,true,false,false] rfl rfl rfl rfl (two_of HT_.out (by kernel_rfl)) (by decide) (by decide) (fun K hK=>?_) (fun K hK=>?_)
         ·skip
          refine Kd.R_make_step (Kd.int .i64) _ 3 (by rfl) (N:=17) rfl 24 _ _ rfl ji7 rfl rfl Try.underlying24 (.int .i64 0) 8 info3 rfl (by decide) (by omega) 0 (ok:=fun _=>True) (okp:=fun _=>True) rfl (fun _ hk=>hk) trivial (of_decide_eq_true zz3) (Nat.le_trans (Nat.mul_le_mul_right _ (of_decide_eq_true zz3:ji7.toNat≤35184372088832)) (by omega)) (Below.refl _ _) (Nat.le_refl _) ?_;intro v171 w15 ho16 hb hg_ hnew_;clear hg_ hnew_
          (first|rw [←Ny170.out] at ho16|(simp only [Int.reduceToNat] at ho16;rw [←Ny170.out] at ho16))
          have n0_:=aK (Kd.R_lower ho16 (below_size zz9));have n1_:=aK (blk_below (g:=gb167) (o:= .cells #[.slice none 0 0,.int .i64 0,.int .i64 0,.int .i64 0,.slice none 0 0] 27 (0,0)) zz19 hb);have n2_:=aK (below_step zz9 hb);clear BK167;clear HB;have HO172:=n0_;have BK167:=n1_;have HB:=n2_;clear n0_ n1_ n2_;clear hb ho16;refine hK.out _ _ trivial (fun hHeld=>?_);clear hK K;refine nS 17 ?_;refine one_ (i:=8) (N:=some 22) #[true,true,true,true,true,true,true,true,true,false,false] rfl rfl (one_of HT_.out (by kernel_rfl)) (by decide) (fun K hK=>?_);refine Kd.R_make_step Kd.bool _ 4 (by rfl) (N:=22) rfl 25 _ _ rfl t173 rfl rfl Try.underlying25 (.bool false) 1 info4 rfl (by decide) (by omega) false (ok:=fun _=>True) (okp:=fun _=>True) rfl (fun _ hk=>hk) trivial (of_decide_eq_true zz3) (Nat.le_trans (Nat.mul_le_mul_right _ (of_decide_eq_true zz3:t173.toNat≤281474976710656)) (by omega)) (Below.refl _ _) (Nat.le_refl _) ?_;intro v175 w17 ho18 hb hg_ hnew_;clear hg_ hnew_
          (first|rw [←Ny174.out] at ho18|(simp only [Int.reduceToNat] at ho18;rw [←Ny174.out] at ho18))
          have n0_:=aK (Kd.R_below zz48 hb);have n1_:=aK (Kd.R_lower ho18 (below_size zz9));have n2_:=aK (blk_below (g:=gb167) (o:= .cells #[.slice none 0 0,.int .i64 0,.int .i64 0,.int .i64 0,.slice none 0 0] 27 (0,0)) zz19 hb);have n3_:=aK (below_step zz9 hb);clear HO172;clear BK167;clear HB;have HO172:=n0_;have HO176:=n1_;have BK167:=n2_;have HB:=n3_;clear n0_ n1_ n2_ n3_;clear hb ho18;obtain ⟨Ao19,co19,eo19⟩:=Kd.R_slice HO176.out
          (first|subst eo19|(injection eo19 with f1_ f2_ f3_;have f4_:=f1_.symm;have f5_:=f3_.symm;clear f1_ f2_ f3_;subst f4_;subst f5_))
          obtain ⟨Ao20,co20,eo20⟩:=Kd.R_slice HO172.out
          (first|subst eo20|(injection eo20 with f1_ f2_ f3_;have f4_:=f1_.symm;have f5_:=f3_.symm;clear f1_ f2_ f3_;subst f4_;subst f5_))
          refine hK.out _ _ trivial (fun hHeld=>?_);clear hK K;refine nS 22 ?_;exact norm_ zz29 (hCont (.slice Ao20 y170.length co20,.slice Ao19 y174.length co19) _ ⟨zz48,(by (with_reducible repeat (first|apply Kd.R_alloc|apply Kd.R_drewN|apply Kd.R_drew));exact HO176.out),zz19,zz9⟩)
         ·skip
          refine Kd.R_make_step Kd.bool _ 4 (by rfl) (N:=22) rfl 25 _ _ rfl t173 rfl rfl Try.underlying25 (.bool false) 1 info4 rfl (by decide) (by omega) false (ok:=fun _=>True) (okp:=fun _=>True) rfl (fun _ hk=>hk) trivial (of_decide_eq_true zz3) (Nat.le_trans (Nat.mul_le_mul_right _ (of_decide_eq_true zz3:t173.toNat≤281474976710656)) (by omega)) (Below.refl _ _) (Nat.le_refl _) ?_;intro v175 w15 ho16 hb hg_ hnew_;clear hg_ hnew_
          (first|rw [←Ny174.out] at ho16|(simp only [Int.reduceToNat] at ho16;rw [←Ny174.out] at ho16))
          have n0_:=aK (Kd.R_lower ho16 (below_size zz9));have n1_:=aK (blk_below (g:=gb167) (o:= .cells #[.slice none 0 0,.int .i64 0,.int .i64 0,.int .i64 0,.slice none 0 0] 27 (0,0)) zz19 hb);have n2_:=aK (below_step zz9 hb);clear BK167;clear HB;have HO176:=n0_;have BK167:=n1_;have HB:=n2_;clear n0_ n1_ n2_;clear hb ho16;refine hK.out _ _ trivial (fun hHeld=>?_);clear hK K;refine nS 22 ?_;refine one_ (i:=3) (N:=some 17) #[true,true,true,true,true,true,true,true,true,false,false] rfl rfl (one_of HT_.out (by kernel_rfl)) (by decide) (fun K hK=>?_);refine Kd.R_make_step (Kd.int .i64) _ 3 (by rfl) (N:=17) rfl 24 _ _ rfl ji7 rfl rfl Try.underlying24 (.int .i64 0) 8 info3 rfl (by decide) (by omega) 0 (ok:=fun _=>True) (okp:=fun _=>True) rfl (fun _ hk=>hk) trivial (of_decide_eq_true zz3) (Nat.le_trans (Nat.mul_le_mul_right _ (of_decide_eq_true zz3:ji7.toNat≤35184372088832)) (by omega)) (Below.refl _ _) (Nat.le_refl _) ?_;intro v171 w17 ho18 hb hg_ hnew_;clear hg_ hnew_
          (first|rw [←Ny170.out] at ho18|(simp only [Int.reduceToNat] at ho18;rw [←Ny170.out] at ho18))
          have n0_:=aK (Kd.R_below (by (with_reducible repeat (first|apply Kd.R_alloc|apply Kd.R_drewN|apply Kd.R_drew));exact HO176.out) hb);have n1_:=aK (Kd.R_lower ho18 (below_size zz9));have n2_:=aK (blk_below (g:=gb167) (o:= .cells #[.slice none 0 0,.int .i64 0,.int .i64 0,.int .i64 0,.slice none 0 0] 27 (0,0)) zz19 hb);have n3_:=aK (below_step zz9 hb);clear HO176;clear BK167;clear HB;have HO176:=n0_;have HO172:=n1_;have BK167:=n2_;have HB:=n3_;clear n0_ n1_ n2_ n3_;clear hb ho18;obtain ⟨Ao19,co19,eo19⟩:=Kd.R_slice HO176.out
          (first|subst eo19|(injection eo19 with f1_ f2_ f3_;have f4_:=f1_.symm;have f5_:=f3_.symm;clear f1_ f2_ f3_;subst f4_;subst f5_))
          obtain ⟨Ao20,co20,eo20⟩:=Kd.R_slice HO172.out
          (first|subst eo20|(injection eo20 with f1_ f2_ f3_;have f4_:=f1_.symm;have f5_:=f3_.symm;clear f1_ f2_ f3_;subst f4_;subst f5_))
          refine hK.out _ _ trivial (fun hHeld=>?_);clear hK K;refine nS 17 ?_;exact norm_ zz29 (hCont (.slice Ao20 y170.length co20,.slice Ao19 y174.length co19) _ ⟨zz48,(by (with_reducible repeat (first|apply Kd.R_alloc|apply Kd.R_drewN|apply Kd.R_drew));exact HO176.out),zz19,zz9⟩)
       rintro ⟨v171,v175⟩ w21 ⟨h0_,h1_,h2_,h3_⟩;have n0_:Aside0 (Kd.R (Kd.int .i64) 3 w21 w.heap.size (fun _=>True) v171 y170):=⟨h0_⟩
       have n1_:Aside0 (Kd.R Kd.bool 4 w21 w.heap.size (fun _=>True) v175 y174):=⟨h1_⟩
       have n2_:Aside0 (w21.heap[gb167]? =some (.cells #[.slice none 0 0,.int .i64 0,.int .i64 0,.int .i64 0,.slice none 0 0] 27 (0,0))):=⟨h2_⟩
       have n3_:Aside0 (Below w.heap.size w w21):=⟨h3_⟩
       clear BK167;clear HB;clear h0_ h1_ h2_ h3_;have HO172:=n0_;have HO176:=n1_;have BK167:=n2_;have HB:=n3_;clear n0_ n1_ n2_ n3_;have hHeld:=trivial;obtain ⟨Ao22,co22,eo22⟩:=Kd.R_slice HO176.out
       (first|subst eo22|(injection eo22 with f1_ f2_ f3_;have f4_:=f1_.symm;have f5_:=f3_.symm;clear f1_ f2_ f3_;subst f4_;subst f5_))
       obtain ⟨Ao23,co23,eo23⟩:=Kd.R_slice HO172.out
       (first|subst eo23|(injection eo23 with f1_ f2_ f3_;have f4_:=f1_.symm;have f5_:=f3_.symm;clear f1_ f2_ f3_;subst f4_;subst f5_))
       refine norm_ (a':=?_) ?_ ?_;rotate_left
       ·simp only [putAll, Act.put, List.setIfInBounds_toArray, List.set_cons_zero, List.set_cons_succ]
        rfl
       refine pT 9 23 #[true,true,true,true,true,true,true,true,true,true,false] HT_ ?_;refine one_ (i:=10) (N:=none) #[true,true,true,true,true,true,true,true,true,true,true] rfl rfl (one_of HT_.out (by kernel_rfl)) (by decide) (fun K hK=>?_);have hs24:w21.cell? ⟨gb167,0,none⟩=some (.slice none 0 0):=(blk_cell BK167.out 0).trans rfl
       have hfs24:=blk_frozen BK167.out 0;have hs25:w21.cell? ⟨gb167,1,none⟩=some (.int .i64 0):=(blk_cell BK167.out 1).trans rfl
       have hfs25:=blk_frozen BK167.out 1;have hs26:w21.cell? ⟨gb167,2,none⟩=some (.int .i64 0):=(blk_cell BK167.out 2).trans rfl
       have hfs26:=blk_frozen BK167.out 2;have hs27:w21.cell? ⟨gb167,3,none⟩=some (.int .i64 0):=(blk_cell BK167.out 3).trans rfl
       have hfs27:=blk_frozen BK167.out 3;have hs28:w21.cell? ⟨gb167,4,none⟩=some (.slice none 0 0):=(blk_cell BK167.out 4).trans rfl
       have hfs28:=blk_frozen BK167.out 4;refine skip_ (w1:=?_) (by rfl) rfl ?_ ?_;rotate_left
       ·go_simp
        rfl
       refine hK.out _ _ trivial (fun hHeld=>?_);clear hK K;refine done_ (done_of HT_.out (by kernel_rfl)) ?_;try go_wp2
       refine bodyPost_ret (results_cell_row rfl _ _ gb167 27 #[.slice Ao23 y170.length co23,.int .i64 a0,.int .i64 0,.int .i64 a0,.slice Ao22 y174.length co22] (0,0) _ rfl (by (with_reducible repeat (first|refine blk_drewN ?_ _|refine blk_drew ?_|refine blk_alloc ?_ _));refine blk_put (cs:= #[.slice Ao23 y170.length co23,.int .i64 a0,.int .i64 0,.int .i64 a0,.slice none 0 0]) ?_ 4 _ rfl;(with_reducible repeat (first|refine blk_drewN ?_ _|refine blk_drew ?_|refine blk_alloc ?_ _));refine blk_put (cs:= #[.slice Ao23 y170.length co23,.int .i64 a0,.int .i64 0,.int .i64 0,.slice none 0 0]) ?_ 3 _ rfl;(with_reducible repeat (first|refine blk_drewN ?_ _|refine blk_drew ?_|refine blk_alloc ?_ _));refine blk_put (cs:= #[.slice Ao23 y170.length co23,.int .i64 a0,.int .i64 0,.int .i64 0,.slice none 0 0]) ?_ 2 _ rfl;(with_reducible repeat (first|refine blk_drewN ?_ _|refine blk_drew ?_|refine blk_alloc ?_ _));refine blk_put (cs:= #[.slice Ao23 y170.length co23,.int .i64 0,.int .i64 0,.int .i64 0,.slice none 0 0]) ?_ 1 _ rfl;(with_reducible repeat (first|refine blk_drewN ?_ _|refine blk_drew ?_|refine blk_alloc ?_ _));refine blk_put (cs:= #[.slice none 0 0,.int .i64 0,.int .i64 0,.int .i64 0,.slice none 0 0]) ?_ 0 _ rfl;(with_reducible repeat (first|refine blk_drewN ?_ _|refine blk_drew ?_|refine blk_alloc ?_ _));exact BK167.out) Try.underlying27 rfl (by kernel_rfl)) rfl ?_;exact ⟨_,_,by first|rfl|(simp [errW_none,errW_some]<;>rfl)|(simp only [←hji7];first|rfl|(simp [errW_none,errW_some]<;>rfl))|(simp [*,errW_none,errW_some]<;>rfl),by (with_reducible repeat (first|apply Kd.R_alloc|apply Kd.R_drewN|apply Kd.R_drew));exact Kd.R_mono (Kd.R_far (p:=⟨gb167,4,none⟩) (Kd.R_far (p:=⟨gb167,3,none⟩) (Kd.R_far (p:=⟨gb167,2,none⟩) (Kd.R_far (p:=⟨gb167,1,none⟩) (Kd.R_far (p:=⟨gb167,0,none⟩) (Kd.R_types HO172.out BK167.out (by decide)) (fun _ hk=>hk.2) (.slice Ao23 y170.length co23)) (fun _ hk=>hk.2) (.int .i64 a0)) (fun _ hk=>hk.2) (.int .i64 0)) (fun _ hk=>hk.2) (.int .i64 a0)) (fun _ hk=>hk.2) (.slice Ao22 y174.length co22)) (fun _ hk=>trivial),by (with_reducible repeat (first|apply Kd.R_alloc|apply Kd.R_drewN|apply Kd.R_drew));exact Kd.R_mono (Kd.R_far (p:=⟨gb167,4,none⟩) (Kd.R_far (p:=⟨gb167,3,none⟩) (Kd.R_far (p:=⟨gb167,2,none⟩) (Kd.R_far (p:=⟨gb167,1,none⟩) (Kd.R_far (p:=⟨gb167,0,none⟩) (Kd.R_types HO176.out BK167.out (by decide)) (fun _ hk=>hk.2) (.slice Ao23 y170.length co23)) (fun _ hk=>hk.2) (.int .i64 a0)) (fun _ hk=>hk.2) (.int .i64 0)) (fun _ hk=>hk.2) (.int .i64 a0)) (fun _ hk=>hk.2) (.slice Ao22 y174.length co22)) (fun _ hk=>trivial),by repeat (first|(with_reducible first|exact HB.out|apply below_alloc|apply pw_below_drewN|apply below_drew1|refine below_set ?_ GE167.out)|exact HB.out)⟩
      ·rw [if_neg c12] at H
       exact absurd H (by simp)
     ·rw [if_neg c11] at H
      exact absurd H (by simp)
    ·rw [if_neg c9] at H
     exact absurd H (by simp)
   ·rw [if_neg c8] at H
    exact absurd H (by simp)
  ·replace c6 := Bool.eq_false_iff.mpr c6
   subst c6;rw [if_neg (show¬(false=true) by decide)] at H;simp only [Option.some.injEq,Prod.mk.injEq] at H;obtain ⟨rfl,rfl,rfl,rfl,rfl⟩:=H;go_enter Try.func96,Try.ntmps96
   go_wp2_with (first|((with_reducible refine gate_dst (N:=4) rfl ?_);refine box_event ?hg (N:=4) ?hd (cs:= #[.slice none 0 0,.int .i64 0,.int .i64 0,.int .i64 0,.slice none 0 0]) (t:=27) ?hr ?_;(case hd=>rfl);(case hg=>rfl);(case hr=>first|(go_simp;done)|(go_simp;rfl));intro gb167 hg w29 hbox hb;have BK167:=aK (hbox);have GW167:=aK ((by rw [hg];exact (below_size zz1):w.heap.size≤gb167));have GE167:=aK ((by rw [hg];exact (below_size zz1):w.heap.size≤gb167));replace HB:=aK (below_step zz1 hb);clear hb hbox hg)|((with_reducible refine gate_callee (f:=79) rfl ?_);refine goesL_ (some 6) rfl rfl Try.func79 (by kernel_rfl) rfl #[.int .i64 a0,.int .i64 0,.int .i64 40] rfl zz2 ?_;(with_reducible refine (spec_l6In.calls a0 0 40 true _ A3.out).mono ?_);rintro e w' ⟨rfl,⟨nd,rfl⟩⟩;refine ⟨_,rfl,?_⟩;(try (rw [drewN_self w29];generalize hq_:World.drewN w29 _=w29;have n0_:Aside0 (w29.heap[gb167]? =some (.cells #[.slice none 0 0,.int .i64 0,.int .i64 0,.int .i64 0,.slice none 0 0] 27 (0,0))):=⟨by rw [←hq_];exact zz19⟩;have n1_:Aside0 (Below w.heap.size w w29):=⟨by rw [←hq_];exact zz9⟩;clear BK167 HB hq_;have BK167:=n0_;have HB:=n1_;clear n0_ n1_)))|(go_at_call 79;(with_reducible refine (spec_l6In.calls a1 14 120 false _ A5.out).mono ?_);rintro e w' ⟨rfl,⟨nd,rfl⟩⟩;(try (rw [drewN_self w29];generalize hq_:World.drewN w29 _=w29;have n0_:Aside0 (w29.heap[gb167]? =some (.cells #[.slice none 0 0,.int .i64 0,.int .i64 0,.int .i64 0,.slice none 0 0] 27 (0,0))):=⟨by rw [←hq_];exact zz19⟩;have n1_:Aside0 (Below w.heap.size w w29):=⟨by rw [←hq_];exact zz9⟩;clear BK167 HB hq_;have BK167:=n0_;have HB:=n1_;clear n0_ n1_));obtain ⟨hcz30_0,hcz30_1,hcz30_2,hcz30_3,hcz30_4,hfz30_0,hfz30_1,hfz30_2,hfz30_3,hfz30_4⟩:=cbf5 BK167))
   refine bodyPost_ret (results_cell_row rfl _ _ gb167 27 #[.slice none 0 0,.int .i64 0,.int .i64 0,.int .i64 0,.slice none 0 0] (0,0) _ rfl (by (with_reducible repeat (first|refine blk_drewN ?_ _|refine blk_drew ?_|refine blk_alloc ?_ _));refine blk_put (cs:= #[.slice none 0 0,.int .i64 0,.int .i64 0,.int .i64 0,.slice none 0 0]) ?_ 4 _ rfl;(with_reducible repeat (first|refine blk_drewN ?_ _|refine blk_drew ?_|refine blk_alloc ?_ _));refine blk_put (cs:= #[.slice none 0 0,.int .i64 0,.int .i64 0,.int .i64 0,.slice none 0 0]) ?_ 3 _ rfl;(with_reducible repeat (first|refine blk_drewN ?_ _|refine blk_drew ?_|refine blk_alloc ?_ _));refine blk_put (cs:= #[.slice none 0 0,.int .i64 0,.int .i64 0,.int .i64 0,.slice none 0 0]) ?_ 2 _ rfl;(with_reducible repeat (first|refine blk_drewN ?_ _|refine blk_drew ?_|refine blk_alloc ?_ _));refine blk_put (cs:= #[.slice none 0 0,.int .i64 0,.int .i64 0,.int .i64 0,.slice none 0 0]) ?_ 1 _ rfl;(with_reducible repeat (first|refine blk_drewN ?_ _|refine blk_drew ?_|refine blk_alloc ?_ _));refine blk_put (cs:= #[.slice none 0 0,.int .i64 0,.int .i64 0,.int .i64 0,.slice none 0 0]) ?_ 0 _ rfl;(with_reducible repeat (first|refine blk_drewN ?_ _|refine blk_drew ?_|refine blk_alloc ?_ _));exact BK167.out) Try.underlying27 rfl (by kernel_rfl)) rfl ?_;exact ⟨_,_,by first|rfl|(simp [errW_none,errW_some]<;>rfl)|(simp [*,errW_none,errW_some]<;>rfl),by first|exact Kd.R_nil _ _ _ _ _|exact Kd.N_nil _ _ _ _ _|exact Kd.V_nil _ _ _ _ _|exact Kd.Q_nil _ _ _ _ _|exact Kd.S_nil _ _ _ _ _,by first|exact Kd.R_nil _ _ _ _ _|exact Kd.N_nil _ _ _ _ _|exact Kd.V_nil _ _ _ _ _|exact Kd.Q_nil _ _ _ _ _|exact Kd.S_nil _ _ _ _ _,by repeat (first|(with_reducible first|exact HB.out|apply below_alloc|apply pw_below_drewN|apply below_drew1|refine below_set ?_ GE167.out)|exact HB.out)⟩
 ·replace c4 := Bool.eq_false_iff.mpr c4
  subst c4;rw [if_neg (show¬(false=true) by decide)] at H;simp only [Option.some.injEq,Prod.mk.injEq] at H;obtain ⟨rfl,rfl,rfl,rfl,rfl⟩:=H;go_enter Try.func96,Try.ntmps96
  go_wp2_with (first|((with_reducible refine gate_dst (N:=4) rfl ?_);refine box_event ?hg (N:=4) ?hd (cs:= #[.slice none 0 0,.int .i64 0,.int .i64 0,.int .i64 0,.slice none 0 0]) (t:=27) ?hr ?_;(case hd=>rfl);(case hg=>rfl);(case hr=>first|(go_simp;done)|(go_simp;rfl));intro gb167 hg w31 hbox hb;have BK167:=aK (hbox);have GW167:=aK ((by rw [hg];exact (below_size zz1):w.heap.size≤gb167));have GE167:=aK ((by rw [hg];exact (below_size zz1):w.heap.size≤gb167));replace HB:=aK (below_step zz1 hb);clear hb hbox hg)|((with_reducible refine gate_callee (f:=79) rfl ?_);refine goesL_ (some 6) rfl rfl Try.func79 (by kernel_rfl) rfl #[.int .i64 a0,.int .i64 0,.int .i64 40] rfl zz2 ?_;(with_reducible refine (spec_l6In.calls a0 0 40 false _ A3.out).mono ?_);rintro e w' ⟨rfl,⟨nd,rfl⟩⟩;refine ⟨_,rfl,?_⟩;(try (rw [drewN_self w31];generalize hq_:World.drewN w31 _=w31;have n0_:Aside0 (w31.heap[gb167]? =some (.cells #[.slice none 0 0,.int .i64 0,.int .i64 0,.int .i64 0,.slice none 0 0] 27 (0,0))):=⟨by rw [←hq_];exact zz19⟩;have n1_:Aside0 (Below w.heap.size w w31):=⟨by rw [←hq_];exact zz9⟩;clear BK167 HB hq_;have BK167:=n0_;have HB:=n1_;clear n0_ n1_));obtain ⟨hcz32_0,hcz32_1,hcz32_2,hcz32_3,hcz32_4,hfz32_0,hfz32_1,hfz32_2,hfz32_3,hfz32_4⟩:=cbf5 BK167))
  refine bodyPost_ret (results_cell_row rfl _ _ gb167 27 #[.slice none 0 0,.int .i64 0,.int .i64 0,.int .i64 0,.slice none 0 0] (0,0) _ rfl (by (with_reducible repeat (first|refine blk_drewN ?_ _|refine blk_drew ?_|refine blk_alloc ?_ _));refine blk_put (cs:= #[.slice none 0 0,.int .i64 0,.int .i64 0,.int .i64 0,.slice none 0 0]) ?_ 4 _ rfl;(with_reducible repeat (first|refine blk_drewN ?_ _|refine blk_drew ?_|refine blk_alloc ?_ _));refine blk_put (cs:= #[.slice none 0 0,.int .i64 0,.int .i64 0,.int .i64 0,.slice none 0 0]) ?_ 3 _ rfl;(with_reducible repeat (first|refine blk_drewN ?_ _|refine blk_drew ?_|refine blk_alloc ?_ _));refine blk_put (cs:= #[.slice none 0 0,.int .i64 0,.int .i64 0,.int .i64 0,.slice none 0 0]) ?_ 2 _ rfl;(with_reducible repeat (first|refine blk_drewN ?_ _|refine blk_drew ?_|refine blk_alloc ?_ _));refine blk_put (cs:= #[.slice none 0 0,.int .i64 0,.int .i64 0,.int .i64 0,.slice none 0 0]) ?_ 1 _ rfl;(with_reducible repeat (first|refine blk_drewN ?_ _|refine blk_drew ?_|refine blk_alloc ?_ _));refine blk_put (cs:= #[.slice none 0 0,.int .i64 0,.int .i64 0,.int .i64 0,.slice none 0 0]) ?_ 0 _ rfl;(with_reducible repeat (first|refine blk_drewN ?_ _|refine blk_drew ?_|refine blk_alloc ?_ _));exact BK167.out) Try.underlying27 rfl (by kernel_rfl)) rfl ?_;exact ⟨_,_,by first|rfl|(simp [errW_none,errW_some]<;>rfl)|(simp [*,errW_none,errW_some]<;>rfl),by first|exact Kd.R_nil _ _ _ _ _|exact Kd.N_nil _ _ _ _ _|exact Kd.V_nil _ _ _ _ _|exact Kd.Q_nil _ _ _ _ _|exact Kd.S_nil _ _ _ _ _,by first|exact Kd.R_nil _ _ _ _ _|exact Kd.N_nil _ _ _ _ _|exact Kd.V_nil _ _ _ _ _|exact Kd.Q_nil _ _ _ _ _|exact Kd.S_nil _ _ _ _ _,by repeat (first|(with_reducible first|exact HB.out|apply below_alloc|apply pw_below_drewN|apply below_drew1|refine below_set ?_ GE167.out)|exact HB.out)⟩
def memBox (w:World) (g:Nat) (a b c d e:Value):World:=((((w.setCell ⟨g,0,none⟩ a).setCell ⟨g,1,none⟩ b).setCell ⟨g,2,none⟩ c).setCell ⟨g,3,none⟩ d).setCell ⟨g,4,none⟩ e
theorem blk_box5 {w:World} {g:Nat} {t:TypeId} {c0 c1 c2 c3 c4 a b c d e:Value} (h:w.heap[g]? =some (.cells #[c0,c1,c2,c3,c4] t (0,0))):(memBox w g a b c d e).heap[g]? =some (.cells #[a,b,c,d,e] t (0,0)):=
  blk_put (blk_put (blk_put (blk_put (blk_put h 0 _ rfl) 1 _ rfl) 2 _ rfl) 3 _ rfl) 4 _ rfl
theorem box5_far {w:World} {g k:Nat} {a b c d e:Value} (hk:k≠g):(memBox w g a b c d e).heap[k]? =w.heap[k]? :=by
  unfold memBox;rw [Below.heap_setCell _ _ _ k hk,Below.heap_setCell _ _ _ k hk,Below.heap_setCell _ _ _ k hk,Below.heap_setCell _ _ _ k hk,Below.heap_setCell _ _ _ k hk]
theorem below_box5 {w0 w:World} {g:Nat} {a b c d e:Value} (h:Below w0.heap.size w0 w) (hg:w0.heap.size≤g):Below w0.heap.size w0 (memBox w g a b c d e):=
  below_set (below_set (below_set (below_set (below_set h hg) hg) hg) hg) hg
theorem R_box5 {α:Type} {K:Kd α} {q:TypeId} {w:World} {base base' g:Nat} {ok:Nat→Prop} {v:Value} {xs:List α} {a b c d e:Value} (h:K.R q w base ok v xs) (hg:g<base) (hb:base'≤base):K.R q (memBox w g a b c d e) base' (fun _=>True) v xs:=by
 refine Kd.R_lower (Kd.R_mono (Kd.R_step (Kd.R_bound h) (fun k hk hlt=>?_)) (fun _ _=>trivial)) hb;obtain ⟨_,h1,_⟩:=hk;exact box5_far (by omega)
theorem alloc_two (w:World) (a b:Obj):((w.alloc a).alloc b).heap[w.heap.size+1]? =some b:=by
  have h:=blk_new (w.alloc a) b
  rwa [show (w.alloc a).heap.size=w.heap.size+1 by simp] at h
theorem R_box5n {α:Type} {K:Kd α} {q:TypeId} {w:World} {base g:Nat} {ok:Nat→Prop} {v:Value} {xs:List α} {a b c d e:Value} (h:K.R q w base ok v xs) (hg: ∀k,ok k→k≠g):K.R q (memBox w g a b c d e) base ok v xs:=
  Kd.R_step h (fun k hk _=>box5_far (hg k hk))
theorem types_ne {α:Type} {K:Kd α} {q t:TypeId} {w:World} {base g gc n cap:Nat} {ok:Nat→Prop} {xs:List α} {cs:Array Value} (h:w.heap[g]? =some (.cells cs t (0,0))) (hr:K.R q w base ok (.slice (some ⟨gc,0,none⟩) n cap) xs) (hq:t≠q):g≠gc:=by
 intro e;subst e;obtain ⟨inner,ho⟩:=Kd.R_own hr;obtain ⟨cells,hc⟩:=own_typed ho g (by simp [Value.ownBlock]);rw [h] at hc;injection hc with hc;injection hc with _ h2;exact hq h2
theorem R_box5t {α:Type} {K:Kd α} {q t:TypeId} {w:World} {base g:Nat} {ok:Nat→Prop} {v:Value} {xs:List α} {cs:Array Value} {a b c d e:Value} (h:K.R q w base ok v xs) (hz:w.heap[g]? =some (.cells cs t (0,0))) (ht: ∀z,z∈q::K.E→z≠t):K.R q (memBox w g a b c d e) base ok v xs:=
  Kd.R_mono (R_box5n (Kd.R_types h hz ht) (fun _ hk=>hk.2)) (fun _ hk=>hk.1)
theorem below_box5b {B g:Nat} {w0 w:World} {a b c d e:Value} (h:Below B w0 w) (hg:B≤g):Below B w0 (memBox w g a b c d e):=
  (((((h.setCell (p:=⟨g,0,none⟩) hg a).setCell (p:=⟨g,1,none⟩) hg b).setCell (p:=⟨g,2,none⟩) hg c).setCell (p:=⟨g,3,none⟩) hg d).setCell (p:=⟨g,4,none⟩) hg e)
theorem kept_box5 {g:Nat} {w0 w:World} {S:Nat→Prop} {a b c d e:Value} (h:Kept w0 w S) (hg:w0.heap.size≤g):Kept w0 (memBox w g a b c d e) S:=
  (((((h.setCell (p:=⟨g,0,none⟩) (.inr hg) a).setCell (p:=⟨g,1,none⟩) (.inr hg) b).setCell (p:=⟨g,2,none⟩) (.inr hg) c).setCell (p:=⟨g,3,none⟩) (.inr hg) d).setCell (p:=⟨g,4,none⟩) (.inr hg) e)
structure Ch (S:Nat→Prop) (w w':World):Prop where
 os:w'.os=w.os
 tape:w'.tape=w.tape
 output:w'.output=w.output
 size:w.heap.size≤w'.heap.size
 block: ∀k,k<w.heap.size→¬S k→w'.heap[k]? =w.heap[k]?
section
variable {S S2:Nat→Prop} {w w0 w1 w2:World}
theorem Ch.refl (S:Nat→Prop) (w:World):Ch S w w:=⟨rfl,rfl,rfl,Nat.le_refl _,fun _ _ _=>rfl⟩
theorem Ch.trans (h:Ch S w w1) (k:Ch S2 w1 w2) (hs: ∀k,S2 k→S k∨w.heap.size≤k):Ch S w w2:=
  ⟨k.os.trans h.os,k.tape.trans h.tape,k.output.trans h.output,Nat.le_trans h.size k.size,fun i hi hn=>(k.block i (Nat.lt_of_lt_of_le hi h.size) (fun h2=>(hs i h2).elim hn (fun h3=>by omega))).trans (h.block i hi hn)⟩
theorem Ch.then_ (h:Ch S w w1) (k:Ch S w1 w2):Ch S w w2:=h.trans k (fun _ h=> .inl h)
theorem Ch.below (h:Ch S w w1) (hb:Below w1.heap.size w1 w2):Ch S w w2:=
  h.trans (S2:=fun _=>False) ⟨hb.os,hb.tape,hb.output,hb.size,fun i hi _=>hb.block i hi⟩ (fun _ h=>h.elim)
theorem Ch.alloc (h:Ch S w w1) (o:Obj):Ch S w (w1.alloc o):=h.below (below_alloc (Below.refl _ _) o)
theorem Ch.drew (h:Ch S w w1):Ch S w w1.drew:=h.below (below_drew1 (Below.refl _ _))
theorem Ch.drewN (h:Ch S w w1) (m:Nat):Ch S w (w1.drewN m):=h.below (pw_below_drewN (Below.refl _ _) m)
theorem Ch.set (h:Ch S w w1) {p:Addr} (hp:S p.block∨w.heap.size≤p.block) (u:Value):Ch S w (w1.setCell p u):=
  h.trans (S2:=fun k=>k=p.block) ⟨rfl,rfl,rfl,by simp [World.setCell],fun k _ hn=>Below.heap_setCell _ _ _ _ hn⟩ (fun k hk=>by rw [hk];exact hp)
theorem Ch.box5 (h:Ch S w w1) {g:Nat} (hp:S g∨w.heap.size≤g) (a b c d e:Value):Ch S w (memBox w1 g a b c d e):=
  ((((h.set (p:=⟨g,0,none⟩) hp a).set (p:=⟨g,1,none⟩) hp b).set (p:=⟨g,2,none⟩) hp c).set (p:=⟨g,3,none⟩) hp d).set (p:=⟨g,4,none⟩) hp e
theorem Ch.grown (h:Ch S w w1) {row:Option Nat} (hg:w1.grownBy w2 row) (hr: ∀k,row=some k→S k∨w.heap.size≤k):Ch S w w2:=
  h.trans (S2:=fun k=>row=some k) ⟨hg.os,hg.tape,hg.output,hg.size,fun k hk hn=>hg.block k hk (fun e=>hn e.symm)⟩ hr
theorem Ch.kept (h:Ch S w w1):Kept w w1 S:=⟨h.size,h.block⟩
theorem Ch.toBelow (h:Ch S w w1) {B:Nat} (hB:B≤w.heap.size) (hS: ∀k,S k→B≤k):Below B w w1:=⟨h.os,h.tape,h.output,h.size,fun k hk=>h.block k (by omega) (fun h2=>by have:=hS k h2;omega)⟩
theorem Ch.keep {g:Nat} (h:Ch (fun k=>k=g) w w1):KeepBut w w1 g none:=⟨h.size,fun i hi hn _=>h.block i hi hn⟩
theorem Ch.blk (h:Ch S w w1) {g:Nat} {o:Obj} (hb:w.heap[g]? =some o) (hn: ¬S g):w1.heap[g]? =some o:=blk_kept hb h.kept hn
theorem Ch.R {α:Type} {d:Kd α} {e base:Nat} {ok:Nat→Prop} {v:Value} {xs:List α} (h:Ch S w w1) (hr:d.R e w base ok v xs) (hne: ∀k,ok k→¬S k):d.R e w1 base ok v xs:=Kd.R_kept hr h.kept hne
end
section
variable {M L:Int} {w0 w w1:World} {g:Nat} {S:Nat→Prop}
theorem Rdr.ch (h:Rdr M w0 w g) (hc:Ch S w w1) (hne: ¬S g) (hS: ∀k,S k→w0.heap.size≤k):Rdr M w0 w1 g:=by
  obtain ⟨⟨b,q,⟨A0,c0,hb,hg,hC⟩,h2,h3,h4,h5⟩,h6⟩:=h;exact ⟨⟨b,q,⟨A0,c0,hc.blk hb hne,hg,hC⟩,h2,h3,h4,h5⟩,h6.trans (hc.toBelow h6.size hS)⟩
theorem Rdr.step (h:Rdr M w0 w g) (h1:Rdr L w0 w1 g) (hk:KeepBut w w1 g none):Ch (fun k=>k=g) w w1:=
  ⟨h1.2.os.trans h.2.os.symm,h1.2.tape.trans h.2.tape.symm,h1.2.output.trans h.2.output.symm,hk.1,fun k hlt hn=>hk.2 k hlt hn (by simp)⟩
end
structure OM (b gw cW gc cC:Nat) (w:World) (ws:List Int) (cards:List Bool):Prop where
 hw:Kd.R (Kd.int .i64) 3 w b (fun k=>k=gw) (.slice (some ⟨gw,0,none⟩) ws.length cW) ws
 hc:Kd.R Kd.bool 4 w b (fun k=>k=gc) (.slice (some ⟨gc,0,none⟩) cards.length cC) cards
 ne:gw≠gc
section
variable {b gw cW gc cC:Nat} {w w1:World} {ws:List Int} {cards:List Bool} {S:Nat→Prop}
theorem OM.bw (h:OM b gw cW gc cC w ws cards):b≤gw∧gw<w.heap.size:=⟨Kd.R_base h.hw gw (by simp [Value.ownBlock]),Kd.R_lt h.hw gw (by simp [Value.ownBlock])⟩
theorem OM.bc (h:OM b gw cW gc cC w ws cards):b≤gc∧gc<w.heap.size:=⟨Kd.R_base h.hc gc (by simp [Value.ownBlock]),Kd.R_lt h.hc gc (by simp [Value.ownBlock])⟩
theorem OM.ch (h:OM b gw cW gc cC w ws cards) (hc:Ch S w w1) (h1: ¬S gw) (h2: ¬S gc):OM b gw cW gc cC w1 ws cards:=⟨hc.R h.hw (fun k hk=>by rw [hk];exact h1),hc.R h.hc (fun k hk=>by rw [hk];exact h2),h.ne⟩
theorem OM.nbox (h:OM b gw cW gc cC w ws cards) {g:Nat} {cs:Array Value} (hg:w.heap[g]? =some (.cells cs 27 (0,0))):gw≠g∧gc≠g:=⟨fun e=>types_ne hg h.hw (by decide) e.symm,fun e=>types_ne hg h.hc (by decide) e.symm⟩
theorem OM.wcell (h:OM b gw cW gc cC w ws cards) (x:Int) (h0:0≤x) (h1:x<ws.length):w.cell? ⟨gw,x.toNat,none⟩=some (.int .i64 (rd ws x))∧w.frozen? ⟨gw,x.toNat,none⟩=false:=Kd.R_cell (enc:=Value.int .i64) (h1:=fun _=>rfl) 0 h.hw x h0 h1
theorem OM.ccell (h:OM b gw cW gc cC w ws cards) (x:Int) (h0:0≤x) (h1:x<cards.length):w.cell? ⟨gc,x.toNat,none⟩=some (.bool (rdOf false cards x))∧w.frozen? ⟨gc,x.toNat,none⟩=false:=Kd.R_cell (enc:=Value.bool) (h1:=fun _=>rfl) false h.hc x h0 h1
theorem OM.setw (h:OM b gw cW gc cC w ws cards) (x v:Int):OM b gw cW gc cC (w.setCell ⟨gw,x.toNat,none⟩ (.int .i64 v)) (ws.set x.toNat v) cards:=
  ⟨by rw [List.length_set];exact (Kd.R_put (enc:=Value.int .i64) (h1:=fun _=>rfl) h.hw x v).1,Kd.R_far h.hc (fun k hk=>by rw [hk];exact h.ne.symm) _,h.ne⟩
theorem OM.setc (h:OM b gw cW gc cC w ws cards) (x:Int) (v:Bool):OM b gw cW gc cC (w.setCell ⟨gc,x.toNat,none⟩ (.bool v)) ws (cards.set x.toNat v):=
  ⟨Kd.R_far h.hw (fun k hk=>by rw [hk];exact h.ne) _,by rw [List.length_set];exact (Kd.R_put (enc:=Value.bool) (h1:=fun _=>rfl) h.hc x v).1,h.ne⟩
end
structure Fl (b0 gz gm gw cW gc cC:Nat) (wr:World) (v7 v8:Value) (ws:List Int) (y t o:Int) (cards:List Bool) (pl rt:List Int):Prop where
 om:OM b0 gw cW gc cC wr ws cards
 bx:wr.heap[gm]? =some (.cells #[.slice (some ⟨gw,0,none⟩) ws.length cW,.int .i64 y,.int .i64 t,.int .i64 o,.slice (some ⟨gc,0,none⟩) cards.length cC] 27 (0,0))
 bz:wr.heap[gz]? =some (.cells #[.slice none 0 0,.int .i64 0,.int .i64 0,.int .i64 0,.slice none 0 0] 27 (0,0))
 hp:Kd.R (Kd.int .i64) 3 wr b0 (fun k=>(b0≤k∧k≠gw)∧some k≠v7.ownBlock) v8 pl
 hr:Kd.R (Kd.int .i64) 3 wr b0 (fun k=>(b0≤k∧k≠gw)∧some k≠v8.ownBlock) v7 rt
 gm0:b0≤gz∧gz<gm
section
variable {b0 gz gm gw cW gc cC g:Nat} {wr w1:World} {v7 v8:Value} {ws ws':List Int} {y t o:Int} {cards cards':List Bool} {pl rt:List Int} {S:Nat→Prop}
theorem Fl.ch (h:Fl b0 gz gm gw cW gc cC wr v7 v8 ws y t o cards pl rt) (hc:Ch S wr w1) (hS: ∀k,S k→k<b0):Fl b0 gz gm gw cW gc cC w1 v7 v8 ws y t o cards pl rt:=by
  have hw:=h.om.bw;have hcc:=h.om.bc;have hm:=h.gm0;exact ⟨h.om.ch hc (fun q=>by have:=hS _ q;omega) (fun q=>by have:=hS _ q;omega),hc.blk h.bx (fun q=>by have:=hS _ q;omega),hc.blk h.bz (fun q=>by have:=hS _ q;omega),hc.R h.hp (fun k hk q=>by have:=hS _ q;omega),hc.R h.hr (fun k hk q=>by have:=hS _ q;omega),h.gm0⟩
theorem Fl.below (h:Fl b0 gz gm gw cW gc cC wr v7 v8 ws y t o cards pl rt) (hb:Below wr.heap.size wr w1):Fl b0 gz gm gw cW gc cC w1 v7 v8 ws y t o cards pl rt:=h.ch ((Ch.refl (fun _=>False) _).below hb) (fun _ h=>h.elim)
theorem OM.ctype (h:OM b0 gw cW gc cC wr ws cards): ∃cells,wr.heap[gc]? =some (.cells cells 4 (0,0)):=Kd.R_typed h.hc gc (by simp [Value.ownBlock])
theorem OM.apart (h:OM b0 gw cW gc cC wr ws cards) {ok:Nat→Prop} {v:Value} {xs:List Int} (hr:Kd.R (Kd.int .i64) 3 wr b0 ok v xs):Kd.R (Kd.int .i64) 3 wr b0 (fun k=>ok k∧k≠gc) v xs:=by
  obtain ⟨cells,hcc⟩:=h.ctype;exact Kd.R_types hr hcc (by decide)
theorem Fl.plC {A:Option Addr} {n c:Nat} (h:Fl b0 gz gm gw cW gc cC wr v7 (.slice A n c) ws y t o cards pl rt) (hg:g<b0): ∀W',Kept wr W' (fun k=>(k=gw∨k=gc)∨k=g)→(Kd.int .i64).C W' A n pl:=
  Kd.C_kept_own (h.om.apart h.hp) (fun k hk q=>by obtain ⟨⟨⟨q1,q2⟩,q3⟩,q4⟩:=hk;omega)
theorem Fl.stored (h:Fl b0 gz gm gw cW gc cC wr v7 v8 ws y t o cards pl rt) (hc:Ch (fun k=>(k=gw∨k=gc)∨k=g) wr w1) (hO:OM b0 gw cW gc cC w1 ws' cards') (hl:ws'.length=ws.length∧cards'.length=cards.length) (hg:g<b0) (t' o':Int):
  Fl b0 gz gm gw cW gc cC (memBox w1 gm (.slice (some ⟨gw,0,none⟩) ws.length cW) (.int .i64 y) (.int .i64 t') (.int .i64 o') (.slice (some ⟨gc,0,none⟩) cards.length cC)) v7 v8 ws' y t' o' cards' pl rt:=by
 have hw:=h.om.bw;have hcc:=h.om.bc;have hm:=h.gm0;have n1:=h.om.nbox h.bx;have n2:=h.om.nbox h.bz;have bx1:=hc.blk h.bx (by omega);have bz1:=hc.blk h.bz (by omega);have hp1:=hc.R (h.om.apart h.hp) (fun k hk q=>by obtain ⟨⟨⟨q1,q2⟩,q3⟩,q4⟩:=hk;omega);have hr1:=hc.R (h.om.apart h.hr) (fun k hk q=>by obtain ⟨⟨⟨q1,q2⟩,q3⟩,q4⟩:=hk;omega);refine ⟨hO.ch (Ch.box5 (Ch.refl (fun k=>k=gm) _) (.inl rfl) _ _ _ _ _) n1.1 n1.2,?_,(box5_far (by omega)).trans bz1,Kd.R_mono (R_box5t hp1 bx1 (by decide)) (fun _ hk=>hk.1),Kd.R_mono (R_box5t hr1 bx1 (by decide)) (fun _ hk=>hk.1),h.gm0⟩;rw [hl.1,hl.2];exact blk_box5 bx1
theorem Fl.try_ (h:Fl b0 gz gm gw cW gc cC wr v7 v8 ws y t o cards pl rt) (hc:Ch (fun k=>k=gw) wr w1) (hO:OM b0 gw cW gc cC w1 ws' cards) (hl:ws'.length=ws.length):Fl b0 gz gm gw cW gc cC w1 v7 v8 ws' y t o cards pl rt:=by
 have n1:=h.om.nbox h.bx;have n2:=h.om.nbox h.bz;exact ⟨hO,by rw [hl];exact hc.blk h.bx (fun e=>n1.1 e.symm),hc.blk h.bz (fun e=>n2.1 e.symm),hc.R h.hp (fun k hk q=>hk.1.2 q),hc.R h.hr (fun k hk q=>hk.1.2 q),h.gm0⟩
theorem Fl.other (h:Fl b0 gz gm gw cW gc cC wr v7 v8 ws y t o cards pl rt) {gx:Nat} {cs:Array Value} (hx:wr.heap[gx]? =some (.cells cs 27 (0,0))) (hm:gm<gx) (a b c d e:Value):Fl b0 gz gm gw cW gc cC (memBox wr gx a b c d e) v7 v8 ws y t o cards pl rt:=
  ⟨h.om.ch (Ch.box5 (Ch.refl (fun k=>k=gx) _) (.inl rfl) _ _ _ _ _) (h.om.nbox hx).1 (h.om.nbox hx).2,(box5_far (by omega)).trans h.bx,(box5_far (by have:=h.gm0;omega)).trans h.bz,R_box5t h.hp hx (by decide),R_box5t h.hr hx (by decide),h.gm0⟩
theorem Fl.nrow (h:Fl b0 gz gm gw cW gc cC wr v7 v8 ws y t o cards pl rt) {u:Value} {xs:List Int} {ok:Nat→Prop} (hu:Kd.R (Kd.int .i64) 3 wr b0 ok u xs) (hok: ∀k,ok k→k≠gw) (hg:wr.grownBy w1 u.ownBlock):
  OM b0 gw cW gc cC w1 ws cards∧w1.heap[gm]? =some (.cells #[.slice (some ⟨gw,0,none⟩) ws.length cW,.int .i64 y,.int .i64 t,.int .i64 o,.slice (some ⟨gc,0,none⟩) cards.length cC] 27 (0,0))∧w1.heap[gz]? =some (.cells #[.slice none 0 0,.int .i64 0,.int .i64 0,.int .i64 0,.slice none 0 0] 27 (0,0)):=by
 have hc:Ch (fun k=>u.ownBlock=some k) wr w1:=(Ch.refl _ wr).grown hg (fun k e=> .inl e)
 have hne:=(h.om.apart hu).1;exact ⟨h.om.ch hc (fun e=>hok gw (hu.1 gw e) rfl) (fun e=>(hne gc e).2 rfl),hc.blk h.bx (fun e=>Kd.R_ne hu h.bx (by decide) e.symm),hc.blk h.bz (fun e=>Kd.R_ne hu h.bz (by decide) e.symm)⟩
theorem Fl.appP (h:Fl b0 gz gm gw cW gc cC wr v7 v8 ws y t o cards pl rt) {v:Value} {ys:List Int} (hg:wr.grownBy w1 v8.ownBlock) (hat:v.ownBlock=v8.ownBlock∨∃b,v.ownBlock=some b∧wr.heap.size≤b) (hv:Kd.R (Kd.int .i64) 3 w1 b0 (fun k=>(b0≤k∧k≠gw)∧some k≠v7.ownBlock) v ys):Fl b0 gz gm gw cW gc cC w1 v7 v ws y t o cards ys rt:=by
  obtain ⟨h1,h2,h3⟩:=h.nrow h.hp (fun k hk=>hk.1.2) hg;exact ⟨h1,h2,h3,hv,Kd.R_after h.hr hg hat,h.gm0⟩
theorem Fl.appR (h:Fl b0 gz gm gw cW gc cC wr v7 v8 ws y t o cards pl rt) {v:Value} {ys:List Int} (hg:wr.grownBy w1 v7.ownBlock) (hat:v.ownBlock=v7.ownBlock∨∃b,v.ownBlock=some b∧wr.heap.size≤b) (hv:Kd.R (Kd.int .i64) 3 w1 b0 (fun k=>(b0≤k∧k≠gw)∧some k≠v8.ownBlock) v ys):Fl b0 gz gm gw cW gc cC w1 v v8 ws y t o cards pl ys:=by
  obtain ⟨h1,h2,h3⟩:=h.nrow h.hr (fun k hk=>hk.1.2) hg;exact ⟨h1,h2,h3,Kd.R_after h.hp hg hat,hv,h.gm0⟩
theorem Fl.freshP (h:Fl b0 gz gm gw cW gc cC wr v7 v8 ws y t o cards pl rt): ∀k,wr.heap.size≤k→(b0≤k∧k≠gw)∧some k≠v7.ownBlock:=fun k hk=>⟨⟨by have:=h.om.bw;omega,by have:=h.om.bw;omega⟩,fun e=>by have:=Kd.R_lt h.hr k e.symm;omega⟩
theorem Fl.freshR (h:Fl b0 gz gm gw cW gc cC wr v7 v8 ws y t o cards pl rt): ∀k,wr.heap.size≤k→(b0≤k∧k≠gw)∧some k≠v8.ownBlock:=fun k hk=>⟨⟨by have:=h.om.bw;omega,by have:=h.om.bw;omega⟩,fun e=>by have:=Kd.R_lt h.hp k e.symm;omega⟩
end
def spec_l21Head.f (a0:Int):Option (Int):=if a0<0 then (some 2) else (some 1)
set_option maxHeartbeats 8000000 in
set_option maxRecDepth 100000 in
theorem spec_l21Head.calls (a0:Int) (r:Int) (w:World) (h:spec_l21Head.f a0=some r):
  Calls Try.prog 78 #[.int .i64 a0] w fun e w'=>e= .returned (.int .i64 r)∧Drawn0 w w':=by
 have H:(if a0<0 then (some 2) else (some 1))=some r:=h
 clear h;by_cases c2:a0<0
 ·rw [if_pos c2] at H
  have c2b0:decide (a0<0)=true:=decide_eq_true c2
  clear c2;obtain rfl:=Option.some.inj H;go_enter Try.func78,Try.ntmps78;go_wp2;go_ret;exact ⟨zz7,zz13⟩
 ·rw [if_neg c2] at H
  have c2b0:decide (a0<0)=false:=decide_eq_false c2
  clear c2;obtain rfl:=Option.some.inj H;go_enter Try.func78,Try.ntmps78;go_wp2;go_ret;exact ⟨zz7,zz13⟩
end Go.Proofs.Ytnlieahdakafbaa.K
