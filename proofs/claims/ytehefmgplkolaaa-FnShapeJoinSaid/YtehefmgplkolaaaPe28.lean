import Derived.Test.YtehefmgplkolaaaPe24
import Derived.Test.YtehefmgplkolaaaPe27
namespace Go.Proofs.Ytehefmgplkolaaa.K
open Go.RowKit Go.Proofs.YtehefmgplkolaaaW.PrintWords Go.Proofs.YtehefmgplkolaaaW.PrintLast Go.Proofs.YtehefmgplkolaaaW.PrintMore
attribute [local go_sem] max2_int min2_int max_two min_two max_three min_three max_four min_four
set_option linter.unusedVariables false
set_option linter.unusedSimpArgs false
def spec_l71Field.j0:Nat→Int→Int→Bool→List Int→Int→Option (Int×Int)
  |0,_,_,_,_,_=>none
  |k+1,x1,x6,x7,x1000,x1001=>if x7=true then (some (1,x1001)) else (if x6=2 then (some (3,x1001)) else (if x6=3 then (some (4,x1001)) else ((spec_l6Rd_pick.f k x1000 x1001 x1).bind fun bt400=>(some (wrap64 (8+bt400.1),bt400.2)))))
def spec_l71Field.f (k:Nat) (s0_0:List Int) (s0_1:Int) (a1:Int):Option (Int×Int):=(spec_l6Rd_pick.f k s0_0 s0_1 6).bind fun bt398=>(if bt398.1=0 then (spec_l71Field.j0 k a1 bt398.1 (bt398.1==0) s0_0 bt398.2) else (spec_l71Field.j0 k a1 bt398.1 (bt398.1==1) s0_0 bt398.2))
set_option maxHeartbeats 8000000 in
set_option maxRecDepth 100000 in
theorem spec_l71Field.calls (k:Nat) (g:Nat) (s0_0:List Int) (s0_1:Int) (a1:Int) (r1:Int) (r2:Int) (w0 w:World) (hI:IsS65 w0 w g s0_0 s0_1) (hB:Below w0.heap.size w0 w) (h:spec_l71Field.f k s0_0 s0_1 a1=some (r1,r2)):
  Calls Try.prog 64 #[.pointer (some ⟨g,0,none⟩),.int .i64 a1] w fun e w'=>e= .returned (.int .i64 r1)∧IsS65 w0 w' g s0_0 r2∧Below w0.heap.size w0 w'∧KeepBut w w' g none:=by
 have HI0:=aK hI;have HK:=aK (KeepBut.refl w g none);have HL:=aK hB.size;clear hI;have HW0:=aK hB.size;have HB:=aK hB;clear hB;have H:((spec_l6Rd_pick.f k s0_0 s0_1 6).bind fun bt398=>(if bt398.1=0 then (spec_l71Field.j0 k a1 bt398.1 (bt398.1==0) s0_0 bt398.2) else (spec_l71Field.j0 k a1 bt398.1 (bt398.1==1) s0_0 bt398.2)))=some (r1,r2):=h
 clear h;replace H:=Option.bind_eq_some_iff.mp H;obtain ⟨⟨t398,t399⟩,A30,H⟩:=H;(try dsimp only at H);have A3:=aK A30;clear A30;have HC4:=aK H;clear H;go_enter Try.func64,Try.ntmps64
 go_upto_if 7 with (first|((with_reducible refine gate_callee (f:=43) rfl ?_);refine goesL_ (some 6) rfl rfl Try.func43 (by kernel_rfl) rfl #[.pointer (some ⟨g,0,none⟩),.int .i64 6] rfl zz2 ?_;(with_reducible refine (spec_l6Rd_pick.calls k g s0_0 s0_1 6 t398 t399 w0 _ ?side1 ?side2 A3.out).mono ?_);(case side1=>exact zz30);(case side2=>exact zz26);rintro e w5 ⟨rfl,hi,hb,hk⟩;refine ⟨_,rfl,?_⟩;replace HK:=aK (KeepBut.trans zz24 hk (.inl rfl));replace HB:=aK (hb);replace HI0:=aK (hi);(try clear hb);(try clear hb2);(try clear hk);(try clear hi)))
 (try simp only [Act.put,List.setIfInBounds_toArray,List.set_cons_zero,List.set_cons_succ])
 go_cut [7] (fun v7 wc=> ∃(kq:Nat) (x7_3:Bool),v7= .bool x7_3∧Aside0 (spec_l71Field.j0 kq a1 t398 x7_3 s0_0 t399=some (r1,r2))∧Aside0 (kq≤k)∧Aside0 (IsS65 w0 wc g s0_0 t399)∧Aside0 (KeepBut w wc g none)∧Aside0 (Below w0.heap.size w0 wc))
 case first=>
  have H:=HC4.out;clear HC4;by_cases c6:t398=0
  ·rw [if_pos c6] at H
   have c6b0:(t398==0)=true:=beq_iff_eq.mpr c6
   have c6b1:(t398 !=0)=false:=bne_eq_false_iff_eq.mpr c6
   clear c6
   (first|rw [c6b0]|(simp only [i64_w,i32_w];rw [c6b0])|skip)
   have H':=aK H;clear H;go_wp2;go_meet
   case rel=>exact ⟨_,((t398==0)),zz12,H',⟨by first|omega|exact Nat.le_refl _⟩,⟨by repeat (first|(with_reducible first|exact HI0.out|apply IsS65.alloc|apply IsS65.drewN|apply IsS65.drew|apply IsS65.set_1)|exact HI0.out)⟩,⟨by repeat (first|(with_reducible first|exact HK.out|apply KeepBut.set_|apply keep_drewN|apply keep_drew|apply keep_alloc)|exact HK.out)⟩,⟨by repeat (first|(with_reducible first|exact HB.out|apply below_alloc|apply pw_below_drewN|apply below_drew1|refine below_set ?_ (IsS65.ge HI0.out))|exact HB.out)⟩⟩
  ·rw [if_neg c6] at H
   have c6b0:(t398==0)=false:=beq_eq_false_iff_ne.mpr c6
   have c6b1:(t398 !=0)=true:=bne_iff_ne.mpr c6
   (first|rw [c6b0]|(simp only [i64_w,i32_w];rw [c6b0])|skip)
   have H':=aK H;clear H;go_wp2;go_meet
   case rel=>exact ⟨_,((t398==1)),zz12,H',⟨by first|omega|exact Nat.le_refl _⟩,⟨by repeat (first|(with_reducible first|exact HI0.out|apply IsS65.alloc|apply IsS65.drewN|apply IsS65.drew|apply IsS65.set_1)|exact HI0.out)⟩,⟨by repeat (first|(with_reducible first|exact HK.out|apply KeepBut.set_|apply keep_drewN|apply keep_drew|apply keep_alloc)|exact HK.out)⟩,⟨by repeat (first|(with_reducible first|exact HB.out|apply below_alloc|apply pw_below_drewN|apply below_drew1|refine below_set ?_ (IsS65.ge HI0.out))|exact HB.out)⟩⟩
 case rest =>
  clear HC4;(try clear p2);(try clear c4);(try clear c6);(try clear c6b0);(try clear c6b1);obtain ⟨kq,x7_3,rfl,HA,HJ3,HI0,HK,HB⟩:=hcut
  cases kq with
  |zero=>exact absurd HA.out (by simp [spec_l71Field.j0])
  | succ kj3 =>
   have H:=HA.out;clear HA;simp only [spec_l71Field.j0] at H;by_cases c7:x7_3=true
   ·subst c7
    rw [if_pos rfl] at H;simp only [Option.some.injEq,Prod.mk.injEq] at H;obtain ⟨rfl,rfl⟩:=H;go_wp2;go_ret;exact ⟨by first|rfl|(simp [errW_none,errW_some]<;>rfl)|(simp [*,errW_none,errW_some]<;>rfl),by repeat (first|(with_reducible first|exact HI0.out|apply IsS65.alloc|apply IsS65.drewN|apply IsS65.drew|apply IsS65.set_1)|exact HI0.out),by repeat (first|(with_reducible first|exact HB.out|apply below_alloc|apply pw_below_drewN|apply below_drew1|refine below_set ?_ (IsS65.ge HI0.out))|exact HB.out),by repeat (first|(with_reducible first|exact HK.out|apply KeepBut.set_|apply keep_drewN|apply keep_drew|apply keep_alloc)|exact HK.out)⟩
   ·replace c7 := Bool.eq_false_iff.mpr c7
    subst c7;rw [if_neg (show¬(false=true) by decide)] at H;by_cases c8:t398=2
    ·rw [if_pos c8] at H
     have c8b0:(t398==2)=true:=beq_iff_eq.mpr c8
     have c8b1:(t398 !=2)=false:=bne_eq_false_iff_eq.mpr c8
     clear c8;simp only [Option.some.injEq,Prod.mk.injEq] at H;obtain ⟨rfl,rfl⟩:=H;go_wp2;go_ret;exact ⟨by first|rfl|(simp [errW_none,errW_some]<;>rfl)|(simp [*,errW_none,errW_some]<;>rfl),by repeat (first|(with_reducible first|exact HI0.out|apply IsS65.alloc|apply IsS65.drewN|apply IsS65.drew|apply IsS65.set_1)|exact HI0.out),by repeat (first|(with_reducible first|exact HB.out|apply below_alloc|apply pw_below_drewN|apply below_drew1|refine below_set ?_ (IsS65.ge HI0.out))|exact HB.out),by repeat (first|(with_reducible first|exact HK.out|apply KeepBut.set_|apply keep_drewN|apply keep_drew|apply keep_alloc)|exact HK.out)⟩
    ·rw [if_neg c8] at H
     have c8b0:(t398==2)=false:=beq_eq_false_iff_ne.mpr c8
     have c8b1:(t398 !=2)=true:=bne_iff_ne.mpr c8
     by_cases c9:t398=3
     ·rw [if_pos c9] at H
      have c9b0:(t398==3)=true:=beq_iff_eq.mpr c9
      have c9b1:(t398 !=3)=false:=bne_eq_false_iff_eq.mpr c9
      clear c9;simp only [Option.some.injEq,Prod.mk.injEq] at H;obtain ⟨rfl,rfl⟩:=H;go_wp2;go_ret;exact ⟨by first|rfl|(simp [errW_none,errW_some]<;>rfl)|(simp [*,errW_none,errW_some]<;>rfl),by repeat (first|(with_reducible first|exact HI0.out|apply IsS65.alloc|apply IsS65.drewN|apply IsS65.drew|apply IsS65.set_1)|exact HI0.out),by repeat (first|(with_reducible first|exact HB.out|apply below_alloc|apply pw_below_drewN|apply below_drew1|refine below_set ?_ (IsS65.ge HI0.out))|exact HB.out),by repeat (first|(with_reducible first|exact HK.out|apply KeepBut.set_|apply keep_drewN|apply keep_drew|apply keep_alloc)|exact HK.out)⟩
     ·rw [if_neg c9] at H
      have c9b0:(t398==3)=false:=beq_eq_false_iff_ne.mpr c9
      have c9b1:(t398 !=3)=true:=bne_iff_ne.mpr c9
      replace H:=Option.bind_eq_some_iff.mp H;obtain ⟨⟨t400,t401⟩,A100,H⟩:=H;(try dsimp only at H);have A10:=aK A100;clear A100;simp only [Option.some.injEq,Prod.mk.injEq] at H;obtain ⟨rfl,rfl⟩:=H
      go_wp2_with (first|((with_reducible refine gate_callee (f:=43) rfl ?_);refine goesL_ (some 16) rfl rfl Try.func43 (by kernel_rfl) rfl #[.pointer (some ⟨g,0,none⟩),.int .i64 a1] rfl zz2 ?_;(with_reducible refine (spec_l6Rd_pick.calls kj3 g s0_0 t399 a1 t400 t401 w0 _ ?side1 ?side2 A10.out).mono ?_);(case side1=>exact zz30);(case side2=>exact zz26);rintro e w11 ⟨rfl,hi,hb,hk⟩;refine ⟨_,rfl,?_⟩;replace HK:=aK (KeepBut.trans zz24 hk (.inl rfl));replace HB:=aK (hb);replace HI0:=aK (hi);(try clear hb);(try clear hb2);(try clear hk);(try clear hi)))
      go_ret;exact ⟨by first|rfl|(simp [errW_none,errW_some]<;>rfl)|(simp [*,errW_none,errW_some]<;>rfl),by repeat (first|(with_reducible first|exact HI0.out|apply IsS65.alloc|apply IsS65.drewN|apply IsS65.drew|apply IsS65.set_1)|exact HI0.out),by repeat (first|(with_reducible first|exact HB.out|apply below_alloc|apply pw_below_drewN|apply below_drew1|refine below_set ?_ (IsS65.ge HI0.out))|exact HB.out),by repeat (first|(with_reducible first|exact HK.out|apply KeepBut.set_|apply keep_drewN|apply keep_drew|apply keep_alloc)|exact HK.out)⟩
end Go.Proofs.Ytehefmgplkolaaa.K
namespace Go.Proofs.Ytehefmgplkolaaa.Pure
open Go.RowKit Go.Proofs.Ytehefmgplkolaaa.K Go.Proofs.YtehefmgplkolaaaW.PrintWords Go.Proofs.YtehefmgplkolaaaW.PrintLast Go.Proofs.YtehefmgplkolaaaW.PrintMore
set_option linter.unusedVariables false
set_option linter.unusedSimpArgs false
theorem wrap_inc {i n:Int} (h0:0≤i) (h:i<n) (hn:n≤4611686018427387904):wrap64 (i+1)=i+1:=by
  unfold wrap64;omega
theorem rd_cast (xs:List Int) (i:Nat):rd xs (i:Int)=xs.getD i 0:=by simp [rd]
theorem drop_getD {α:Type} (xs:List α) (i:Nat) (d:α) (h:i<xs.length):xs.drop i=xs.getD i d::xs.drop (i+1):=by
  rw [List.drop_eq_getElem_cons h];simp [List.getD_eq_getElem?_getD,h]
theorem wrap64_of {n:Int} (h: -9223372036854775808≤n) (h':n≤9223372036854775807):wrap64 n=n:=by unfold wrap64;omega
theorem xor_nn (a b:Int) (ha:0≤a) (hb:0≤b) (ha2:a<4611686018427387904) (hb2:b<4611686018427387904):0≤Go.bits .xor .i64 a b:=by
 obtain ⟨x,rfl⟩: ∃x:Nat,a=x:=⟨a.toNat,by omega⟩;obtain ⟨y,rfl⟩: ∃y:Nat,b=y:=⟨b.toNat,by omega⟩;have hx:x ^^^ y<2 ^ 62:=Nat.xor_lt_two_pow (by omega) (by omega)
 have h1:(BitVec.ofInt 64 (x:Int)).toNat=x:=by rw [BitVec.ofInt_natCast,BitVec.toNat_ofNat];exact Nat.mod_eq_of_lt (by omega)
 have h2:(BitVec.ofInt 64 (y:Int)).toNat=y:=by rw [BitVec.ofInt_natCast,BitVec.toNat_ofNat];exact Nat.mod_eq_of_lt (by omega)
 show 0≤IntKind.i64.wrap ((BitVec.ofInt 64 (x:Int) ^^^ BitVec.ofInt 64 (y:Int)).toNat:Int)
 rw [BitVec.toNat_xor,h1,h2,i64_w,wrap64_of (by omega) (by omega)];omega
theorem rd_byte {b:List Int} (hb: ∀x∈b,0≤x∧x≤255) (i:Int):0≤rd b i∧rd b i≤255:=by
 unfold rd;rw [List.getD_eq_getElem?_getD];by_cases h:i.toNat<b.length
 ·rw [List.getElem?_eq_getElem h];exact hb _ (List.getElem_mem h)
 ·rw [List.getElem?_eq_none (by omega)];simp
theorem tmod_in (x n:Int) (hx:0≤x) (hn:1≤n):0≤Int.tmod x n∧Int.tmod x n<n:=⟨Int.tmod_nonneg _ hx,Int.tmod_lt_of_pos _ (by omega)⟩
theorem pick_ev {b:List Int} (hb: ∀x∈b,0≤x∧x≤255) (hl:b.length≤2000) {p n:Int} (hp:0≤p) (hp2:p≤1000000) (hn:1≤n) (hn2:n≤1000000):
  ∃v,0≤v∧v<n∧∀k,1≤k→spec_l6Rd_pick.f k b p n=some (v,p+1):=by
 have key: ∃v,0≤v∧v<n∧spec_l6Rd_pick.j0 (0+1) n ((b.length:Int)==0) b (p+1)=some (v,p+1)∧∀m,spec_l6Rd_pick.j0 (m+1) n ((b.length:Int)==0) b (p+1)=spec_l6Rd_pick.j0 (0+1) n ((b.length:Int)==0) b (p+1):=by
  by_cases h0:(b.length:Int)=0
  ·refine ⟨0, by omega, by omega, ?_, fun m => ?_⟩
   ·rw [spec_l6Rd_pick.j0,if_pos (beq_iff_eq.mpr h0)]
   ·rw [spec_l6Rd_pick.j0,spec_l6Rd_pick.j0]
  have e0:((b.length:Int)==0)=false:=beq_eq_false_iff_ne.mpr h0
  have ep:wrap64 (p+1 - 1)=p:=by rw [wrap64_of (by omega) (by omega)];omega
  by_cases h1:p<(b.length:Int)
  ·obtain ⟨r0, r1⟩ := rd_byte hb p
   obtain ⟨t0,t1⟩:=tmod_in (rd b p) n r0 hn;refine ⟨Int.tmod (rd b p) n,t0,t1,?_,fun m=>?_⟩
   ·rw [spec_l6Rd_pick.j0,e0,if_neg (by simp),ep,if_pos h1,if_pos hp,if_neg (by omega),wrap64_of (n:=rd b p) (by omega) (by omega)]
   ·rw [spec_l6Rd_pick.j0,spec_l6Rd_pick.j0]
  obtain ⟨q0,q1⟩:=tmod_in p b.length hp (by omega);have w7:wrap64 (p*7)=p*7:=wrap64_of (by omega) (by omega)
  have w73:wrap64 (p*7+3)=p*7+3:=wrap64_of (by omega) (by omega)
  obtain ⟨s0,s1⟩:=tmod_in (p*7+3) b.length (by omega) (by omega);obtain ⟨a0,a1⟩:=rd_byte hb (Int.tmod p b.length);obtain ⟨c0,c1⟩:=rd_byte hb (Int.tmod (p*7+3) b.length);have d0:0≤Int.tdiv p b.length:=Int.tdiv_nonneg hp (by omega)
  have d1:Int.tdiv p b.length≤p:=by rw [Int.tdiv_eq_ediv_of_nonneg hp];exact Int.ediv_le_self _ hp
  obtain ⟨A,hA⟩: ∃A,A=rd b (Int.tmod p b.length):=⟨_,rfl⟩;obtain ⟨C,hC⟩: ∃C,C=rd b (Int.tmod (p*7+3) b.length):=⟨_,rfl⟩;obtain ⟨D,hD⟩: ∃D,D=Int.tdiv p b.length:=⟨_,rfl⟩;rw [←hA] at a0 a1;rw [←hC] at c0 c1;rw [←hD] at d0 d1;obtain ⟨X,hX⟩: ∃X,X=A*131+C*1117+p*29+D*53:=⟨_,rfl⟩;have x0:0≤X:=by omega
  have x1:X≤1000000000:=by omega
  have y0:0≤Int.tdiv X 64:=Int.tdiv_nonneg x0 (by omega)
  have y1:Int.tdiv X 64≤X:=by rw [Int.tdiv_eq_ediv_of_nonneg x0];exact Int.ediv_le_self _ x0
  obtain ⟨t0,t1⟩:=tmod_in (Go.bits .xor .i64 X (Int.tdiv X 64)) n (xor_nn _ _ x0 y0 (by omega) (by omega)) hn;have wA:wrap64 A=A:=wrap64_of (by omega) (by omega)
  have wC:wrap64 C=C:=wrap64_of (by omega) (by omega)
  have wA1:wrap64 (A*131)=A*131:=wrap64_of (by omega) (by omega)
  have wC1:wrap64 (C*1117)=C*1117:=wrap64_of (by omega) (by omega)
  have wp:wrap64 (p*29)=p*29:=wrap64_of (by omega) (by omega)
  have wD:wrap64 D=D:=wrap64_of (by omega) (by omega)
  have wD1:wrap64 (D*53)=D*53:=wrap64_of (by omega) (by omega)
  have w1:wrap64 (A*131+C*1117)=A*131+C*1117:=wrap64_of (by omega) (by omega)
  have w2:wrap64 (A*131+C*1117+p*29)=A*131+C*1117+p*29:=wrap64_of (by omega) (by omega)
  have w3:wrap64 (A*131+C*1117+p*29+D*53)=X:=by rw [←hX];exact wrap64_of (by omega) (by omega)
  have w4:wrap64 (Int.tdiv X 64)=Int.tdiv X 64:=wrap64_of (by omega) (by omega)
  refine ⟨_,t0,t1,?_,fun m=>?_⟩
  ·rw [spec_l6Rd_pick.j0,e0,if_neg (by simp),ep,if_neg h1,if_neg h0,if_pos q0,if_pos q1,w7,w73,if_pos s0,if_pos s1,if_neg (by omega),←hA,←hC,←hD,wA,wC,wA1,wC1,wp,wD,wD1,w1,w2,w3,w4]
  ·rw [spec_l6Rd_pick.j0,spec_l6Rd_pick.j0]
 obtain ⟨v,v0,v1,h1,h2⟩:=key;refine ⟨v,v0,v1,fun k hk=>?_⟩;obtain ⟨m,rfl⟩: ∃m,k=m+1:=⟨k - 1,by omega⟩;unfold spec_l6Rd_pick.f;rw [if_neg (by omega),wrap64_of (n:=p+1) (by omega) (by omega),h2,h1]
theorem l6Open_ev {l:List Int} (hl: ∀x∈l,(Lit.int .u8 x).wf=true): ∃b,spec_l6Open.f l=some (b,0)∧b.length≤2000∧∀x∈b,0≤x∧x≤255:=by
 have hb: ∀x∈l,0≤x∧x≤255:=fun x hx=>by
  have h:=hl x hx;have h1:IntKind.u8.min=0:=by decide
  have h2:IntKind.u8.max=255:=by decide
  simp [Lit.wf] at h
  omega
 unfold spec_l6Open.f;by_cases h:(l.length:Int)>2000
 ·exact ⟨l.take 2000,by rw [if_pos h,if_pos (by omega)],by rw [List.length_take];omega,fun x hx=>hb x (List.mem_of_mem_take hx)⟩
 ·exact ⟨l,by rw [if_neg h],by omega,hb⟩
end Go.Proofs.Ytehefmgplkolaaa.Pure
namespace Go.Proofs.Ytehefmgplkolaaa.K
open Go.RowKit Go.Proofs.YtehefmgplkolaaaW.PrintWords Go.Proofs.YtehefmgplkolaaaW.PrintLast Go.Proofs.YtehefmgplkolaaaW.PrintMore
attribute [local go_sem] max2_int min2_int max_two min_two max_three min_three max_four min_four
set_option linter.unusedVariables false
set_option linter.unusedSimpArgs false
open Go.Proofs.Ytehefmgplkolaaa.Pure
def Rdr (M:Int) (w0 w:World) (g:Nat):Prop:=(∃(b:List Int) (p:Int),IsS65 w0 w g b p∧b.length≤2000∧(∀x∈b,0≤x∧x≤255)∧0≤p∧p≤M)∧Below w0.heap.size w0 w
section
variable {M L:Int} {w0 w w1:World} {g:Nat}
theorem Rdr.le (h:Rdr M w0 w g) (hn:M≤L):Rdr L w0 w g:=by
  obtain ⟨⟨b,p,h1,h2,h3,h4,h5⟩,hb⟩:=h;exact ⟨⟨b,p,h1,h2,h3,h4,Int.le_trans h5 hn⟩,hb⟩
theorem Rdr.below (h:Rdr M w0 w g) (hb:Below w.heap.size w w1):Rdr M w0 w1 g:=by
  obtain ⟨⟨b,p,h1,h2,h3,h4,h5⟩,h6⟩:=h;exact ⟨⟨b,p,h1.below hb,h2,h3,h4,h5⟩,below_step h6 hb⟩
theorem Rdr.alloc (h:Rdr M w0 w g) (o:Obj):Rdr M w0 (w.alloc o) g:=h.below (below_alloc (Below.refl _ _) o)
theorem Rdr.drew (h:Rdr M w0 w g):Rdr M w0 w.drew g:=h.below (below_drew1 (Below.refl _ _))
theorem Rdr.far (h:Rdr M w0 w g) {p:Addr} (hne:g≠p.block) (hp:w0.heap.size≤p.block) (u:Value):Rdr M w0 (w.setCell p u) g:=by
  obtain ⟨⟨b,q,h1,h2,h3,h4,h5⟩,h6⟩:=h;exact ⟨⟨b,q,h1.far hne u,h2,h3,h4,h5⟩,h6.setCell hp u⟩
theorem Rdr.grown (h:Rdr M w0 w g) {row:Option Nat} (hg:w.grownBy w1 row) (hne:some g≠row) (hr: ∀k,row=some k→w0.heap.size≤k):Rdr M w0 w1 g:=by
  obtain ⟨⟨b,q,h1,h2,h3,h4,h5⟩,h6⟩:=h;exact ⟨⟨b,q,h1.grown hg hne,h2,h3,h4,h5⟩,h6.grown hg h6.size hr⟩
theorem Rdr.lt (h:Rdr M w0 w g):g<w.heap.size:=by
  obtain ⟨⟨b,q,h1,_⟩,_⟩:=h;exact h1.lt
theorem Rdr.ge (h:Rdr M w0 w g):w0.heap.size≤g:=by
  obtain ⟨⟨b,q,h1,_⟩,_⟩:=h;exact h1.ge
end
theorem pick_any (M:Int) (g:Nat) (n:Int) (w0 w:World) (h:Rdr M w0 w g) (hM:M≤1000000) (h0:1≤n) (h1:n≤1000000):
  Calls Try.prog 43 #[.pointer (some ⟨g,0,none⟩),.int .i64 n] w fun e w'=> ∃v:Int,e= .returned (.int .i64 v)∧(0≤v∧v<n)∧Rdr (M+1) w0 w' g∧KeepBut w w' g none:=by
 obtain ⟨⟨b,p,hI,hl,hb,hp,hpM⟩,hB⟩:=h;obtain ⟨v,v0,v1,hv⟩:=pick_ev hb hl hp (by omega) h0 h1;exact (spec_l6Rd_pick.calls 1 g b p n v (p+1) w0 w hI hB (hv 1 (Nat.le_refl _))).mono fun e w' ⟨he,hi,hbb,hk⟩=>⟨v,he,⟨v0,v1⟩,⟨⟨b,p+1,hi,hl,hb,by omega,by omega⟩,hbb⟩,hk⟩
theorem open_any (A0:Option Addr) (c0:Nat) (l0:List Int) (w:World) (hr0:Kd.C (Kd.int .u8) w A0 l0.length l0) (hc0:l0.length≤c0) (hl: ∀x∈l0,(Lit.int .u8 x).wf=true):
  Calls Try.prog 33 #[.slice A0 l0.length c0] w fun e w'=> ∃g:Nat,e= .returned (.pointer (some ⟨g,0,none⟩))∧Rdr 0 w w' g∧w.heap.size≤g∧Below w.heap.size w w':=by
 obtain ⟨b,hb,hb1,hb2⟩:=l6Open_ev hl;exact (spec_l6Open.calls A0 c0 l0 b 0 w w (Below.refl _ _) hr0 hc0 hb).mono fun e w' ⟨g,he,hi,hbb,hbb2⟩=>⟨g,he,⟨⟨b,0,hi,hb1,hb2,by omega,by omega⟩,hbb⟩,hi.ge,hbb2⟩
end Go.Proofs.Ytehefmgplkolaaa.K
namespace Go.Proofs.Ytehefmgplkolaaa.Pure
open Go.RowKit Go.Proofs.Ytehefmgplkolaaa.K Go.Proofs.YtehefmgplkolaaaW.PrintWords Go.Proofs.YtehefmgplkolaaaW.PrintLast Go.Proofs.YtehefmgplkolaaaW.PrintMore
set_option linter.unusedVariables false
set_option linter.unusedSimpArgs false
abbrev Cs:=List S48
def sup (cs:Cs) (c:Int):Int:=(rd_T48 cs c).f0
def flds (cs:Cs) (c:Int):List Int:=(rd_T48 cs c).f1
def fldOk (n t:Int):Bool:=decide (t=1∨t=3∨t=4∨(8≤t∧t<8+n))
def clsOk (cs : Cs) (i : Int) : Bool :=
  (flds cs i).all (fldOk cs.length)&&
    (if i=0 then decide (sup cs 0= -1∧flds cs 0=[]) else if i=1 then decide (sup cs 1=0∧flds cs 1=[1]) else decide ((0≤sup cs i∧sup cs i<i)∧(flds cs i).length≤2))
def csOk (cs:Cs):Bool:=decide (2≤cs.length∧cs.length≤5)&&(List.range cs.length).all (fun i:Nat=>clsOk cs i)
theorem csOk_len {cs:Cs} (h:csOk cs=true):2≤cs.length∧cs.length≤5:=by
  simp only [csOk,Bool.and_eq_true,decide_eq_true_eq] at h;exact h.1
theorem csOk_at {cs:Cs} (h:csOk cs=true) {i:Int} (h0:0≤i) (h1:i<cs.length):clsOk cs i=true:=by
 simp only [csOk,Bool.and_eq_true,decide_eq_true_eq,List.all_eq_true,List.mem_range] at h;have:=h.2 i.toNat (by omega)
 rwa [Int.toNat_of_nonneg h0] at this
theorem csOk_root {cs:Cs} (h:csOk cs=true):sup cs 0= -1∧flds cs 0=[]:=by
 have hl:=csOk_len h;have:=csOk_at h (i:=0) (by omega) (by omega)
 simp only [clsOk,if_true,Bool.and_eq_true,decide_eq_true_eq] at this;exact this.2
theorem csOk_sup {cs:Cs} (h:csOk cs=true) {i:Int} (h0:0<i) (h1:i<cs.length):0≤sup cs i∧sup cs i<i:=by
 have:=csOk_at h (i:=i) (by omega) h1
 simp only [clsOk,Bool.and_eq_true] at this;have h2:=this.2;rw [if_neg (by omega)] at h2;by_cases h3:i=1
 ·subst h3
  simp only [if_true,decide_eq_true_eq] at h2;omega
 ·rw [if_neg h3, decide_eq_true_eq] at h2
  exact h2.1
def upN (cs:Cs):Nat→Int→Int→Bool
  |0,a,b=>decide (a=b)
  |n+1,a,b=>decide (a=b)||(decide (0<a)&&upN cs n (sup cs a) b)
def up (cs:Cs) (a b:Int):Bool:=upN cs a.toNat a b
theorem upN_more {cs:Cs} (h:csOk cs=true): ∀(n:Nat) (a b:Int),0≤a→a<cs.length→a.toNat≤n→upN cs (n+1) a b=upN cs n a b
 |0,a,b,h0,h1,hn=>by
  have:a=0:=by omega
  subst this;simp [upN]
 | n + 1, a, b, h0, h1, hn => by
  have e1:upN cs (n+1+1) a b=(decide (a=b)||(decide (0<a)&&upN cs (n+1) (sup cs a) b)):=rfl
  have e2:upN cs (n+1) a b=(decide (a=b)||(decide (0<a)&&upN cs n (sup cs a) b)):=rfl
  rw [e1,e2];by_cases hp:0<a
  ·have hs := csOk_sup h hp h1
   rw [upN_more h n (sup cs a) b (by omega) (by omega) (by omega)]
  ·simp [hp]
theorem upN_eq {cs:Cs} (h:csOk cs=true) {a b:Int} (h0:0≤a) (h1:a<cs.length): ∀d:Nat,upN cs (a.toNat+d) a b=up cs a b
  |0=>rfl
  |d+1=>by rw [←Nat.add_assoc,upN_more h _ a b h0 h1 (by omega),upN_eq h h0 h1 d]
theorem up_step {cs:Cs} (h:csOk cs=true) {a:Int} (b:Int) (h0:0≤a) (h1:a<cs.length):up cs a b=(decide (a=b)||(decide (0<a)&&up cs (sup cs a) b)):=by
 rw [←upN_eq h h0 h1 1,upN];by_cases hp:0<a
 ·have hs := csOk_sup h hp h1
  have e:=upN_eq h (a:=sup cs a) (b:=b) hs.1 (by omega) (a.toNat - (sup cs a).toNat);rw [show (sup cs a).toNat+(a.toNat - (sup cs a).toNat)=a.toNat from by omega] at e;rw [e]
 ·simp [hp]
theorem up_refl (cs:Cs) (a:Int):up cs a a=true:=by
  unfold up
  cases a.toNat<;>simp [upN]
theorem cls_ind {cs:Cs} (h:csOk cs=true) {P:Int→Prop} (h00:P 0) (hs: ∀a:Int,0<a→a<cs.length→P (sup cs a)→P a): ∀a:Int,0≤a→a<cs.length→P a:=by
  suffices H: ∀(n:Nat) (a:Int),a.toNat≤n→0≤a→a<cs.length→P a from fun a h0 h1=>H a.toNat a (Nat.le_refl _) h0 h1
  intro n
  induction n with
  | zero => intro a hn h0 h1; have : a = 0 := by omega
            subst this;exact h00
  | succ n ih =>
    intro a hn h0 h1;by_cases hp:0<a
    · have := csOk_sup h hp h1
      exact hs a hp h1 (ih _ (by omega) (by omega) (by omega))
    · have : a = 0 := by omega
      subst this;exact h00
theorem up_le {cs:Cs} (h:csOk cs=true) {b:Int}: ∀a:Int,0≤a→a<cs.length→up cs a b=true→b≤a∧0≤b:=by
 refine cls_ind h ?_ ?_
 ·intro hu
  rw [up_step h b (by omega) (by have:=csOk_len h;omega)] at hu;simp at hu;omega
 ·intro a hp h1 ih hu
  have hs:=csOk_sup h hp h1;rw [up_step h b (by omega) h1] at hu;simp only [Bool.or_eq_true,decide_eq_true_eq,Bool.and_eq_true] at hu;rcases hu with hu|hu
  ·omega
  ·have:=ih hu.2;omega
theorem up_anti {cs:Cs} (h:csOk cs=true) {a b:Int} (ha:0≤a) (ha1:a<cs.length) (hb:0≤b) (hb1:b<cs.length) (h1:up cs a b=true) (h2:up cs b a=true):a=b:=by
 have:=up_le h a ha ha1 h1
 have:=up_le h b hb hb1 h2
 omega
theorem up_root {cs:Cs} (h:csOk cs=true): ∀a:Int,0≤a→a<cs.length→up cs a 0=true:=by
 refine cls_ind h (up_refl cs 0) ?_;intro a hp h1 ih;rw [up_step h 0 (by omega) h1,ih];simp [hp]
theorem field_ev {b:List Int} (hb: ∀x∈b,0≤x∧x≤255) (hl:b.length≤2000) {p n:Int} (hp:0≤p) (hp2:p≤900000) (hn:1≤n) (hn2:n≤1000):
  ∃t q,fldOk n t=true∧p≤q∧q≤p+2∧∀k,3≤k→spec_l71Field.f k b p n=some (t,q):=by
 obtain ⟨v,v0,v1,hv⟩:=pick_ev hb hl hp (by omega) (show (1:Int)≤6 by omega) (by omega);obtain ⟨u,u0,u1,hu⟩:=pick_ev hb hl (p:=p+1) (by omega) (by omega) hn (by omega)
 have hj: ∀(x:Bool) k,2≤k→spec_l71Field.j0 k n v x b (p+1)=some (if x=true then (1,p+1) else if v=2 then (3,p+1) else if v=3 then (4,p+1) else (8+u,p+2)):=fun x k hk=>by
  obtain ⟨k,rfl⟩: ∃m,k=m+1:=⟨k - 1,by omega⟩;rw [spec_l71Field.j0];by_cases c1:x=true
  ·rw [if_pos c1,if_pos c1]
  rw [if_neg c1,if_neg c1];by_cases c2:v=2
  ·rw [if_pos c2,if_pos c2]
  rw [if_neg c2,if_neg c2];by_cases c3:v=3
  ·rw [if_pos c3,if_pos c3]
  rw [if_neg c3,if_neg c3,hu k (by omega),Option.bind_some,wrap64_of (n:=8+u) (by omega) (by omega)];simp only [show p+1+1=p+2 by omega]
 have hf: ∀x:Bool,∃t q,fldOk n t=true∧p≤q∧q≤p+2∧(if x=true then ((1:Int),p+1) else if v=2 then (3,p+1) else if v=3 then (4,p+1) else (8+u,p+2))=(t,q):=fun x=>by
  unfold fldOk
  split
  ·exact ⟨1,p+1,by simp,by omega,by omega,rfl⟩
  split
  ·exact ⟨3,p+1,by simp,by omega,by omega,rfl⟩
  split
  ·exact ⟨4,p+1,by simp,by omega,by omega,rfl⟩
  ·exact ⟨8+u,p+2,by simp only [decide_eq_true_eq];omega,by omega,by omega,rfl⟩
 by_cases c0:v=0
 ·obtain ⟨t, q, h1, h2, h3, h4⟩ := hf (v == 0)
  exact ⟨t,q,h1,h2,h3,fun k hk=>by unfold spec_l71Field.f;rw [hv k (by omega),Option.bind_some,if_pos c0,hj _ k (by omega),h4]⟩
 ·obtain ⟨t, q, h1, h2, h3, h4⟩ := hf (v == 1)
  exact ⟨t,q,h1,h2,h3,fun k hk=>by unfold spec_l71Field.f;rw [hv k (by omega),Option.bind_some,if_neg c0,hj _ k (by omega),h4]⟩
end Go.Proofs.Ytehefmgplkolaaa.Pure
namespace Go.Proofs.Ytehefmgplkolaaa.K
open Go.RowKit Go.Proofs.YtehefmgplkolaaaW.PrintWords Go.Proofs.YtehefmgplkolaaaW.PrintLast Go.Proofs.YtehefmgplkolaaaW.PrintMore
attribute [local go_sem] max2_int min2_int max_two min_two max_three min_three max_four min_four
set_option linter.unusedVariables false
set_option linter.unusedSimpArgs false
open Go.Proofs.Ytehefmgplkolaaa.Pure
theorem field_any (M:Int) (g:Nat) (n:Int) (w0 w:World) (h:Rdr M w0 w g) (hM:M≤800000) (h0:1≤n) (h1:n≤1000):
  Calls Try.prog 64 #[.pointer (some ⟨g,0,none⟩),.int .i64 n] w fun e w'=> ∃t:Int,e= .returned (.int .i64 t)∧fldOk n t=true∧Rdr (M+2) w0 w' g∧KeepBut w w' g none:=by
 obtain ⟨⟨b,p,hI,hl,hb,hp,hpM⟩,hB⟩:=h;obtain ⟨t,q,ht,q0,q1,hv⟩:=field_ev hb hl hp (by omega) h0 h1;exact (spec_l71Field.calls 3 g b p n t q w0 w hI hB (hv 3 (Nat.le_refl _))).mono fun e w' ⟨he,hi,hbb,hk⟩=>⟨t,he,ht,⟨⟨b,q,hi,hl,hb,by omega,by omega⟩,hbb⟩,hk⟩
theorem upd2 {w:World} {gb T:Nat} {x y:Value} (h:w.heap[gb]? =some (.cells #[x,y] T (0,0))) (u v:Value):((w.setCell ⟨gb,0,none⟩ u).setCell ⟨gb,1,none⟩ v).heap[gb]? =some (.cells #[u,v] T (0,0)):=
  blk_put (blk_put h 0 _ rfl) 1 _ rfl
end Go.Proofs.Ytehefmgplkolaaa.K
namespace Go.Proofs.Ytehefmgplkolaaa.Pure
open Go.RowKit Go.Proofs.Ytehefmgplkolaaa.K Go.Proofs.YtehefmgplkolaaaW.PrintWords Go.Proofs.YtehefmgplkolaaaW.PrintLast Go.Proofs.YtehefmgplkolaaaW.PrintMore
set_option linter.unusedVariables false
set_option linter.unusedSimpArgs false
def clsAt (n:Int) (x:S48) (i:Nat):Prop:=x.f1.all (fldOk n)=true∧x.f1.length≤2∧(if i=0 then x.f0= -1∧x.f1=[] else if i=1 then x.f0=0∧x.f1=[1] else 0≤x.f0∧x.f0<i)
def growOk (n:Int) (cs:Cs):Prop:=2≤cs.length∧∀(i:Nat) (x:S48),cs[i]? =some x→clsAt n x i
theorem growOk_two (n:Int):growOk n [⟨-1,[]⟩,⟨0,[1]⟩]:=by
  refine ⟨by simp,fun i x h=>?_⟩
  match i,h with
  | 0, h => obtain rfl : (⟨-1, []⟩ : S48) = x := by simpa using h
            exact ⟨rfl,by simp,rfl,rfl⟩
  | 1, h => obtain rfl : (⟨0, [1]⟩ : S48) = x := by simpa using h
            exact ⟨by simp [fldOk],by simp,rfl,rfl⟩
  |(i+2),h=>simp at h
theorem growOk_snoc {n:Int} {cs:Cs} (h:growOk n cs) {s:Int} {fs:List Int} (h0:0≤s) (h1:s<cs.length) (hl:fs.length≤2) (hf:fs.all (fldOk n)=true):growOk n (cs++[⟨s,fs⟩]):=by
 refine ⟨by have:=h.1;simp;omega,fun i x hx=>?_⟩;rw [List.getElem?_append] at hx
 split at hx
 ·exact h.2 i x hx
 ·next hi =>
  have:i - cs.length=0:=by
   have:=(List.getElem?_eq_some_iff.1 hx).1
   simp at this;omega
  rw [this] at hx;obtain rfl:(⟨s,fs⟩:S48)=x:=by simpa using hx
  have:=h.1
  exact ⟨hf,hl,by rw [if_neg (by omega),if_neg (by omega)];exact ⟨h0,by show s<_;omega⟩⟩
theorem rdC_at {cs:Cs} {i:Nat} (h:i<cs.length):cs[i]? =some (rd_T48 cs (i:Int)):=by
  unfold rd_T48;rw [Int.toNat_natCast,List.getD_eq_getElem?_getD,List.getElem?_eq_getElem h];rfl
theorem growOk_ok {n:Int} {cs:Cs} (h:growOk n cs) (hn:(cs.length:Int)=n) (h5:n≤5):csOk cs=true:=by
 unfold csOk;rw [Bool.and_eq_true,decide_eq_true_eq,List.all_eq_true];have h2:=h.1;refine ⟨by omega,fun i hi=>?_⟩;rw [List.mem_range] at hi;obtain ⟨k1,k2,k3⟩:=h.2 i _ (rdC_at hi);unfold clsOk flds sup;rw [Bool.and_eq_true,hn];refine ⟨k1,?_⟩;by_cases c0:i=0
 ·subst c0
  rw [if_pos rfl] at k3;rw [if_pos (by rfl),decide_eq_true_eq];exact k3
 rw [if_neg c0] at k3;rw [if_neg (by omega)];by_cases c1:i=1
 ·subst c1
  rw [if_pos rfl] at k3;rw [if_pos (by rfl),decide_eq_true_eq];exact k3
 rw [if_neg c1] at k3;rw [if_neg (by omega),decide_eq_true_eq];exact ⟨k3,k2⟩
theorem growOk_few {n:Int} {cs:Cs} (h:growOk n cs): ∀x∈cs,x.f1.length≤2:=by
 intro x hx;obtain ⟨i,hi,rfl⟩:=List.getElem_of_mem hx;exact (h.2 i _ (List.getElem?_eq_getElem hi)).2.1
end Go.Proofs.Ytehefmgplkolaaa.Pure
namespace Go.Proofs.Ytehefmgplkolaaa.K
open Go.RowKit Go.Proofs.YtehefmgplkolaaaW.PrintWords Go.Proofs.YtehefmgplkolaaaW.PrintLast Go.Proofs.YtehefmgplkolaaaW.PrintMore
attribute [local go_sem] max2_int min2_int max_two min_two max_three min_three max_four min_four
set_option linter.unusedVariables false
set_option linter.unusedSimpArgs false
open Go.Proofs.Ytehefmgplkolaaa.Pure
theorem S_grown2 {α:Type} {d:Kd α} {e base:Nat} {ok:Nat→Prop} {w w1:World} {v:Value} {xs:List α} {row:Option Nat} (h:Kd.S d e w base ok v xs) (hg:w.grownBy w1 row) (hne: ∀k,ok k→some k≠row):Kd.S d e w1 base ok v xs:=by
  obtain ⟨f,hR⟩:=h;exact ⟨f,Kd.R_grown hR hg hne⟩
set_option maxHeartbeats 16000000 in
set_option maxRecDepth 100000 in
theorem classes_any (M : Int) (g : Nat) (w0 w : World) (h : Rdr M w0 w g) (hM : M ≤ 700000) :
    Calls Try.prog 57 #[.pointer (some ⟨g,0,none⟩)] w fun e w'=> ∃(v:Value) (cs:Cs),e= .returned v∧(csOk cs=true∧∀x∈cs,x.f1.length≤2)∧Kd.S k48 48 w' w.heap.size (fun _=>True) v cs∧Rdr (M+40) w0 w' g∧KeepBut w w' g none:=by
  obtain ⟨b0,hb0⟩: ∃b,b=w.heap.size:=⟨_,rfl⟩;have HG:=aK (show g<b0 by rw [hb0];exact h.lt);have HG0:=aK (show w0.heap.size≤b0 by have:=h.ge;have:=HG.out;omega);have HBW:=aK hb0;rw [←hb0];have HI:=aK h;have HM:=aK hM;clear h hb0 hM;go_enter Try.func57,Try.ntmps57
  go_wp2_with fail
  go_at_call 43;refine (pick_any _ g 4 w0 _ HI.out (by have:=HM.out;omega) (by omega) (by omega)).mono ?_;rintro e w1 ⟨v,rfl,hv,hi,hk⟩;have HI1:=aK hi;have HK1:=aK (KeepBut.trans (KeepBut.refl w g none) hk (.inl rfl));clear hi hk HI;obtain ⟨n,hn⟩: ∃n,n=2+v:=⟨_,rfl⟩;have q1:IntKind.i64.wrap (2+v)=n:=by rw [hn];exact IntWalk.i64_in _ ⟨by omega,by omega⟩
  have HN:=aK (show 2≤n∧n≤5 by omega);clear hn hv
  go_wp2_with (first|((with_reducible refine gate_dst (N:=12) rfl ?_);refine Kd.R_lit (Kd.int .i64) _ 3 ?hg (N:=12) ?hd (xs:=([1]:List Int)) (inner:=[.int .i64 1]) (ok:=fun _=>True) (okp:=fun _=>True) ?hr ?hp (fun _ hk=>hk) trivial (Below.refl _ _) (Nat.le_refl _) (by simp) ?_;(case hd=>rfl);(case hg=>rfl);(case hr=>first|(go_simp;done)|(go_simp;rfl));(case hp=>exact (Reps.one (show Kd.M (Kd.int .i64) _ _ _ 1 [.int .i64 1] from rfl) (Reps.none _ _)));intro v1 w2 ho hb hg_ hnew_;have HR:=aK (Kd.R_lower ho (show b0≤w1.heap.size by rw [HBW.out];exact keep_size HK1.out));have HI2:=aK (HI1.out.below hb);have HK2:=aK (KeepBut.trans HK1.out (KeepBut.of_below hb g none) (.inl rfl));clear ho hb hg_ hnew_ HI1 HK1;obtain ⟨Ao,co,eo⟩:=Kd.R_slice HR.out;subst eo)|((with_reducible refine gate_dst (N:=14) rfl ?_);refine Kd.S_lits k48 b0 48 ?hg (N:=14) ?hd (xs:=([(⟨(-1),([]:List Int)⟩:S48),(⟨0,[1]⟩:S48)]:List S48)) (inner:=[.int .i64 (-1),.slice none 0 0,.int .i64 0,.slice Ao ([1]:List Int).length co]) (ok:=fun k_=>b0≤k_) (fun j_ k_=>j_=1∧some k_=(Value.slice Ao ([1]:List Int).length co).ownBlock) ?hr rfl ?hp (fun i_ j_ k_ h1_ h2_=>h1_.1.trans h2_.1.symm) (fun j_ k_ h_=>Kd.R_base HR.out k_ h_.2.symm) (by rw [HBW.out];exact keep_size HK2.out) (Below.refl _ _) (by rw [HBW.out];exact keep_size HK2.out) (by simp) ?_;(case hd=>rfl);(case hg=>rfl);(case hr=>first|(go_simp;done)|(go_simp;rfl));(case hp=>intro j x hx;match j,hx with|0,hx=>(obtain rfl:(⟨-1,[]⟩:S48)=x:=(by simpa using hx);exact k48_mkM _ _ _ (⟨-1,[]⟩:S48) (Kd.R_nil _ _ _ _ _))|1,hx=>(obtain rfl:(⟨0,[1]⟩:S48)=x:=(by simpa using hx);exact k48_mkM _ _ _ (⟨0,[1]⟩:S48) (Kd.R_mono (Kd.R_tight rfl HR.out) (fun k_ hk_=>⟨rfl,hk_⟩)))|(j+2),hx=>simp at hx);intro v2 w3 ho hb hg_ hnew_;have HS:=aK ho;have hb2:=pw_below_grown (Below.refl w2.heap.size w2) none (Nat.le_refl _) hg_ (by simp);have HI3:=aK (HI2.out.below hb2);have HK3:=aK (KeepBut.trans HK2.out (KeepBut.of_below hb2 g none) (.inl rfl));clear ho hb hg_ hnew_ hb2 HI2 HK2 HR))
  go_loopw [4,5] (fun v4 v5 wr=> ∃cs:Cs,v5= .int .i64 (cs.length:Int)∧Aside0 (growOk n cs)∧Aside0 ((cs.length:Int)≤n)∧Aside0 (Kd.S k48 48 wr b0 (fun k_=>b0≤k_) v4 cs)∧Aside0 (Rdr (M+1+6*cs.length) w0 wr g)∧Aside0 (KeepBut w wr g none)) (fun _ v5 _=>(n - intOf v5).toNat)
  case atStart=>exact ⟨_,rfl,⟨growOk_two n⟩,⟨by have:=HN.out;simp;omega⟩,HS,⟨HI3.out.le (by simp;omega)⟩,HK3⟩
  case round=>
    clear HS HI3 HK3;obtain ⟨cs,rfl,HGo,HLe,HS,HI,HK⟩:=hrel;by_cases c:(cs.length:Int)<n
    · have d0 : decide ((cs.length : Int) < n) = true := decide_eq_true c
      have h2:=HGo.out.1;have hN:=HN.out;have HC:=aK (show 2≤cs.length∧(cs.length:Int)<n∧n≤5 by omega);clear h2 hN c HLe
      go_wp2_with fail
      go_at_call 43;refine (pick_any _ g cs.length w0 _ HI.out (by have:=HM.out;have:=HC.out;omega) (by have:=HC.out;omega) (by have:=HC.out;omega)).mono ?_;rintro e w1 ⟨s,rfl,hs,hi,hk⟩;have HI1:=aK hi;have HK1:=aK (KeepBut.trans HK.out hk (.inl rfl));have HS1:=aK (Kd.S_keep HS.out hk (fun k_ hk_=>by have:=HG.out;omega));have Hs:=aK hs;have HZ1:=aK (show b0≤w1.heap.size by rw [HBW.out];exact keep_size HK1.out);clear hi hk hs HI HK HS
      go_wp2_with (first|((with_reducible refine gate_dst (N:=6) rfl ?_);refine box_event ?hg (N:=6) ?hd (cs:= #[.int .i64 0,.slice none 0 0]) (t:=48) ?hr ?_;(case hd=>rfl);(case hg=>rfl);(case hr=>first|(go_simp;done)|(go_simp;rfl));intro gb hg w2 hbox hb;have HS2:=aK (show Kd.S k48 48 w2 b0 (fun k_=>b0≤k_∧k_<gb) u4 cs from Kd.S_below (Kd.S_mono (Kd.S_bound HS1.out) (fun k_ hk_=>⟨hk_.1,by rw [hg];exact hk_.2.2.1⟩)) hb);have HI2:=aK (HI1.out.below hb);have HK2:=aK (KeepBut.trans HK1.out (KeepBut.of_below hb g none) (.inl rfl));have BK:=aK hbox;have HGB:=aK (show b0≤gb by rw [hg];exact HZ1.out);clear hb hbox hg HS1 HI1 HK1 HZ1;have c0:=(blk_cell BK.out 0).trans rfl;have c1:=(blk_cell BK.out 1).trans rfl;have f0:=blk_frozen BK.out 0;have f1:=blk_frozen BK.out 1)|(go_at_call 43;refine (pick_any _ g 3 w0 _ (Rdr.far (Rdr.far HI2.out (p:=⟨gb,0,none⟩) (by have:=HG.out;have:=HGB.out;show g≠gb;omega) (by have:=HG0.out;have:=HGB.out;show _≤gb;omega) _) (p:=⟨gb,1,none⟩) (by have:=HG.out;have:=HGB.out;show g≠gb;omega) (by have:=HG0.out;have:=HGB.out;show _≤gb;omega) _) (by have:=HM.out;have:=HC.out;omega) (by omega) (by omega)).mono ?_;rintro e w3 ⟨k0,rfl,hk0,hi,hk⟩;have BK3:=aK (KeepBut.blk hk (upd2 BK.out _ _) (by have:=HG.out;have:=HGB.out;omega) (by simp));have HS3:=aK (Kd.S_keep (Kd.S_far (Kd.S_far HS2.out (p:=⟨gb,0,none⟩) (fun k_ hk_=>by show k_≠gb;omega) _) (p:=⟨gb,1,none⟩) (fun k_ hk_=>by show k_≠gb;omega) _) hk (fun k_ hk_=>by have:=HG.out;omega));have HI3:=aK hi;have HK3:=aK (KeepBut.trans (keep_far (keep_far HK2.out (p:=⟨gb,0,none⟩) (by rw [←HBW.out];exact HGB.out) _) (p:=⟨gb,1,none⟩) (by rw [←HBW.out];exact HGB.out) _) hk (.inl rfl));have Hk0:=aK hk0;have HW3:=aK (show gb<w3.heap.size from blk_lt BK3.out);clear hi hk hk0 BK HS2 HI2 HK2 c0 c1 f0 f1))
      have RV:=aK (show Kd.R (Kd.int .i64) 3 w3 (gb+1) (fun k_=>gb<k_) (.slice none 0 0) [] from Kd.R_nil _ _ _ _ _)
      go_loopw [7] (fun v7 wi=> ∃(x:Int) (fs:List Int) (u:Value),v7= .int .i64 x∧Aside0 (0≤x∧x+fs.length≤2)∧Aside0 (fs.all (fldOk n)=true)∧Aside0 (wi.heap[gb]? =some (.cells #[.int .i64 s,u] 48 (0,0)))∧Aside0 (Kd.R (Kd.int .i64) 3 wi (gb+1) (fun k_=>gb<k_) u fs)∧Aside0 (Kd.S k48 48 wi b0 (fun k_=>b0≤k_∧k_<gb) u4 cs)∧Aside0 (Rdr (M+1+6*cs.length+2+2*fs.length) w0 wi g)∧Aside0 (KeepBut w wi g none)∧Aside0 (gb<wi.heap.size)) (fun v7 _=>(intOf v7).toNat)
      case atStart=>exact ⟨k0,[],_,rfl,⟨by have:=Hk0.out;simp;omega⟩,⟨rfl⟩,BK3,RV,HS3,⟨HI3.out.le (by simp;omega)⟩,HK3,HW3⟩
      case round=>
      clear RV BK3 HS3 HI3 HK3 HW3 Hk0;obtain ⟨x,fs,u,rfl,HX,HF,BK,RV,HS,HI,HK,HW⟩:=hrel;by_cases c2:0<x
      · have d1 : decide (0 < x) = true := decide_eq_true c2
        have HX2:=aK (show 0<x∧x+fs.length≤2 by have:=HX.out;omega);have q2:IntKind.i64.wrap (x - 1)=x - 1:=IntWalk.i64_in _ (by have:=HX.out;omega)
        clear c2 HX;go_wp2;replace BK:=aK (blk_drew BK.out);replace RV:=aK (Kd.R_drew RV.out);replace HS:=aK (Kd.S_drew HS.out);replace HI:=aK HI.out.drew;replace HK:=aK (keep_drew HK.out);replace HW:=aK (show gb<wr.drew.heap.size from HW.out);refine sT 9 (S:=fun w'=>w'.cell? ⟨gb,1,none⟩=some (u)) (ds:=[8]) (((blk_cell BK.out 1).trans rfl)) (fun hHeld=>?_);generalize wr.drew=w4 at BK RV HS HI HK HW hHeld ⊢;refine pS 0 30 #[true,false,false,false,false,false,false,false,false] ?_;refine pS 2 32 #[true,false,true,false,false,false,false,false,false] ?_;refine pS 3 33 #[true,false,true,true,false,false,false,false,false] ?_;refine tS 1 31 #[true,true,true,true,false,false,false,false,false] rfl rfl (by kernel_rfl) hHeld (by intro w' s0;go_simp;with_reducible rfl) ?_;refine oS 4 34 #[true,true,true,true,true,false,false,false,false] rfl rfl (fun K hK=>?_);refine gO Try.func64 #[.pointer (some ⟨g,0,none⟩),.int .i64 n] ?_;(with_reducible refine (field_any _ g n w0 _ HI.out (by have:=HM.out;have:=HC.out;have:=HX2.out;omega) (by have:=HC.out;omega) (by have:=HC.out;omega)).mono ?_);rintro e w5 ⟨t,rfl,ht,hi,hk⟩;refine ⟨_,rfl,?_⟩;have BK5:=aK (KeepBut.blk hk BK.out (by have:=HG.out;have:=HGB.out;omega) (by simp));have R5:=aK (Kd.R_keep RV.out hk (fun k_ hk_=>by have:=HG.out;have:=HGB.out;omega));have HS5:=aK (Kd.S_keep HS.out hk (fun k_ hk_=>by have:=HG.out;omega));have HI5:=aK hi;have HK5:=aK (KeepBut.trans HK.out hk (.inl rfl));have HW5:=aK (show gb<w5.heap.size from blk_lt BK5.out);have Ht:=aK ht;clear hi hk ht BK RV HS HI HK HW;refine hK.out _ _ (((blk_cell BK5.out 1).trans rfl)) (fun hHeld=>?_);clear hK K;refine nS 34 ?_;refine one_ (i:=5) (N:=some 35) #[true,true,true,true,true,true,false,false,false] rfl rfl (by kernel_rfl) (by decide) (fun K hK=>?_);refine value_ (w1:=?_) (v:=?_) (by rfl) rfl ?_ ?_;rotate_left 2
        · go_simp
          constructor
          · rfl
          · rfl
        refine hK.out _ _ (((blk_cell (blk_alloc BK5.out _) 1).trans rfl)) (fun hHeld=>?_);clear hK K;refine nS 35 ?_;refine one_ (i:=6) (N:=some 36) #[true,true,true,true,true,true,true,false,false] rfl rfl (by kernel_rfl) (by decide) (fun K hK=>?_);refine Kd.R_append_step (Kd.int .i64) (gb+1) (by rfl) (.tmp 31) (.tmp 35) 23 3 (.int .i64 0) 8 rfl Try.underlying23 info3 rfl (by decide) (by omega) u fs t [.int .i64 t] (fun k_=>gb<k_) (fun _=>False) rfl rfl ?aP (fun _ hk=>hk.elim) ?aF ?aO (Below.refl _ _) ?aS ?aL ?_
        (case aP=>exact rfl)
        (case aF=>exact fun k_ hk_=>by have:=HW5.out;omega)
        (case aO=>exact R5.out)
        (case aS=>have:=HW5.out;omega)
        (case aL=>have:=HX2.out;omega)
        intro v6 w6 ho hbn hgr hat;have BK6:=aK (blk_grown BK5.out hgr (fun e_=>by have:=R5.out.1 gb e_.symm;omega));obtain ⟨AN,cN,eN⟩:=Kd.R_slice ho;subst eN;have R6:=aK ho;have HS6:=aK (S_grown2 HS5.out hgr (fun k_ hk_ e_=>by have:=R5.out.1 k_ e_.symm;omega));have HI6:=aK (HI5.out.grown hgr (fun e_=>by have:=R5.out.1 g e_.symm;have:=HG.out;have:=HGB.out;omega) (fun k_ e_=>by have:=R5.out.1 k_ e_;have:=HG0.out;have:=HGB.out;omega));have HK6:=aK (KeepBut.trans HK5.out (KeepBut.of_grown hgr g) (by rw [←HBW.out];exact Kd.R_base2 (Kd.R_lower R5.out (by have:=HGB.out;omega))));have HW6:=aK (show gb<w6.heap.size from blk_lt BK6.out);have o6:=(blk_cell BK6.out 1).trans rfl;have y6:=blk_frozen BK6.out 1;clear ho hbn hgr hat BK5 R5 HS5 HI5 HK5 HW5;refine hK.out _ _ (((blk_cell BK6.out 1).trans rfl)) (fun hHeld=>?_);clear hK K;refine nS 36 ?_;refine pS 7 37 #[true,true,true,true,true,true,true,true,false] ?_;refine last_ (i:=8) (N:=none) #[true,true,true,true,true,true,true,true,true] rfl rfl (by kernel_rfl) (by decide) (fun K hK=>?_);refine skip_ (w1:=?_) (by rfl) rfl ?_ ?_;rotate_left
        · go_simp
          rfl
        refine hK.out _ _ ?_;clear hK K;refine done_ (by kernel_rfl) ?_;go_wp2
        go_roundw
        case rel=>exact ⟨x - 1,fs++[t],_,rfl,⟨by have:=HX2.out;simp;omega⟩,⟨by rw [List.all_append,HF.out];simpa using Ht.out⟩,⟨blk_put BK6.out 1 _ rfl⟩,⟨by rw [show fs.length+1=(fs++[t]).length by simp];exact Kd.R_far (p:=⟨gb,1,none⟩) R6.out (fun k_ hk_=>by show k_≠gb;omega) _⟩,⟨Kd.S_far (p:=⟨gb,1,none⟩) HS6.out (fun k_ hk_=>by show k_≠gb;omega) _⟩,⟨(Rdr.far HI6.out (p:=⟨gb,1,none⟩) (by have:=HG.out;have:=HGB.out;show g≠gb;omega) (by have:=HG0.out;have:=HGB.out;show _≤gb;omega) _).le (by simp;omega)⟩,⟨keep_far HK6.out (p:=⟨gb,1,none⟩) (by rw [←HBW.out];exact HGB.out) _⟩,⟨by have:=HW6.out;simpa using this⟩⟩
        case measure=>have:=HX2.out;simp only [intOf];omega
      · have d1 : decide (0 < x) = false := decide_eq_false c2
        obtain ⟨AV,cV,rfl⟩:=Kd.R_slice RV.out;have o0:=(blk_cell BK.out 0).trans rfl;have o1:=(blk_cell BK.out 1).trans rfl;clear c2
        go_wp2_with ((with_reducible refine gate_builtin (b:= .append) (xs:= #[.tmp 38,.tmp 40]) rfl ?_);at_builtin;refine Kd.S_append k48 (w0:=wr) b0 rfl (.tmp 38) (.tmp 40) 30 48 (.agg #[(.int .i64 0),(.slice none 0 0)]) 32 rfl Try.underlying30 info48 rfl (by decide) (by omega) u4 cs (⟨s,fs⟩:S48) [.int .i64 s,.slice AV fs.length cV] (fun k_=>b0≤k_) (fun k_=>gb<k_) rfl (by first|rfl|(go_simp;done)|(go_simp;rfl)) ?aP ?aK ?aF ?aO ?aB ?aS ?aL ?_;(case aP=>exact k48_mkM _ _ _ (⟨s,fs⟩:S48) (Kd.R_lower RV.out (by have:=HGB.out;omega)));(case aK=>exact fun k_ hk_=>⟨by have:=HGB.out;omega,fun e_=>by have:=(Kd.S_R HS.out).1 k_ e_.symm;omega⟩);(case aF=>exact fun k_ hk_=>by have:=HW.out;have:=HGB.out;omega);(case aO=>exact Kd.S_mono HS.out (fun k_ hk_=>⟨hk_.1,by omega⟩));(case aB=>exact Below.refl _ _);(case aS=>have:=HW.out;have:=HGB.out;omega);(case aL=>have:=HC.out;omega);intro v9 w9 ho hbn hgr hat;have HS9:=aK ho;have HI9:=aK (HI.out.grown hgr (fun e_=>by have:=Kd.S_base HS.out g e_.symm;have:=HG.out;omega) (fun k_ e_=>by have:=Kd.S_base HS.out k_ e_;have:=HG0.out;omega));have HK9:=aK (KeepBut.trans HK.out (KeepBut.of_grown hgr g) (by rw [←HBW.out];exact Kd.S_base2 HS.out));clear ho hbn hgr hat o0 o1)
        have q3:wrap64 ((cs.length:Int)+1)=((cs++[(⟨s,fs⟩:S48)]).length:Int):=by have:=HC.out;unfold wrap64;simp;omega
        go_roundw
        case rel=>exact ⟨cs++[⟨s,fs⟩],by rw [q3],⟨growOk_snoc HGo.out Hs.out.1 Hs.out.2 (by have:=HX.out;omega) HF.out⟩,⟨by have:=HC.out;simp;omega⟩,HS9,⟨HI9.out.le (by have:=HX.out;simp;omega)⟩,HK9⟩
        case measure=>rw [q3];have:=HC.out;simp only [intOf];simp;omega
    · have d0 : decide ((cs.length : Int) < n) = false := decide_eq_false c
      have hle:=HLe.out;have HE:=aK (show (cs.length:Int)=n by omega);clear c hle;go_wp2;go_ret;exact ⟨u4,cs,rfl,⟨growOk_ok HGo.out HE.out (by have:=HN.out;omega),growOk_few HGo.out⟩,Kd.S_mono HS.out (fun _ _=>trivial),HI.out.le (by have:=HE.out;have:=HN.out;omega),HK.out⟩
def OffP (M:Int) (w0 w:World) (g:Nat) (e:Ending) (w':World):Prop:= ∃(A:Option Addr) (c:Nat) (cs:Cs),e= .returned (.slice A cs.length c)∧(1≤cs.length∧cs.length≤9∧cs.length≤c)∧(∀x∈cs,x.f1.length≤3)∧Kd.V k48 48 w' w.heap.size (fun k_=>w.heap.size≤k_) (.slice A cs.length c) cs∧Rdr (M+60) w0 w' g∧KeepBut w w' g none
theorem off_ret {M L:Int} {w0 w w':World} {g b0:Nat} (hb0:b0=w.heap.size) {v:Value} {cs:Cs} (hS:Kd.S k48 48 w' b0 (fun k_=>b0≤k_) v cs) (hg:g<b0) (h1:1≤cs.length∧cs.length≤9) (hf: ∀x∈cs,x.f1.length≤3) (hi:Rdr L w0 w' g) (hL:L≤M+60) (hk:KeepBut w w' g none):OffP M w0 w g (.returned v) w':=by
 subst hb0;obtain ⟨A,c,rfl,hc,_⟩:=Kd.S_reads hS;exact ⟨A,c,cs,rfl,⟨h1.1,h1.2,hc⟩,hf,Kd.S_V hS,hi.le hL,hk⟩
theorem off_retV {M L:Int} {w0 w w':World} {g b0:Nat} (hb0:b0=w.heap.size) {v:Value} {cs:Cs} (hS:Kd.V k48 48 w' b0 (fun k_=>b0≤k_) v cs) (hg:g<b0) (h1:1≤cs.length∧cs.length≤9) (hf: ∀x∈cs,x.f1.length≤3) (hi:Rdr L w0 w' g) (hL:L≤M+60) (hk:KeepBut w w' g none):OffP M w0 w g (.returned v) w':=by
 subst hb0;obtain ⟨A,c,rfl,hc,_⟩:=id hS;exact ⟨A,c,cs,rfl,⟨h1.1,h1.2,hc⟩,hf,hS,hi.le hL,hk⟩
theorem cls_put {W:World} {b0 gs cap:Nat} {cs:Cs} {ok:Nat→Prop} (hS:Kd.S k48 48 W b0 ok (.slice (some ⟨gs,0,none⟩) cs.length cap) cs) {j:Nat} (hj:j<cs.length): ∃(x:S48) (u:Value) (oki:Nat→Prop),cs[j]? =some x∧W.cell? ⟨gs,j*2,none⟩=some (.int .i64 x.f0)∧W.cell? ⟨gs,j*2+1,none⟩=some u∧W.frozen? ⟨gs,j*2,none⟩=false∧W.frozen? ⟨gs,j*2+1,none⟩=false∧Kd.R (Kd.int .i64) 3 W b0 oki u x.f1∧(∀k,oki k→ok k∧k≠gs)∧
  Kd.H k48 48 W b0 ok (.slice (some ⟨gs,0,none⟩) cs.length cap) cs (j:Int) oki [.int .i64 x.f0,u]∧(∀y:Int,Kd.S k48 48 (W.setCell ⟨gs,j*2,none⟩ (.int .i64 y)) b0 ok (.slice (some ⟨gs,0,none⟩) cs.length cap) (cs.set j ⟨y,x.f1⟩))∧Kd.S k48 48 (W.setCell ⟨gs,j*2+1,none⟩ (.slice none 0 0)) b0 ok (.slice (some ⟨gs,0,none⟩) cs.length cap) (cs.set j ⟨x.f0,[]⟩):=by
 obtain ⟨oki,cc,hcl,hM,hcc,hoki,hH⟩:=Kd.S_lend hS z48 (j:Int) (by omega) (by omega);obtain ⟨x,hx⟩: ∃x,x=cs.getD ((j:Int)).toNat z48:=⟨_,rfl⟩;rw [←hx] at hM;obtain ⟨u,hc1,hr1⟩:=k48_openM hM;subst hc1;obtain ⟨hc0,hfr⟩:=Kd.H_at hH (by omega) (by omega);refine ⟨x,u,oki,?_,hc0 0 _ rfl,hc0 1 _ rfl,hfr 0,hfr 1,hr1,hoki,hH,fun y=>?_,?_⟩
 ·rw [hx,Int.toNat_natCast,List.getD_eq_getElem?_getD,List.getElem?_eq_getElem hj];rfl
 ·exact (Kd.S_seg0 (seg:=[.int .i64 y]) (j:=0) (x':=⟨y,x.f1⟩) hH (by omega) (by omega) (show 0+1≤2 by omega) (k48_mkM W b0 oki ⟨y,x.f1⟩ hr1) (fun _ hk=>hk)).1
 ·exact (Kd.S_seg0 (seg:=[.slice none 0 0]) (j:=1) (x':=⟨x.f0,[]⟩) hH (by omega) (by omega) (show 1+1≤2 by omega) (k48_mkM W b0 oki ⟨x.f0,[]⟩ (Kd.R_nil _ _ _ _ _)) (fun _ hk=>hk)).1
theorem few_set {cs:Cs} (h: ∀x∈cs,x.f1.length≤3) {j:Nat} {y:S48} (hy:y.f1.length≤3): ∀x∈cs.set j y,x.f1.length≤3:=fun x hx=>by
 rcases List.mem_or_eq_of_mem_set hx with z|z
 ·exact h x z
 ·rw [z];exact hy
set_option maxHeartbeats 16000000 in
set_option maxRecDepth 100000 in
theorem off_any (M:Int) (g:Nat) (w0 w:World) (h:Rdr M w0 w g) (hM:M≤600000):Calls Try.prog 42 #[.pointer (some ⟨g,0,none⟩)] w (OffP M w0 w g):=by
 obtain ⟨b0,hb0⟩: ∃b,b=w.heap.size:=⟨_,rfl⟩;have HG:=aK (show g<b0 by rw [hb0];exact h.lt);have HG0:=aK (show w0.heap.size≤b0 by have:=h.ge;have:=HG.out;omega);have HBW:=aK hb0;have HI:=aK h;have HM:=aK hM;clear h hb0 hM;go_enter Try.func42,Try.ntmps42
 go_wp2_with fail
 go_at_call 57;refine (classes_any M g w0 _ HI.out (by have:=HM.out;omega)).mono ?_;rintro e w1 ⟨v,cs,rfl,⟨hok,h2⟩,hS,hi,hk⟩;have hl:=csOk_len hok;have HF:=aK (show∀x∈cs,x.f1.length≤3 from fun x hx=>by have:=h2 x hx;omega);have HF2:=aK h2;have HL:=aK hl;obtain ⟨gs,cap,rfl,hgs,_,_⟩:=Kd.S_form hS (by omega);have HS1:=aK (show Kd.S k48 48 w1 b0 (fun k_=>b0≤k_) (.slice (some ⟨gs,0,none⟩) cs.length cap) cs by rw [HBW.out];exact Kd.S_mono (Kd.S_bound hS) (fun k_ hk_=>hk_.2.1));have HI1:=aK hi;have HK1:=aK hk;have HGS:=aK (show b0≤gs by rw [HBW.out];exact hgs);clear hok h2 hl hS hi hk hgs HI
 go_wp2_with fail
 go_at_call 43;refine (pick_any _ g 20 w0 _ HI1.out (by have:=HM.out;omega) (by have:=HL.out;omega) (by have:=HL.out;omega)).mono ?_;rintro e w2 ⟨q,rfl,hq,hi,hk⟩;have HI2:=aK hi;have HK2:=aK (KeepBut.trans HK1.out hk (.inl rfl));have HS2:=aK (Kd.S_keep HS1.out hk (fun k_ hk_=>by have:=HG.out;omega));clear hi hk HI1 HK1 HS1;by_cases c:0<q
 ·have d : decide (0 < q) = true := decide_eq_true c
  clear c hq;go_wp2;go_ret;exact off_ret HBW.out HS2.out HG.out (by have:=HL.out;(try simp);omega) HF.out HI2.out (by omega) HK2.out
 ·have d : decide (0 < q) = false := decide_eq_false c
  clear c hq
  go_wp2_with fail
  go_at_call 43;refine (pick_any _ g cs.length w0 _ HI2.out (by have:=HM.out;omega) (by have:=HL.out;omega) (by have:=HL.out;omega)).mono ?_;rintro e w3 ⟨k,rfl,hk0,hi,hk⟩;have HI3:=aK hi;have HK3:=aK (KeepBut.trans HK2.out hk (.inl rfl));have HS3:=aK (Kd.S_keep HS2.out hk (fun k_ hk_=>by have:=HG.out;omega));clear hi hk HI2 HK2 HS2;obtain ⟨j,rfl⟩:=Int.eq_ofNat_of_zero_le hk0.1;have HJ:=aK (show j<cs.length by have:=hk0.2;omega);clear hk0
  go_wp2_with fail
  go_at_call 43;refine (pick_any _ g 6 w0 _ HI3.out (by have:=HM.out;omega) (by have:=HL.out;omega) (by have:=HL.out;omega)).mono ?_;rintro e w4 ⟨s,rfl,hs,hi,hk⟩;have HI4:=aK hi;have HK4:=aK (KeepBut.trans HK3.out hk (.inl rfl));have HS4:=aK (Kd.S_keep HS3.out hk (fun k_ hk_=>by have:=HG.out;omega));clear hi hk HI3 HK3 HS3;have hs6:s=0∨s=1∨s=2∨s=3∨s=4∨s=5:=by omega
  clear hs;have p1:=eq_true (show (0:Int)≤(j:Int) by omega);have p2:=eq_true (show (j:Int)<(cs.length:Int) by have:=HJ.out;omega);rcases hs6 with rfl|rfl|rfl|rfl|rfl|rfl
  ·skip
   go_wp2_with fail
   go_at_call 43;refine (pick_any _ g 7 w0 _ HI4.out (by have:=HM.out;omega) (by have:=HL.out;omega) (by have:=HL.out;omega)).mono ?_;rintro e w5 ⟨y,rfl,hy,hi,hk⟩;have HI5:=aK hi;have HK5:=aK (KeepBut.trans HK4.out hk (.inl rfl));have HS5:=aK (Kd.S_keep HS4.out hk (fun k_ hk_=>by have:=HG.out;omega));clear hi hk HI4 HK4 HS4;obtain ⟨x,u,oki,hxj,c0,c1,f0,f1,hr,hoki,hH,hp0,hp1⟩:=cls_put HS5.out HJ.out;have q1:IntKind.i64.wrap (y - 1)=y - 1:=IntWalk.i64_in _ (by omega)
   have HP0:=aK hp0;have HX:=aK (show x.f1.length≤3 from HF.out x (List.mem_of_getElem? hxj));clear hy hxj hr hoki hH hp0 hp1;go_wp2;go_ret;exact off_ret HBW.out (HP0.out _) HG.out (by have:=HL.out;(try simp);omega) (few_set HF.out HX.out) (Rdr.far HI5.out (p:=⟨gs,j*2,none⟩) (by have:=HG.out;have:=HGS.out;show g≠gs;omega) (by have:=HG0.out;have:=HGS.out;show _≤gs;omega) _) (by omega) (keep_far HK5.out (p:=⟨gs,j*2,none⟩) (by rw [←HBW.out];exact HGS.out) _)
  ·skip
   obtain ⟨x,u,oki,hxj,c0,c1,f0,f1,hr,hoki,hH,hp0,hp1⟩:=cls_put HS4.out HJ.out;obtain ⟨A2,c2,rfl⟩:=Kd.R_slice hr;have HH:=aK hH;have HR:=aK hr;have HOk:=aK hoki;have HX:=aK (show x.f1.length≤2 from HF2.out x (List.mem_of_getElem? hxj));have HGL:=aK (show gs<w4.heap.size from Kd.S_lt HS4.out gs (by simp [Value.ownBlock]));clear hxj hr hoki hH hp0 hp1 c0 f0 f1 HS4;go_wp2;replace HH:=aK (Kd.H_drew HH.out);replace HR:=aK (Kd.R_drew HR.out);replace HI4:=aK HI4.out.drew;replace HK4:=aK (keep_drew HK4.out);replace HGL:=aK (show gs<w4.drew.heap.size from HGL.out);have HW4:=aK (KeepBut.refl w4.drew g none);refine sT 17 (S:=fun w'=>w'.cell? ⟨gs,j*2+1,none⟩=some (.slice A2 x.f1.length c2)) (ds:=[16]) ((by exact c1)) (fun hHeld=>?_);generalize w4.drew=w4a at HH HR HI4 HK4 HGL HW4 hHeld ⊢;refine pS 0 32 (lA 17 1) ?_;refine pS 1 33 (lA 17 3) ?_;refine pS 2 34 (lA 17 7) ?_;refine pS 3 35 (lA 17 15) ?_;refine pS 4 36 (lA 17 31) ?_;refine pS 5 37 (lA 17 63) ?_;refine pS 8 40 (lA 17 319) ?_;refine tS 6 38 (lA 17 383) rfl rfl (by kernel_rfl) hHeld (by intro w' s0;go_simp;with_reducible rfl) ?_;refine join_ (σ:=Nat×Int) 7 (lA 17 1023) (fun s=>[(39,.slice (some ⟨s.1,0,none⟩) 4 4),(41,.int .i64 s.2)]) (fun s w'=>(0≤s.2∧s.2<4)∧w'.heap[s.1]? =some (.cells #[.int .i64 0,.int .i64 2,.int .i64 13,.int .i64 5] 3 (0,0))∧Rdr (M+40+1+1+1+1) w0 w' g∧KeepBut w w' g none∧KeepBut w4a w' g none∧Kd.H k48 48 w' b0 (fun k_=>b0≤k_) (.slice (some ⟨gs,0,none⟩) cs.length cap) cs (j:Int) oki [.int .i64 x.f0,.slice A2 x.f1.length c2]∧(w'.cell? ⟨gs,j*2+1,none⟩=some (.slice A2 x.f1.length c2))) ?_ ?_;rotate_left
   ·intro hCont
    refine two_ (i:=7) (j:=9) (Ni:=some 39) (Nj:=some 41) (lA 17 511) (lA 17 895) rfl rfl rfl rfl (by kernel_rfl) (by decide) (by decide) (fun K hK=>?_) (fun K hK=>?_)
    ·skip
     refine value_ (w1:=?_) (v:=?_) (by rfl) rfl ?_ ?_;rotate_left 2
     ·go_simp
      constructor
      ·rfl
      ·rfl
     refine hK.out _ _ ((pw_cell_below (below_alloc (Below.refl _ _) _) hHeld)) (fun hHeld=>?_);clear hK K;refine nS 39 ?_;refine oS 9 41 (lA 17 1023) rfl rfl (fun K hK=>?_);refine gO Try.func43 #[.pointer (some ⟨g,0,none⟩),.int .i64 4] ?_;(with_reducible refine (pick_any _ g 4 w0 _ (HI4.out.alloc (.cells #[.int .i64 0,.int .i64 2,.int .i64 13,.int .i64 5] 3 (0,0))) (by have:=HM.out;omega) (by omega) (by omega)).mono ?_);rintro e w5 ⟨y,rfl,hy,hi,hk⟩;refine ⟨_,rfl,?_⟩;have HL5:=aK (KeepBut.blk hk (blk_new w4a (.cells #[.int .i64 0,.int .i64 2,.int .i64 13,.int .i64 5] 3 (0,0))) (by have:=HG.out;have:=HGL.out;have:=HGS.out;omega) (by simp));have HH5:=aK (Kd.H_keep (Kd.H_alloc HH.out (.cells #[.int .i64 0,.int .i64 2,.int .i64 13,.int .i64 5] 3 (0,0))) hk (fun k_ hk_=>by have:=HG.out;omega));have HK5:=aK (KeepBut.trans (keep_alloc HK4.out (.cells #[.int .i64 0,.int .i64 2,.int .i64 13,.int .i64 5] 3 (0,0))) hk (.inl rfl));have HW5:=aK (KeepBut.trans (keep_alloc HW4.out (.cells #[.int .i64 0,.int .i64 2,.int .i64 13,.int .i64 5] 3 (0,0))) hk (.inl rfl));have HI5:=aK hi;have hy5:=aK hy;clear hi hk hy;refine hK.out _ _ (((Kd.H_at HH5.out (by omega) (by have:=HJ.out;omega)).1 1 _ rfl)) (fun hHeld=>?_);clear hK K;refine nS 41 ?_;exact norm_ zz8 (hCont (w4a.heap.size,y) _ ⟨hy5.out,HL5.out,HI5.out,HK5.out,HW5.out,HH5.out,hHeld⟩)
    ·skip
     refine gO Try.func43 #[.pointer (some ⟨g,0,none⟩),.int .i64 4] ?_;(with_reducible refine (pick_any _ g 4 w0 _ HI4.out (by have:=HM.out;omega) (by omega) (by omega)).mono ?_);rintro e w5 ⟨y,rfl,hy,hi,hk⟩;refine ⟨_,rfl,?_⟩;have HH5:=aK (Kd.H_keep HH.out hk (fun k_ hk_=>by have:=HG.out;omega));have HK5:=aK (KeepBut.trans HK4.out hk (.inl rfl));have HW5:=aK (KeepBut.trans HW4.out hk (.inl rfl));have HI5:=aK hi;have hy5:=aK hy;clear hi hk hy;refine hK.out _ _ (((Kd.H_at HH5.out (by omega) (by have:=HJ.out;omega)).1 1 _ rfl)) (fun hHeld=>?_);clear hK K;refine nS 41 ?_;refine one_ (i:=7) (N:=some 39) (lA 17 1023) rfl rfl (by kernel_rfl) (by decide) (fun K hK=>?_);refine value_ (w1:=?_) (v:=?_) (by rfl) rfl ?_ ?_;rotate_left 2
     ·go_simp
      constructor
      ·rfl
      ·rfl
     refine hK.out _ _ ((pw_cell_below (below_alloc (Below.refl _ _) _) hHeld)) (fun hHeld=>?_);clear hK K;refine nS 39 ?_;exact norm_ zz8 (hCont (w5.heap.size,y) _ ⟨hy5.out,blk_new w5 _,HI5.out.alloc _,keep_alloc HK5.out _,keep_alloc HW5.out _,Kd.H_alloc HH5.out _,hHeld⟩)
   rintro ⟨gl,y⟩ w5 ⟨hy,hl,hi,hk,hkw,hH,hHeld⟩;have HW5:=aK hkw;have HI5:=aK hi;have HK5:=aK hk;have HH5:=aK hH;have q5:=eq_true hy.1;have q6:=eq_true hy.2
   obtain ⟨z,hz⟩: ∃z,w5.cell? ⟨gl,y.toNat,none⟩=some (.int .i64 z):=by
    have h4:y.toNat=0∨y.toNat=1∨y.toNat=2∨y.toNat=3:=by omega
    rcases h4 with h4|h4|h4|h4<;>rw [h4]
    ·exact ⟨_,(blk_cell hl 0).trans rfl⟩
    ·exact ⟨_,(blk_cell hl 1).trans rfl⟩
    ·exact ⟨_,(blk_cell hl 2).trans rfl⟩
    ·exact ⟨_,(blk_cell hl 3).trans rfl⟩
   clear hi hk hkw hH hl hy HH HK4 HI4;refine norm_ (a':=?_) ?_ ?_;rotate_left
   ·simp only [putAll, Act.put, List.setIfInBounds_toArray, List.set_cons_zero, List.set_cons_succ]
    rfl
   refine pS 10 42 (lA 17 2047) ?_;refine one_ (i:=11) (N:=some 43) (lA 17 4095) rfl rfl (by kernel_rfl) (by decide) (fun K hK=>?_);refine value_ (w1:=?_) (v:=?_) (by rfl) rfl ?_ ?_;rotate_left 2
   ·go_simp
    constructor
    ·rfl
    ·rfl
   refine hK.out _ _ (hHeld) (fun hHeld=>?_);clear hK K;refine nS 43 ?_;refine one_ (i:=12) (N:=some 44) (lA 17 8191) rfl rfl (by kernel_rfl) (by decide) (fun K hK=>?_);refine value_ (w1:=?_) (v:=?_) (by rfl) rfl ?_ ?_;rotate_left 2
   ·go_simp
    constructor
    ·rfl
    ·rfl
   refine hK.out _ _ ((pw_cell_below (below_alloc (Below.refl _ _) _) hHeld)) (fun hHeld=>?_);clear hK K;refine nS 44 ?_;refine one_ (i:=13) (N:=some 45) (lA 17 16383) rfl rfl (by kernel_rfl) (by decide) (fun K hK=>?_);have HZ5:=aK (show b0≤w5.heap.size by rw [HBW.out];exact keep_size HK5.out);refine Kd.R_append_step (Kd.int .i64) b0 (by rfl) (.tmp 38) (.tmp 44) 23 3 (.int .i64 0) 8 rfl Try.underlying23 info3 rfl (by decide) (by omega) (.slice A2 x.f1.length c2) x.f1 z [.int .i64 z] (fun k_=>oki k_∨b0≤k_∧w5.heap.size≤k_) (fun _=>False) rfl rfl ?aP (fun _ hk=>hk.elim) ?aF ?aO (Below.refl _ _) ?aS ?aL ?_
   (case aP=>exact rfl)
   (case aF=>exact fun k_ hk_=> .inr ⟨by have:=HZ5.out;omega,hk_⟩)
   (case aO=>exact Kd.R_mono (Kd.R_keep HR.out HW5.out (fun k_ hk_=>by have:=(HOk.out k_ hk_).1;have:=HG.out;omega)) (fun _ h_=> .inl h_))
   (case aS=>exact HZ5.out)
   (case aL=>have:=HX.out;omega)
   intro v8 w8 ho hbn hgr hat;obtain ⟨AN,cN,eN⟩:=Kd.R_slice ho;subst eN;have hbs: ∀k,(Value.slice A2 x.f1.length c2).ownBlock=some k→b0≤k:=fun k hk=>(HOk.out k (HR.out.1 k hk)).1
   have HH8:=aK (Kd.H_grown (Kd.H_widen HH5.out) hgr (fun k_ e_=> .inl (HR.out.1 k_ e_)));have HI8:=aK (HI5.out.grown hgr (fun e_=>by have:=hbs g e_.symm;have:=HG.out;omega) (fun k_ e_=>by have:=hbs k_ e_;have:=HG0.out;omega));have HK8:=aK (KeepBut.trans HK5.out (KeepBut.of_grown hgr g) (by rw [←HBW.out];exact Kd.R_base2 HR.out));have HS8:=aK (show Kd.S k48 48 (w8.setCell ⟨gs,j*2+1,none⟩ (.slice AN (x.f1.length+1) cN)) b0 (fun k_=>b0≤k_) (.slice (some ⟨gs,0,none⟩) cs.length cap) (cs.set j ⟨x.f0,x.f1++[z]⟩) by rw [show x.f1.length+1=(x.f1++[z]).length by simp];exact (Kd.S_seg0 (seg:=[.slice AN (x.f1++[z]).length cN]) (j:=1) (x':=⟨x.f0,x.f1++[z]⟩) HH8.out (by omega) (by have:=HJ.out;omega) (show 1+1≤2 by omega) (k48_mkM w8 b0 _ ⟨x.f0,x.f1++[z]⟩ ho) (fun _ h_=>h_)).1);have o8:w8.cell? ⟨gs,j*2+1,none⟩=_:=((Kd.H_at HH8.out (by omega) (by have:=HJ.out;omega)).1 1 _ rfl)
   have y8:w8.frozen? ⟨gs,j*2+1,none⟩=false:=(Kd.H_at HH8.out (by omega) (by have:=HJ.out;omega)).2 1
   clear ho hbn hgr hat hbs HH5 HI5 HK5;refine hK.out _ _ (o8) (fun hHeld=>?_);clear hK K;refine nS 45 ?_;refine pS 14 46 (lA 17 32767) ?_;refine pS 15 47 (lA 17 65535) ?_;refine last_ (i:=16) (N:=none) (lA 17 131071) rfl rfl (by kernel_rfl) (by decide) (fun K hK=>?_);refine skip_ (w1:=?_) (by rfl) rfl ?_ ?_;rotate_left
   ·go_simp
    rfl
   refine hK.out _ _ ?_;clear hK K;refine done_ (by kernel_rfl) ?_;go_wp2;go_ret;exact off_ret HBW.out HS8.out HG.out (by have:=HL.out;(try simp);omega) (few_set HF.out (by have:=HX.out;simp;omega)) (Rdr.far HI8.out (p:=⟨gs,j*2+1,none⟩) (by have:=HG.out;have:=HGS.out;show g≠gs;omega) (by have:=HG0.out;have:=HGS.out;show _≤gs;omega) _) (by omega) (keep_far HK8.out (p:=⟨gs,j*2+1,none⟩) (by rw [←HBW.out];exact HGS.out) _)
  ·skip
   have p3:=eq_true (show (1:Int)≤(cap:Int) by have:=(Kd.S_reads' HS4.out).2.1;have:=HL.out;omega);have p4:(1:Nat)≤cap:=by have:=(Kd.S_reads' HS4.out).2.1;have:=HL.out;omega
   go_wp2;go_ret;exact off_ret HBW.out (Kd.S_take (m:=1) HS4.out (by have:=HL.out;omega)) HG.out (by have:=HL.out;simp;omega) (fun x hx=>HF.out x (List.mem_of_mem_take hx)) HI4.out (by omega) HK4.out
  ·skip
   obtain ⟨x,u,oki,hxj,c0,c1,f0,f1,hr,hoki,hH,hp0,hp1⟩:=cls_put HS4.out (show 1<cs.length by have:=HL.out;omega);obtain ⟨A2,c2,rfl⟩:=Kd.R_slice hr;have HR:=aK hr;have HOk:=aK hoki;have HX:=aK (show x.f1.length≤3 from HF.out x (List.mem_of_getElem? hxj));have HGL:=aK (show gs<w4.heap.size from Kd.S_lt HS4.out gs (by simp [Value.ownBlock]));have p5:=eq_true (show (1:Int)<(cs.length:Int) by have:=HL.out;omega);have c0':w4.cell? ⟨gs,2,none⟩=some (.int .i64 x.f0):=c0
   have c1':w4.cell? ⟨gs,3,none⟩=some (.slice A2 x.f1.length c2):=c1
   clear hxj hr hoki hH hp0 hp1 c0 c1 f0 f1;go_wp2;replace HS4:=aK (Kd.S_drew HS4.out);replace HR:=aK (Kd.R_drew HR.out);replace HI4:=aK HI4.out.drew;replace HK4:=aK (keep_drew HK4.out);replace HGL:=aK (show gs<w4.drew.heap.size from HGL.out);refine sT 16 (S:=fun w'=>w'.cell? ⟨gs,2,none⟩=some (.int .i64 x.f0)∧w'.cell? ⟨gs,3,none⟩=some (.slice A2 x.f1.length c2)) (ds:=[14]) ⟨c0',c1'⟩ (fun hHeld=>?_);generalize w4.drew=w4a at HS4 HR HI4 HK4 HGL hHeld ⊢;refine pS 0 54 (lA 16 1) ?_;refine pS 1 55 (lA 16 3) ?_;refine pS 2 56 (lA 16 7) ?_;refine pS 4 58 (lA 16 23) ?_;refine pS 5 59 (lA 16 55) ?_;refine pS 7 61 (lA 16 183) ?_;refine pS 8 62 (lA 16 439) ?_;refine pS 10 64 (lA 16 1463) ?_;refine pS 11 65 (lA 16 3511) ?_;refine tS 3 57 (lA 16 3519) rfl rfl (by kernel_rfl) hHeld (by rintro w' ⟨s0,s1⟩;go_simp;with_reducible rfl) ?_;refine tS 6 60 (lA 16 3583) rfl rfl (by kernel_rfl) hHeld (by rintro w' ⟨s0,s1⟩;go_simp;with_reducible rfl) ?_;refine tS 9 63 (lA 16 4095) rfl rfl (by kernel_rfl) hHeld (by rintro w' ⟨s0,s1⟩;go_simp;with_reducible rfl) ?_;refine tS 12 66 (lA 16 8191) rfl rfl (by kernel_rfl) hHeld (by rintro w' ⟨s0,s1⟩;go_simp;with_reducible rfl) ?_;refine one_ (i:=13) (N:=some 67) (lA 16 16383) rfl rfl (by kernel_rfl) (by decide) (fun K hK=>?_);have HZ:=aK (show b0≤w4a.heap.size by rw [HBW.out];exact keep_size HK4.out);refine Kd.N_lit_step k48 _ 48 ?hg (N':=67) ?hd (xs:=([x,x,x,x]:List S48)) (inner:=[.int .i64 x.f0,.slice A2 x.f1.length c2,.int .i64 x.f0,.slice A2 x.f1.length c2,.int .i64 x.f0,.slice A2 x.f1.length c2,.int .i64 x.f0,.slice A2 x.f1.length c2]) (ok:=(fun k_=>b0≤k_∧k_≠gs)) (okp:=(fun k_=>b0≤k_∧k_≠gs)) ?hr ?hp (fun _ hk=>hk) ⟨HZ.out,by have:=HGL.out;omega⟩ (Below.refl _ _) (Nat.le_refl _) (by simp) ?_
   (case hd=>rfl)
   (case hg=>rfl)
   (case hr=>first|(go_simp;done)|(go_simp;rfl))
   (case hp=>exact Reps.c2 (show Kd.FK k48 _ _ x [.int .i64 x.f0,.slice A2 x.f1.length c2] from fun W2_ hW_=>k48_mk W2_ x (Kd.R_reads' HR.out).2.1 (Kd.R_F (Kd.R_mono HR.out HOk.out) W2_ hW_)) (Reps.c2 (show Kd.FK k48 _ _ x [.int .i64 x.f0,.slice A2 x.f1.length c2] from fun W2_ hW_=>k48_mk W2_ x (Kd.R_reads' HR.out).2.1 (Kd.R_F (Kd.R_mono HR.out HOk.out) W2_ hW_)) (Reps.c2 (show Kd.FK k48 _ _ x [.int .i64 x.f0,.slice A2 x.f1.length c2] from fun W2_ hW_=>k48_mk W2_ x (Kd.R_reads' HR.out).2.1 (Kd.R_F (Kd.R_mono HR.out HOk.out) W2_ hW_)) (Reps.c2 (show Kd.FK k48 _ _ x [.int .i64 x.f0,.slice A2 x.f1.length c2] from fun W2_ hW_=>k48_mk W2_ x (Kd.R_reads' HR.out).2.1 (Kd.R_F (Kd.R_mono HR.out HOk.out) W2_ hW_)) (Reps.none _ _)))))
   intro v5 w5 ho hb hg_ hnew_;have HN5:=aK (Kd.N_lower ho HZ.out);have HS5:=aK (Kd.S_below HS4.out hb);have HI5:=aK (HI4.out.below hb);have HK5:=aK (KeepBut.trans HK4.out (KeepBut.of_below hb g none) (.inl rfl));have HZ5:=aK (Nat.le_trans HZ.out (below_size hb));have s0_:=pw_cell_below hb hHeld.1;have s1_:=pw_cell_below hb hHeld.2;clear ho hb hg_ hnew_ HS4 HI4 HK4;obtain ⟨A5,c5,e5⟩:=Kd.N_slice HN5.out;subst e5;refine hK.out _ _ ⟨s0_,s1_⟩ (fun hHeld=>?_);clear hK K;refine nS 67 ?_;refine last_ (i:=14) (N:=some 68) (lA 16 32767) rfl rfl (by kernel_rfl) (by decide) (fun K hK=>?_);refine Kd.N_append_rows_step k48 b0 (by rfl) (.tmp 54) (.tmp 67) 30 48 (.agg #[(.int .i64 0),(.slice none 0 0)]) 32 rfl Try.underlying30 info48 rfl (by decide) (by omega) (.slice (some ⟨gs,0,none⟩) cs.length cap) cs [x,x,x,x] _ _ _ (fun k_=>b0≤k_) (fun k_=>(fun k_=>b0≤k_) k_∧some k_≠(Value.slice (some ⟨gs,0,none⟩) cs.length cap).ownBlock) rfl rfl ?aO ?aR (fun _ hk=>hk) ?aF (Below.refl _ _) ?aS ?aL ?_
   (case aR=>exact Kd.N_F (Kd.N_mono HN5.out (fun k_ hk_=>⟨hk_.1,by simp [Value.ownBlock];exact hk_.2⟩)))
   (case aO=>exact Kd.S_N HS5.out)
   (case aF=>exact fun k_ hk_=>by have:=HZ5.out;omega)
   (case aS=>exact HZ5.out)
   (case aL=>have:=HL.out;simp;omega)
   intro v7 w7 ho hb hg_ hat;have HV7:=aK (show Kd.V k48 48 w7 b0 (fun k_=>b0≤k_) v7 (cs++[x,x,x,x]) from Kd.N_V ho);have HI7:=aK (HI5.out.grown hg_ (fun e_=>by have:=Kd.S_base HS5.out g e_.symm;have:=HG.out;omega) (fun k_ e_=>by have:=Kd.S_base HS5.out k_ e_;have:=HG0.out;omega));have HK7:=aK (KeepBut.trans HK5.out (KeepBut.of_grown hg_ g) (by rw [←HBW.out];exact Kd.S_base2 HS5.out));clear ho hb hg_ hat;refine hK.out _ _ ?_;clear hK K;refine nS 68 ?_;refine pS 15 2 (lA 16 65535) ?_;refine done_ (by kernel_rfl) ?_;go_wp2;go_ret;exact off_retV HBW.out HV7.out HG.out (by have:=HL.out;simp;omega) (fun z hz=>by rcases List.mem_append.mp hz with q|q;exact HF.out z q;simp at q;rw [q];exact HX.out) HI7.out (by omega) HK7.out
  ·skip
   go_wp2_with ((with_reducible refine gate_dst (N:=73) rfl ?_);refine Kd.R_lit (Kd.int .i64) _ 3 ?hg (N:=73) ?hd (xs:=([1,1,1]:List Int)) (inner:=[.int .i64 1,.int .i64 1,.int .i64 1]) (ok:=fun _=>True) (okp:=fun _=>True) ?hr ?hp (fun _ hk=>hk) trivial (Below.refl _ _) (Nat.le_refl _) (by simp) ?_;(case hd=>rfl);(case hg=>rfl);(case hr=>first|(go_simp;done)|(go_simp;rfl));(case hp=>exact (Reps.one (show Kd.M (Kd.int .i64) _ _ _ 1 [.int .i64 1] from rfl) (Reps.one (show Kd.M (Kd.int .i64) _ _ _ 1 [.int .i64 1] from rfl) (Reps.one (show Kd.M (Kd.int .i64) _ _ _ 1 [.int .i64 1] from rfl) (Reps.none _ _)))));intro v1 w5 ho hb hg_ hnew_;have HZ:=aK (show b0≤w4.heap.size by rw [HBW.out];exact keep_size HK4.out);have HN:=aK (show∀k,v1.ownBlock=some k→w4.heap.size≤k from fun k hk=>Kd.R_base ho k hk);have HR:=aK (Kd.R_tight rfl (Kd.R_lower ho HZ.out));have HS5:=aK (show Kd.S k48 48 w5 b0 (fun k_=>b0≤k_∧¬some k_=v1.ownBlock) (.slice (some ⟨gs,0,none⟩) cs.length cap) cs from Kd.S_below (Kd.S_mono (Kd.S_bound HS4.out) (fun k_ hk_=>⟨hk_.1,fun e_=>by have:=HN.out k_ e_.symm;omega⟩)) hb);have HI5:=aK (HI4.out.below hb);have HK5:=aK (KeepBut.trans HK4.out (KeepBut.of_below hb g none) (.inl rfl));have HGL:=aK (show gs<w4.heap.size from Kd.S_lt HS4.out gs (by simp [Value.ownBlock]));clear ho hb hg_ hnew_ HI4 HK4 HS4;obtain ⟨Ao,co,eo⟩:=Kd.R_slice HR.out;subst eo;obtain ⟨x,u,oki,hxj,c0,c1,f0,f1,hr,hoki,hH,hp0,hp1⟩:=cls_put HS5.out HJ.out;have HP1:=aK (Kd.S_seg (okg:=fun k_=>some k_=(Value.slice Ao ([1,1,1]:List Int).length co).ownBlock) (seg:=[.slice Ao ([1,1,1]:List Int).length co]) (j:=1) (x':=⟨x.f0,[1,1,1]⟩) hH (by have:=HJ.out;omega) (by have:=HJ.out;omega) (show 1+1≤2 by omega) (k48_mkM w5 b0 _ ⟨x.f0,[1,1,1]⟩ HR.out) (fun k_ hk_=> .inr hk_) (fun k_ hk_=>⟨by have:=HN.out k_ hk_.symm;have:=HZ.out;omega,by have:=HN.out k_ hk_.symm;have:=HGL.out;omega⟩)).1;clear hxj hr hoki hH hp0 hp1)
   go_ret;exact off_ret HBW.out HP1.out HG.out (by have:=HL.out;(try simp);omega) (few_set HF.out (by simp)) (Rdr.far HI5.out (p:=⟨gs,j*2+1,none⟩) (by have:=HG.out;have:=HGS.out;show g≠gs;omega) (by have:=HG0.out;have:=HGS.out;show _≤gs;omega) _) (by omega) (keep_far HK5.out (p:=⟨gs,j*2+1,none⟩) (by rw [←HBW.out];exact HGS.out) _)
  ·skip
   obtain ⟨x,u,oki,hxj,c0,c1,f0,f1,hr,hoki,hH,hp0,hp1⟩:=cls_put HS4.out HJ.out;have HP1:=aK hp1;clear hxj hr hoki hH hp0 hp1;go_wp2;go_ret;exact off_ret HBW.out HP1.out HG.out (by have:=HL.out;(try simp);omega) (few_set HF.out (by simp)) (Rdr.far HI4.out (p:=⟨gs,j*2+1,none⟩) (by have:=HG.out;have:=HGS.out;show g≠gs;omega) (by have:=HG0.out;have:=HGS.out;show _≤gs;omega) _) (by omega) (keep_far HK4.out (p:=⟨gs,j*2+1,none⟩) (by rw [←HBW.out];exact HGS.out) _)
end Go.Proofs.Ytehefmgplkolaaa.K
namespace Go.Proofs.Ytehefmgplkolaaa.K
open Go.RowKit Go.Proofs.YtehefmgplkolaaaW.PrintWords Go.Proofs.YtehefmgplkolaaaW.PrintLast Go.Proofs.YtehefmgplkolaaaW.PrintMore
attribute [local go_sem] max2_int min2_int max_two min_two max_three min_three max_four min_four
set_option linter.unusedVariables false
set_option linter.unusedSimpArgs false
structure Ch (S:Nat→Prop) (w w':World):Prop where
 os:w'.os=w.os
 tape:w'.tape=w.tape
 output:w'.output=w.output
 size:w.heap.size≤w'.heap.size
 block: ∀k,k<w.heap.size→¬S k→w'.heap[k]? =w.heap[k]?
section
variable {S S2:Nat→Prop} {w w0 w1 w2:World}
theorem Ch.refl (S:Nat→Prop) (w:World):Ch S w w:=⟨rfl,rfl,rfl,Nat.le_refl _,fun _ _ _=>rfl⟩
theorem Ch.trans (h:Ch S w w1) (k:Ch S2 w1 w2) (hs: ∀k,S2 k→S k∨w.heap.size≤k):Ch S w w2:=
  ⟨k.os.trans h.os,k.tape.trans h.tape,k.output.trans h.output,Nat.le_trans h.size k.size,fun i hi hn=>(k.block i (Nat.lt_of_lt_of_le hi h.size) (fun h2=>(hs i h2).elim hn (fun h3=>by omega))).trans (h.block i hi hn)⟩
theorem Ch.then_ (h:Ch S w w1) (k:Ch S w1 w2):Ch S w w2:=h.trans k (fun _ h=> .inl h)
theorem Ch.below (h:Ch S w w1) (hb:Below w1.heap.size w1 w2):Ch S w w2:=
  h.trans (S2:=fun _=>False) ⟨hb.os,hb.tape,hb.output,hb.size,fun i hi _=>hb.block i hi⟩ (fun _ h=>h.elim)
theorem Ch.set (h:Ch S w w1) {p:Addr} (hp:S p.block∨w.heap.size≤p.block) (u:Value):Ch S w (w1.setCell p u):=
  h.trans (S2:=fun k=>k=p.block) ⟨rfl,rfl,rfl,by simp [World.setCell],fun k _ hn=>Below.heap_setCell _ _ _ _ hn⟩ (fun k hk=>by rw [hk];exact hp)
theorem Ch.kept (h:Ch S w w1):Kept w w1 S:=⟨h.size,h.block⟩
theorem Ch.toBelow (h:Ch S w w1) {B:Nat} (hB:B≤w.heap.size) (hS: ∀k,S k→B≤k):Below B w w1:=⟨h.os,h.tape,h.output,h.size,fun k hk=>h.block k (by omega) (fun h2=>by have:=hS k h2;omega)⟩
theorem Ch.blk (h:Ch S w w1) {g:Nat} {o:Obj} (hb:w.heap[g]? =some o) (hn: ¬S g):w1.heap[g]? =some o:=blk_kept hb h.kept hn
theorem Ch.R {α:Type} {d:Kd α} {e base:Nat} {ok:Nat→Prop} {v:Value} {xs:List α} (h:Ch S w w1) (hr:d.R e w base ok v xs) (hne: ∀k,ok k→¬S k):d.R e w1 base ok v xs:=Kd.R_kept hr h.kept hne
end
section
variable {M L:Int} {w0 w w1:World} {g:Nat} {S:Nat→Prop}
theorem Rdr.ch (h:Rdr M w0 w g) (hc:Ch S w w1) (hne: ¬S g) (hS: ∀k,S k→w0.heap.size≤k):Rdr M w0 w1 g:=by
  obtain ⟨⟨b,q,⟨A0,c0,hb,hg,hC⟩,h2,h3,h4,h5⟩,h6⟩:=h;exact ⟨⟨b,q,⟨A0,c0,hc.blk hb hne,hg,hC⟩,h2,h3,h4,h5⟩,h6.trans (hc.toBelow h6.size hS)⟩
theorem Rdr.step (h:Rdr M w0 w g) (h1:Rdr L w0 w1 g) (hk:KeepBut w w1 g none):Ch (fun k=>k=g) w w1:=
  ⟨h1.2.os.trans h.2.os.symm,h1.2.tape.trans h.2.tape.symm,h1.2.output.trans h.2.output.symm,hk.1,fun k hlt hn=>hk.2 k hlt hn (by simp)⟩
end
def shBox (w:World) (g:Nat) (a b c:Value):World:=((w.setCell ⟨g,0,none⟩ a).setCell ⟨g,1,none⟩ b).setCell ⟨g,2,none⟩ c
theorem blk_box3 {w:World} {g:Nat} {t:TypeId} {c0 c1 c2 a b c:Value} (h:w.heap[g]? =some (.cells #[c0,c1,c2] t (0,0))):(shBox w g a b c).heap[g]? =some (.cells #[a,b,c] t (0,0)):=
  blk_put (blk_put (blk_put h 0 _ rfl) 1 _ rfl) 2 _ rfl
theorem Ch.box3 {S:Nat→Prop} {w w1:World} (h:Ch S w w1) {g:Nat} (hp:S g∨w.heap.size≤g) (a b c:Value):Ch S w (shBox w1 g a b c):=
  ((h.set (p:=⟨g,0,none⟩) hp a).set (p:=⟨g,1,none⟩) hp b).set (p:=⟨g,2,none⟩) hp c
theorem Ch.V {S:Nat→Prop} {w w1:World} {α:Type} {d:Kd α} {e base:Nat} {ok:Nat→Prop} {v:Value} {xs:List α} (h:Ch S w w1) (hr:Kd.V d e w base ok v xs) (hne: ∀k,ok k→¬S k):Kd.V d e w1 base ok v xs:=Kd.V_kept hr h.kept hne
structure Tw (b0 g g3 g4 sB ga gb:Nat) (w0 w:World) (M:Int) (A:Option Addr) (n:Nat) (cs:List S48) (fa:Bool) (A1:Option Addr) (c1:Nat) (la:List Int) (A2:Option Addr) (c2:Nat) (sa:List Int) (fb:Bool) (B1:Option Addr) (d1:Nat) (lb:List Int) (B2:Option Addr) (d2:Nat) (sb:List Int) (W:World):Prop where
 h5:Kd.V k48 48 W 0 (fun k=>g4<k∧k<sB) (.slice A cs.length n) cs
 a1:Kd.V (Kd.int .i64) 3 W 0 (fun k=>g4<k∧k<sB) (.slice A1 la.length c1) la
 a2:Kd.V (Kd.int .i64) 3 W 0 (fun k=>g4<k∧k<sB) (.slice A2 sa.length c2) sa
 p1:Kd.R (Kd.int .i64) 3 W sB (fun k=>sB≤k∧k<gb) (.slice B1 lb.length d1) lb
 p2:Kd.V (Kd.int .i64) 3 W 0 (fun k=>(sB≤k∧k<gb)∧some k≠(Value.slice B1 lb.length d1).ownBlock) (.slice B2 sb.length d2) sb
 b3:W.heap[g3]? =some (.cells #[.bool false,.slice none 0 0,.slice none 0 0] 28 (0,0))
 b4:W.heap[g4]? =some (.cells #[.bool false,.slice none 0 0,.slice none 0 0] 28 (0,0))
 ba:W.heap[ga]? =some (.cells #[.bool fa,.slice A1 la.length c1,.slice A2 sa.length c2] 28 (0,0))
 bb:W.heap[gb]? =some (.cells #[.bool fb,.slice B1 lb.length d1,.slice B2 sb.length d2] 28 (0,0))
 ord:g<b0∧b0≤g3∧g3<g4∧g4<ga∧ga<sB∧sB≤gb∧w0.heap.size≤g∧w.heap.size=b0
 hi:Rdr M w0 W g
 hc:Ch (fun k=>k=g) w W
section
variable {b0 g g3 g4 sB ga gb:Nat} {w0 w:World} {M L:Int} {A:Option Addr} {n:Nat} {cs:List S48} {fa:Bool} {A1:Option Addr} {c1:Nat} {la:List Int} {A2:Option Addr} {c2:Nat} {sa:List Int} {fb:Bool} {B1:Option Addr} {d1:Nat} {lb:List Int} {B2:Option Addr} {d2:Nat} {sb:List Int} {W W1:World}
theorem Tw.pick (h:Tw b0 g g3 g4 sB ga gb w0 w M A n cs fa A1 c1 la A2 c2 sa fb B1 d1 lb B2 d2 sb W) (hi:Rdr L w0 W1 g) (hk:KeepBut W W1 g none):Tw b0 g g3 g4 sB ga gb w0 w L A n cs fa A1 c1 la A2 c2 sa fb B1 d1 lb B2 d2 sb W1:=by
 have hst:=h.hi.step hi hk;have ho:=h.ord;exact ⟨hst.V h.h5 (fun k q=>by omega),hst.V h.a1 (fun k q=>by omega),hst.V h.a2 (fun k q=>by omega),hst.R h.p1 (fun k q=>by omega),hst.V h.p2 (fun k q=>by omega),hst.blk h.b3 (by omega),hst.blk h.b4 (by omega),hst.blk h.ba (by omega),hst.blk h.bb (by omega),ho,hi,h.hc.then_ hst⟩
theorem Tw.below (h:Tw b0 g g3 g4 sB ga gb w0 w M A n cs fa A1 c1 la A2 c2 sa fb B1 d1 lb B2 d2 sb W) (hb:Below W.heap.size W W1):Tw b0 g g3 g4 sB ga gb w0 w M A n cs fa A1 c1 la A2 c2 sa fb B1 d1 lb B2 d2 sb W1:=
  ⟨Kd.V_below h.h5 hb,Kd.V_below h.a1 hb,Kd.V_below h.a2 hb,Kd.R_below h.p1 hb,Kd.V_below h.p2 hb,blk_below h.b3 hb,blk_below h.b4 hb,blk_below h.ba hb,blk_below h.bb hb,h.ord,h.hi.below hb,h.hc.below hb⟩
theorem Tw.cut (h:Tw b0 g g3 g4 sB ga gb w0 w M A n cs fa A1 c1 la A2 c2 sa fb B1 d1 lb B2 d2 sb W) (h1:1≤sb.length) {A':Option Addr} (hA:A'=if d2=1 then B2 else B2.map (·.add (1*1))):Tw b0 g g3 g4 sB ga gb w0 w M A n cs fa A1 c1 la A2 c2 sa fb B1 d1 lb A' (d2 - 1) (sb.drop 1) (W.setCell ⟨gb,2,none⟩ (.slice A' (sb.length - 1) (d2 - 1))):=by
 have ho:=h.ord;have hl:(sb.drop 1).length=sb.length - 1:=List.length_drop
 have hc:=(Kd.V_reads' h.p2).2.1;have hf:=Kd.F_cut (c:=d2) (Kd.V_F h.p2) (m:=1) h1 hc;have hv:=Kd.V_mk (e:=3) (base:=0) (c:=d2 - 1) (by rw [hl];omega) hf;have hch:Ch (fun k=>k=gb) W (W.setCell ⟨gb,2,none⟩ (.slice A' (sb.length - 1) (d2 - 1))):=(Ch.refl (fun k=>k=gb) _).set (.inl rfl) _
 have hA2:A'=if d2=1 then B2 else B2.map (·.add (1*(Kd.int .i64).sz)):=hA
 rw [←hA2] at hv;refine ⟨hch.V h.h5 (fun k q=>by omega),hch.V h.a1 (fun k q=>by omega),hch.V h.a2 (fun k q=>by omega),hch.R h.p1 (fun k q=>by omega),hch.V hv (fun k q=>by omega),hch.blk h.b3 (by omega),hch.blk h.b4 (by omega),hch.blk h.ba (by omega),?_,ho,h.hi.ch hch (by omega) (fun k q=>by omega),h.hc.trans hch (fun k q=> .inr (by omega))⟩;rw [hl];exact blk_put h.bb 2 _ rfl
theorem Tw.put {g1:Nat} (h:Tw b0 g g3 g4 sB ga gb w0 w M A n cs fa A1 c1 la A2 c2 sa fb (some ⟨g1,0,none⟩) d1 lb B2 d2 sb W) (i x:Int):Tw b0 g g3 g4 sB ga gb w0 w M A n cs fa A1 c1 la A2 c2 sa fb (some ⟨g1,0,none⟩) d1 (lb.set i.toNat x) B2 d2 sb (W.setCell ⟨g1,i.toNat,none⟩ (.int .i64 x)):=by
 have ho:=h.ord;have hg:=h.p1.1 g1 rfl;have hl:(lb.set i.toNat x).length=lb.length:=List.length_set
 have hch:Ch (fun k=>k=g1) W (W.setCell ⟨g1,i.toNat,none⟩ (.int .i64 x)):=(Ch.refl (fun k=>k=g1) _).set (.inl rfl) _
 have hp:=(Kd.R_put (enc:=Value.int .i64) (h1:=fun _=>rfl) h.p1 i x).1;rw [←hl] at hp;refine ⟨hch.V h.h5 (fun k q=>by omega),hch.V h.a1 (fun k q=>by omega),hch.V h.a2 (fun k q=>by omega),hp,?_,hch.blk h.b3 (by omega),hch.blk h.b4 (by omega),hch.blk h.ba (by omega),?_,ho,h.hi.ch hch (by omega) (fun k q=>by omega),h.hc.trans hch (fun k q=> .inr (by omega))⟩
 ·rw [hl];exact hch.V h.p2 (fun k q e=>q.2 (by rw [e];rfl))
 ·rw [hl];exact hch.blk h.bb (by omega)
end
def spec_l11None.f:Option (Bool×List Int×List Int):=some (false,(([]:List Int)),(([]:List Int)))
set_option maxHeartbeats 8000000 in
set_option maxRecDepth 100000 in
theorem spec_l11None.calls (r1:Bool) (r2:List Int) (r3:List Int) (w:World) (h:spec_l11None.f=some (r1,r2,r3)):
  Calls Try.prog 22 #[] w fun e w'=> ∃v1_ v2_:Value,e= .returned (.agg #[.bool r1,v1_,v2_])∧Kd.R (Kd.int .i64) 3 w' w.heap.size (fun k_=>some k_≠(v2_:Value).ownBlock) v1_ r2∧Kd.R (Kd.int .i64) 3 w' w.heap.size (fun k_=>some k_≠(v1_:Value).ownBlock) v2_ r3∧Below w.heap.size w w':=by
 have hu28:=Try.underlying28;have HB:=aK (Below.refl w.heap.size w);have H:(some (false,(([]:List Int)),(([]:List Int))))=some (r1,r2,r3):=h
 clear h;obtain ⟨y131,hy131⟩: ∃y_:List Int,y_=(([]:List Int)):=⟨_,rfl⟩;replace H:(some (false,y131,(([]:List Int))))=some (r1,r2,r3):=by first|(rw [hy131];with_reducible exact H)|(have H2_:=(Option.bind_some _ _).symm.trans H;rw [hy131];with_reducible exact H2_)|(have H2_:=(Option.bind_some _ _).symm.trans H;with_reducible exact H2_)|with_reducible exact H|(rw [hy131];exact H)|exact H
 have Ny131:=aK hy131;clear hy131;obtain ⟨y134,hy134⟩: ∃y_:List Int,y_=(([]:List Int)):=⟨_,rfl⟩;replace H:(some (false,y131,y134))=some (r1,r2,r3):=by first|(rw [hy134];with_reducible exact H)|(have H2_:=(Option.bind_some _ _).symm.trans H;rw [hy134];with_reducible exact H2_)|(have H2_:=(Option.bind_some _ _).symm.trans H;with_reducible exact H2_)|with_reducible exact H|(rw [hy134];exact H)|exact H
 have Ny134:=aK hy134;clear hy134;simp only [Option.some.injEq,Prod.mk.injEq] at H;obtain ⟨rfl,rfl,rfl⟩:=H;go_enter Try.func22,Try.ntmps22
 go_wp2_with (first|((with_reducible refine gate_dst (N:=0) rfl ?_);refine box_event ?hg (N:=0) ?hd (cs:= #[.bool false,.slice none 0 0,.slice none 0 0]) (t:=28) ?hr ?_;(case hd=>rfl);(case hg=>rfl);(case hr=>first|(go_simp;done)|(go_simp;rfl));intro gb130 hg w1 hbox hb;have BK130:=aK (hbox);have GW130:=aK ((by rw [hg];exact (below_size zz1):w.heap.size≤gb130));have GE130:=aK ((by rw [hg];exact (below_size zz1):w.heap.size≤gb130));replace HB:=aK (below_step zz1 hb);clear hb hbox hg)|((with_reducible refine gate_dst (N:=1) rfl ?_);refine Kd.R_lit (Kd.int .i64) _ 3 ?hg (N:=1) ?hd (xs:=([]:List Int)) (inner:=[]) (ok:=fun _=>True) (okp:=fun _=>True) ?hr ?hp (fun _ hk=>hk) trivial (Below.refl _ _) (Nat.le_refl _) (by simp) ?_;(case hd=>rfl);(case hg=>rfl);(case hr=>first|(go_simp;done)|(go_simp;rfl));(case hp=>exact (Reps.none _ _));intro v132 w2 ho3 hb hg_ hnew_;clear hg_ hnew_;(first|rw [←Ny131.out] at ho3|(simp only [Int.reduceToNat] at ho3;rw [←Ny131.out] at ho3));have HO133:=aK (Kd.R_lower ho3 (below_size (by repeat (first|(with_reducible first|exact HB.out|apply below_alloc|apply pw_below_drewN|apply below_drew1|refine below_set ?_ GE130.out)|exact HB.out))));replace BK130:=aK (blk_below (g:=gb130) (o:= .cells #[.bool false,.slice none 0 0,.slice none 0 0] 28 (0,0)) (by (with_reducible repeat (first|refine blk_drewN ?_ _|refine blk_drew ?_|refine blk_alloc ?_ _));exact BK130.out) hb);replace HB:=aK (below_step (by repeat (first|(with_reducible first|exact HB.out|apply below_alloc|apply pw_below_drewN|apply below_drew1|refine below_set ?_ GE130.out)|exact HB.out)) hb);clear hb ho3)|((with_reducible refine gate_dst (N:=2) rfl ?_);refine Kd.R_lit (Kd.int .i64) _ 3 ?hg (N:=2) ?hd (xs:=([]:List Int)) (inner:=[]) (ok:=fun _=>True) (okp:=fun _=>True) ?hr ?hp (fun _ hk=>hk) trivial (Below.refl _ _) (Nat.le_refl _) (by simp) ?_;(case hd=>rfl);(case hg=>rfl);(case hr=>first|(go_simp;done)|(go_simp;rfl));(case hp=>exact (Reps.none _ _));intro v135 w4 ho5 hb hg_ hnew_;clear hg_ hnew_;(first|rw [←Ny134.out] at ho5|(simp only [Int.reduceToNat] at ho5;rw [←Ny134.out] at ho5));have HO136:=aK (Kd.R_lower (Kd.R_new' ho5 (Kd.R_lt (by (with_reducible repeat (first|apply Kd.R_alloc|apply Kd.R_drewN|apply Kd.R_drew));exact HO133.out))) (below_size (by repeat (first|(with_reducible first|exact HB.out|apply below_alloc|apply pw_below_drewN|apply below_drew1|refine below_set ?_ GE130.out)|exact HB.out))));replace HO133:=aK (Kd.R_elder' (by (with_reducible repeat (first|apply Kd.R_alloc|apply Kd.R_drewN|apply Kd.R_drew));exact HO133.out) (Kd.R_base ho5) hb);replace BK130:=aK (blk_below (g:=gb130) (o:= .cells #[.bool false,.slice none 0 0,.slice none 0 0] 28 (0,0)) (by (with_reducible repeat (first|refine blk_drewN ?_ _|refine blk_drew ?_|refine blk_alloc ?_ _));exact BK130.out) hb);replace HB:=aK (below_step (by repeat (first|(with_reducible first|exact HB.out|apply below_alloc|apply pw_below_drewN|apply below_drew1|refine below_set ?_ GE130.out)|exact HB.out)) hb);clear hb ho5;obtain ⟨Ao6,co6,eo6⟩:=Kd.R_slice HO136.out;subst eo6;obtain ⟨Ao7,co7,eo7⟩:=Kd.R_slice HO133.out;subst eo7;obtain ⟨hcz8_0,hcz8_1,hcz8_2,hfz8_0,hfz8_1,hfz8_2⟩:=cbf3 BK130))
 refine bodyPost_ret (results_cell_row rfl _ _ gb130 28 #[.bool false,.slice Ao7 y131.length co7,.slice Ao6 y134.length co6] (0,0) _ rfl (by (with_reducible repeat (first|refine blk_drewN ?_ _|refine blk_drew ?_|refine blk_alloc ?_ _));refine blk_put (cs:= #[.bool false,.slice Ao7 y131.length co7,.slice none 0 0]) ?_ 2 _ rfl;(with_reducible repeat (first|refine blk_drewN ?_ _|refine blk_drew ?_|refine blk_alloc ?_ _));refine blk_put (cs:= #[.bool false,.slice none 0 0,.slice none 0 0]) ?_ 1 _ rfl;(with_reducible repeat (first|refine blk_drewN ?_ _|refine blk_drew ?_|refine blk_alloc ?_ _));refine blk_put (cs:= #[.bool false,.slice none 0 0,.slice none 0 0]) ?_ 0 _ rfl;(with_reducible repeat (first|refine blk_drewN ?_ _|refine blk_drew ?_|refine blk_alloc ?_ _));exact BK130.out) Try.underlying28 rfl (by kernel_rfl)) rfl ?_;exact ⟨_,_,by first|rfl|(simp [errW_none,errW_some]<;>rfl)|(simp [*,errW_none,errW_some]<;>rfl),by (with_reducible repeat (first|apply Kd.R_alloc|apply Kd.R_drewN|apply Kd.R_drew));exact Kd.R_mono (Kd.R_far (p:=⟨gb130,2,none⟩) (Kd.R_far (p:=⟨gb130,1,none⟩) (Kd.R_far (p:=⟨gb130,0,none⟩) (Kd.R_types HO133.out BK130.out (by decide)) (fun _ hk=>hk.2) (.bool false)) (fun _ hk=>hk.2) (.slice Ao7 y131.length co7)) (fun _ hk=>hk.2) (.slice Ao6 y134.length co6)) (fun _ hk=>hk.1.2),by (with_reducible repeat (first|apply Kd.R_alloc|apply Kd.R_drewN|apply Kd.R_drew));exact Kd.R_mono (Kd.R_far (p:=⟨gb130,2,none⟩) (Kd.R_far (p:=⟨gb130,1,none⟩) (Kd.R_far (p:=⟨gb130,0,none⟩) (Kd.R_types HO136.out BK130.out (by decide)) (fun _ hk=>hk.2) (.bool false)) (fun _ hk=>hk.2) (.slice Ao7 y131.length co7)) (fun _ hk=>hk.2) (.slice Ao6 y134.length co6)) (fun _ hk=>hk.1.2),by repeat (first|(with_reducible first|exact HB.out|apply below_alloc|apply pw_below_drewN|apply below_drew1|refine below_set ?_ GE130.out)|exact HB.out)⟩
end Go.Proofs.Ytehefmgplkolaaa.K
