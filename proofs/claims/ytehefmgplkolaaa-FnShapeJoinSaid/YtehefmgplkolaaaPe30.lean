import Derived.Test.YtehefmgplkolaaaPe24
import Derived.Test.YtehefmgplkolaaaPe29
import Derived.Test.YtehefmgplkolaaaPe28
import Derived.Test.YtehefmgplkolaaaPe25
namespace Go.Proofs.Ytehefmgplkolaaa.Pure
open Go.RowKit Go.Proofs.Ytehefmgplkolaaa.K Go.Proofs.YtehefmgplkolaaaW.PrintWords Go.Proofs.YtehefmgplkolaaaW.PrintLast Go.Proofs.YtehefmgplkolaaaW.PrintMore
set_option linter.unusedVariables false
set_option linter.unusedSimpArgs false
theorem shape_l1 {b:List Int} (hb: ∀x∈b,0≤x∧x≤255) (hl:b.length≤2000) {n:Int} (hn:1≤n) (hn2:n≤1000) (d:Nat) (hd:d≤10): ∀(p:Int) (L S:List Int),0≤p→p+6*d≤790000→L.length≤100→S.length+d≤100→
  ∃(r1:Bool) (r2 r3:List Int) (q:Int),p≤q∧q≤p+6*d+1∧r2.length≤L.length+1∧r3.length≤S.length+d+4∧∀k,d+5≤k→spec_l72Shape.l1 k n d b p true L S=some (r1,r2,r3,q):=by
 induction d with
 | zero =>
  intro p L S hp hp2 hL hS;obtain ⟨v,v0,v1,hv⟩:=pick_ev hb hl hp (by omega) (show (1:Int)≤30 by omega) (by omega)
  have h0: ∀k,5≤k→spec_l72Shape.l1 k n 0 b p true L S=(if v=0 then some (false,[],[],p+1) else if v=1 then some (false,L,S,p+1) else if v=2 then some (true,L++[1],S,p+1) else if v=3 then some (true,L,S++[1,1,1,1],p+1) else some (true,L,S,p+1)):=fun k hk=>by
   obtain ⟨k,rfl⟩: ∃m,k=m+1:=⟨k - 1,by omega⟩;rw [spec_l72Shape.l1,if_neg (by omega),hv k (by omega),Option.bind_some]
   dsimp only
   rw [if_pos (show L.length<17592186044416 by omega),Option.bind_some,if_pos (show S.length+[(1:Int),1,1,1].length<17592186044416 by simp only [List.length_cons,List.length_nil];omega)];rfl
  by_cases c0:v=0
  ·exact ⟨false,[],[],p+1,by omega,by omega,by simp,by simp,fun k hk=>by rw [show ((0:Nat):Int)=0 from rfl,h0 k (by omega),if_pos c0]⟩
  by_cases c1:v=1
  ·exact ⟨false,L,S,p+1,by omega,by omega,by omega,by omega,fun k hk=>by rw [show ((0:Nat):Int)=0 from rfl,h0 k (by omega),if_neg c0,if_pos c1]⟩
  by_cases c2:v=2
  ·exact ⟨true,L++[1],S,p+1,by omega,by omega,by simp,by omega,fun k hk=>by rw [show ((0:Nat):Int)=0 from rfl,h0 k (by omega),if_neg c0,if_neg c1,if_pos c2]⟩
  by_cases c3:v=3
  ·exact ⟨true,L,S++[1,1,1,1],p+1,by omega,by omega,by omega,by simp,fun k hk=>by rw [show ((0:Nat):Int)=0 from rfl,h0 k (by omega),if_neg c0,if_neg c1,if_neg c2,if_pos c3]⟩
  ·exact ⟨true,L,S,p+1,by omega,by omega,by omega,by omega,fun k hk=>by rw [show ((0:Nat):Int)=0 from rfl,h0 k (by omega),if_neg c0,if_neg c1,if_neg c2,if_neg c3]⟩
 | succ d ih =>
  intro p L S hp hp2 hL hS;obtain ⟨t,q,q0,q1,ht⟩:=type_ev hb hl hp (by omega) hn hn2;have w:wrap64 (((d+1:Nat):Int) - 1)=(d:Int):=by rw [wrap64_of (by omega) (by omega)];omega
  by_cases c:t=0
  ·obtain ⟨v, v0, v1, hv⟩ := pick_ev hb hl (p := q) (by omega) (by omega) (show (1 : Int) ≤ 8 by omega) (by omega)
   by_cases cv:v>0
   ·obtain ⟨r1, r2, r3, q', a1, a2, a3, a4, h⟩ := ih (by omega) (q + 1) L (S ++ [1]) (by omega) (by omega) hL (by simp <;> omega)
    rw [List.length_append] at a4;refine ⟨r1,r2,r3,q',by omega,by omega,a3,by simp at a4;omega,fun k hk=>?_⟩;obtain ⟨k,rfl⟩: ∃m,k=m+1:=⟨k - 1,by omega⟩;rw [spec_l72Shape.l1,if_pos (by omega),ht k (by omega),Option.bind_some]
    dsimp only
    rw [if_pos c,hv k (by omega),Option.bind_some]
    dsimp only
    rw [if_pos cv,if_pos (by omega),w,h k (by omega)]
   ·obtain ⟨r1, r2, r3, q', a1, a2, a3, a4, h⟩ := ih (by omega) (q + 1) L (S ++ [t]) (by omega) (by omega) hL (by simp <;> omega)
    rw [List.length_append] at a4;refine ⟨r1,r2,r3,q',by omega,by omega,a3,by simp at a4;omega,fun k hk=>?_⟩;obtain ⟨k,rfl⟩: ∃m,k=m+1:=⟨k - 1,by omega⟩;rw [spec_l72Shape.l1,if_pos (by omega),ht k (by omega),Option.bind_some]
    dsimp only
    rw [if_pos c,hv k (by omega),Option.bind_some]
    dsimp only
    rw [if_neg cv,if_pos (by omega),w,h k (by omega)]
  ·obtain ⟨r1, r2, r3, q', a1, a2, a3, a4, h⟩ := ih (by omega) q L (S ++ [t]) (by omega) (by omega) hL (by simp <;> omega)
   rw [List.length_append] at a4;refine ⟨r1,r2,r3,q',by omega,by omega,a3,by simp at a4;omega,fun k hk=>?_⟩;obtain ⟨k,rfl⟩: ∃m,k=m+1:=⟨k - 1,by omega⟩;rw [spec_l72Shape.l1,if_pos (by omega),ht k (by omega),Option.bind_some]
   dsimp only
   rw [if_neg c,if_pos (by omega),w,h k (by omega)]
theorem shape_l0 {b:List Int} (hb: ∀x∈b,0≤x∧x≤255) (hl:b.length≤2000) {n m:Int} (hn:1≤n) (hn2:n≤1000) (hm:m≤10) (d:Nat): ∀(p i:Int) (L:List Int),0≤i→i+d=m→0≤p→p+5*d≤780000→L.length+d≤50→
  ∃(r1:Bool) (r2 r3:List Int) (q:Int),p≤q∧q≤p+5*d+20∧r2.length≤60∧r3.length≤60∧∀k,d+20≤k→spec_l72Shape.l0 k n m i b p true L=some (r1,r2,r3,q):=by
 induction d with
 |zero=>
  intro p i L hi0 hi hp hp2 hL;obtain ⟨v,v0,v1,hv⟩:=pick_ev hb hl hp (by omega) (show (1:Int)≤4 by omega) (by omega);obtain ⟨d,rfl⟩: ∃d:Nat,v=d:=⟨v.toNat,by omega⟩;obtain ⟨r1,r2,r3,q,a1,a2,a3,a4,h⟩:=shape_l1 hb hl hn hn2 d (by omega) (p+1) L [] (by omega) (by omega) (by omega) (by simp;omega);refine ⟨r1,r2,r3,q,by omega,by omega,by omega,by simp at a4;omega,fun k hk=>?_⟩;obtain ⟨k,rfl⟩: ∃m,k=m+1:=⟨k - 1,by omega⟩;rw [spec_l72Shape.l0,if_neg (by omega),hv k (by omega),Option.bind_some]
  dsimp only
  exact h k (by omega)
 |succ d ih=>
  intro p i L hi0 hi hp hp2 hL;obtain ⟨t,q,q0,q1,ht⟩:=type_ev hb hl hp (by omega) hn hn2;obtain ⟨r1,r2,r3,q',a1,a2,a3,a4,h⟩:=ih q (i+1) (L++[t]) (by omega) (by omega) (by omega) (by omega) (by simp<;>omega);refine ⟨r1,r2,r3,q',by omega,by omega,a3,a4,fun k hk=>?_⟩;obtain ⟨k,rfl⟩: ∃m,k=m+1:=⟨k - 1,by omega⟩;rw [spec_l72Shape.l0,if_pos (by omega),ht k (by omega),Option.bind_some]
  dsimp only
  rw [if_pos (by omega),wrap64_of (n:=i+1) (by omega) (by omega),h k (by omega)]
theorem shape_ev {b:List Int} (hb: ∀x∈b,0≤x∧x≤255) (hl:b.length≤2000) {p n m:Int} (hp:0≤p) (hp2:p≤700000) (hn:1≤n) (hn2:n≤1000) (hm0:0≤m) (hm:m≤10):
  ∃(r1:Bool) (r2 r3:List Int) (q:Int),p≤q∧q≤p+100∧r2.length≤60∧r3.length≤60∧∀k,40≤k→spec_l72Shape.f k b p n m=some (r1,r2,r3,q):=by
 obtain ⟨r1,r2,r3,q,a1,a2,a3,a4,h⟩:=shape_l0 hb hl hn hn2 hm m.toNat p 0 [] (Int.le_refl _) (by omega) hp (by omega) (by simp;omega);exact ⟨r1,r2,r3,q,a1,by omega,a3,a4,fun k hk=>by unfold spec_l72Shape.f;exact h k (by omega)⟩
end Go.Proofs.Ytehefmgplkolaaa.Pure
namespace Go.Proofs.Ytehefmgplkolaaa.K
open Go.RowKit Go.Proofs.YtehefmgplkolaaaW.PrintWords Go.Proofs.YtehefmgplkolaaaW.PrintLast Go.Proofs.YtehefmgplkolaaaW.PrintMore
attribute [local go_sem] max2_int min2_int max_two min_two max_three min_three max_four min_four
set_option linter.unusedVariables false
set_option linter.unusedSimpArgs false
open Go.Proofs.Ytehefmgplkolaaa.Pure
theorem shape_any (M:Int) (g:Nat) (n m:Int) (w0 w:World) (h:Rdr M w0 w g) (hM:M≤700000) (h0:1≤n) (h1:n≤1000) (m0:0≤m) (m1:m≤10):
  Calls Try.prog 44 #[.pointer (some ⟨g,0,none⟩),.int .i64 n,.int .i64 m] w fun e w'=> ∃(a:Bool) (L S:List Int) (v1 v2:Value),e= .returned (.agg #[.bool a,v1,v2])∧(L.length≤60∧S.length≤60)∧Kd.R (Kd.int .i64) 3 w' w.heap.size (fun k_=>some k_≠v2.ownBlock) v1 L∧Kd.R (Kd.int .i64) 3 w' w.heap.size (fun k_=>some k_≠v1.ownBlock) v2 S∧Rdr (M+100) w0 w' g∧KeepBut w w' g none:=by
 obtain ⟨⟨b,p,hI,hl,hb,hp,hpM⟩,hB⟩:=h;obtain ⟨r1,r2,r3,q,q0,q1,l2,l3,hv⟩:=shape_ev hb hl hp (by omega) h0 h1 m0 m1;exact (spec_l72Shape.calls 40 g b p n m r1 r2 r3 q w0 w hI hB (hv 40 (Nat.le_refl _))).mono fun e w' ⟨v1,v2,he,hr1,hr2,hi,hbb,hk⟩=>⟨r1,r2,r3,v1,v2,he,⟨l2,l3⟩,hr1,hr2,⟨⟨b,q,hi,hl,hb,by omega,by omega⟩,hbb⟩,hk⟩
def TwoP (M:Int) (w0 w:World) (g:Nat) (e:Ending) (w':World):Prop:= ∃(A:Option Addr) (n:Nat) (cs:List S48) (fa:Bool) (A1:Option Addr) (c1:Nat) (la:List Int) (A2:Option Addr) (c2:Nat) (sa:List Int) (fb:Bool) (B1:Option Addr) (d1:Nat) (lb:List Int) (B2:Option Addr) (d2:Nat) (sb:List Int),
  e= .returned (.tuple #[.slice A cs.length n,.agg #[.bool fa,.slice A1 la.length c1,.slice A2 sa.length c2],.agg #[.bool fb,.slice B1 lb.length d1,.slice B2 sb.length d2]])∧(1≤cs.length∧cs.length≤9)∧(∀x∈cs,x.f1.length≤3)∧(la.length≤60∧sa.length≤60∧lb.length≤60∧sb.length≤60)∧
  Kd.V k48 48 w' 0 (fun k=>w.heap.size≤k) (.slice A cs.length n) cs∧Kd.V (Kd.int .i64) 3 w' 0 (fun k=>w.heap.size≤k) (.slice A1 la.length c1) la∧Kd.V (Kd.int .i64) 3 w' 0 (fun k=>w.heap.size≤k) (.slice A2 sa.length c2) sa∧Kd.V (Kd.int .i64) 3 w' 0 (fun k=>w.heap.size≤k) (.slice B1 lb.length d1) lb∧Kd.V (Kd.int .i64) 3 w' 0 (fun k=>w.heap.size≤k) (.slice B2 sb.length d2) sb∧Rdr (M+5000) w0 w' g∧Ch (fun k=>k=g) w w'
theorem two_end {b0 g g3 g4 sB ga gb:Nat} {w0 w:World} {M L:Int} {A:Option Addr} {n:Nat} {cs:List S48} {fa:Bool} {A1:Option Addr} {c1:Nat} {la:List Int} {A2:Option Addr} {c2:Nat} {sa:List Int} {fb:Bool} {B1:Option Addr} {d1:Nat} {lb:List Int} {B2:Option Addr} {d2:Nat} {sb:List Int} {W:World} (hl:1≤cs.length∧cs.length≤9∧cs.length≤n) (hf: ∀x∈cs,x.f1.length≤3) (ha:la.length≤60∧sa.length≤60) (hb:lb.length≤60) (hs:sb.length≤60) (h:Tw b0 g g3 g4 sB ga gb w0 w L A n cs fa A1 c1 la A2 c2 sa fb B1 d1 lb B2 d2 sb W) (hL:L≤M+5000) {a b c a' b' c':Value}:
  TwoP M w0 w g (.returned (.tuple #[.slice A cs.length n,.agg #[.bool fa,.slice A1 la.length c1,.slice A2 sa.length c2],.agg #[.bool fb,.slice B1 lb.length d1,.slice B2 sb.length d2]])) (shBox (shBox W g3 a b c) g4 a' b' c'):=by
 have ho:=h.ord;have hc:Ch (fun k=>k=g3∨k=g4) W (shBox (shBox W g3 a b c) g4 a' b' c'):=((Ch.refl _ _).box3 (.inl (.inl rfl)) _ _ _).box3 (.inl (.inr rfl)) _ _ _
 have g0:=h.ord.2.2.2.2.2.2.2;exact ⟨A,n,cs,fa,A1,c1,la,A2,c2,sa,fb,B1,d1,lb,B2,d2,sb,rfl,⟨hl.1,hl.2.1⟩,hf,⟨ha.1,ha.2,hb,hs⟩,Kd.V_mono (hc.V h.h5 (fun k q=>by omega)) (fun k q=>by omega),Kd.V_mono (hc.V h.a1 (fun k q=>by omega)) (fun k q=>by omega),Kd.V_mono (hc.V h.a2 (fun k q=>by omega)) (fun k q=>by omega),Kd.V_mono (Kd.R_V (hc.R h.p1 (fun k q=>by omega))) (fun k q=>by omega),Kd.V_mono (hc.V h.p2 (fun k q=>by omega)) (fun k q=>by omega),(h.hi.ch hc (by omega) (fun k q=>by omega)).le hL,h.hc.trans hc (fun k q=> .inr (by omega))⟩
def lenAt:Option Value→Nat
  |some (.slice _ n _)=>n
  |_=>0
set_option maxHeartbeats 32000000 in
set_option maxRecDepth 100000 in
theorem two_any (M : Int) (g : Nat) (w0 w : World) (h : Rdr M w0 w g) (hM : M ≤ 600000) :
  Calls Try.prog 32 #[.pointer (some ⟨g,0,none⟩)] w (TwoP M w0 w g):=by
 obtain ⟨b0,hb0⟩: ∃b,b=w.heap.size:=⟨_,rfl⟩;have HG:=aK (show g<b0∧w0.heap.size≤g by have h1:=h.lt;have h2:=h.ge;rw [hb0];omega);have HBW:=aK hb0;have HI0:=aK h;have HM:=aK hM;have HCh0:=aK (Ch.refl (fun k=>k=g) w);clear h hM hb0;go_enter Try.func32,Try.ntmps32
 go_wp2_with ((with_reducible refine gate_dst (N:=3) rfl ?_);refine Classical.byContradiction (fun hng=>?_))
 refine hng ?_;clear hng;refine box_event ?hg (N:=3) ?hd (cs:= #[.bool false,.slice none 0 0,.slice none 0 0]) (t:=28) ?hr ?_
 (case hd=>rfl)
 (case hg=>rfl)
 (case hr=>first|(go_simp;done)|(go_simp;rfl))
 intro g3 hg w1 hbox hb;have B31:=aK hbox;have H3:=aK (show b0≤g3 by rw [hg,HBW.out];exact Nat.le_refl _);have HI1:=aK (HI0.out.below hb);have HCh1:=aK (HCh0.out.below hb);clear hb hbox hg HI0 HCh0
 go_wp2_with ((with_reducible refine gate_dst (N:=4) rfl ?_);refine Classical.byContradiction (fun hng=>?_))
 refine hng ?_;clear hng;refine box_event ?hg (N:=4) ?hd (cs:= #[.bool false,.slice none 0 0,.slice none 0 0]) (t:=28) ?hr ?_
 (case hd=>rfl)
 (case hg=>rfl)
 (case hr=>first|(go_simp;done)|(go_simp;rfl))
 intro g4 hg w2 hbox hb;have B42:=aK hbox;have H4:=aK (show g3<g4 by rw [hg];exact blk_lt B31.out);have HI2:=aK (HI1.out.below hb);have HCh2:=aK (HCh1.out.below hb);have B32:=aK (blk_below B31.out hb);clear hb hbox hg HI1 HCh1 B31
 go_wp2_with (go_at_call 42;refine Classical.byContradiction (fun hng=>?_))
 refine hng ?_;clear hng;refine (off_any _ g _ _ HI2.out (by have:=HM.out;omega)).mono ?_;rintro e w3 ⟨A,n,cs,rfl,hl,hf,hV,hi,hk⟩;have HV3:=aK (Kd.V_mono (Kd.V_bound (Kd.V_map hV (fun _ hf=>hf):Kd.V k48 48 w3 0 _ _ cs)) (ok':=fun k=>g4<k∧k<w3.heap.size) (fun k hk=>⟨by have:=hk.1;have:=blk_lt B42.out;omega,hk.2⟩));have HL:=aK hl;have HF:=aK hf;clear hl hf hV;have hst:=HI2.out.step hi hk;have HI3:=aK hi;have HCh3:=aK (HCh2.out.then_ hst);have B33:=aK (hst.blk B32.out (by have:=HG.out;have:=H3.out;have:=H4.out;omega));have B43:=aK (hst.blk B42.out (by have:=HG.out;have:=H3.out;have:=H4.out;omega));clear hst hi hk;clear HI2 HCh2 B32 B42
 go_wp2_with (go_at_call 43;refine Classical.byContradiction (fun hng=>?_))
 refine hng ?_;clear hng;refine (pick_any _ g 4 w0 _ HI3.out (by have:=HM.out;omega) (by omega) (by omega)).mono ?_;rintro e w4 ⟨m,rfl,hm,hi,hk⟩;have HMm:=aK hm;clear hm;have hst:=HI3.out.step hi hk;have HI4:=aK hi;have HCh4:=aK (HCh3.out.then_ hst);have B34:=aK (hst.blk B33.out (by have:=HG.out;have:=H3.out;have:=H4.out;omega));have B44:=aK (hst.blk B43.out (by have:=HG.out;have:=H3.out;have:=H4.out;omega));have HV4:=aK (hst.V HV3.out (fun k q=>by have:=HG.out;have:=H3.out;have:=H4.out;omega));replace HV4:=aK (Kd.V_mono HV4.out (ok':=fun k=>g4<k∧k<w4.heap.size) (fun k q=>⟨q.1,Nat.lt_of_lt_of_le q.2 hst.size⟩));clear hst hi hk;clear HI3 HCh3 B33 B43 HV3
 go_wp2_with (go_at_call 44;refine Classical.byContradiction (fun hng=>?_))
 refine hng ?_;clear hng;refine (shape_any _ g (cs.length:Int) m w0 _ HI4.out (by have:=HM.out;omega) (by have:=HL.out;omega) (by have:=HL.out;omega) HMm.out.1 (by have:=HMm.out;omega)).mono ?_;rintro e w5 ⟨fa,la,sa,va1,va2,rfl,hl_,h1,h2,hi,hk⟩;have HLa:=aK hl_;have HA15:=aK (Kd.R_V (base':=0) (Kd.R_mono (Kd.R_bound h1) (ok':=fun k=>g4<k∧k<w5.heap.size) (fun k hk=>⟨by have:=hk.2.1;have:=blk_lt B44.out;omega,hk.2.2.1⟩)));have HA25:=aK (Kd.R_V (base':=0) (Kd.R_mono (Kd.R_bound h2) (ok':=fun k=>g4<k∧k<w5.heap.size) (fun k hk=>⟨by have:=hk.2.1;have:=blk_lt B44.out;omega,hk.2.2.1⟩)));obtain ⟨A1,c1,e1⟩:=Kd.V_slice HA15.out;subst e1;obtain ⟨A2,c2,e2⟩:=Kd.V_slice HA25.out;subst e2;clear h1 h2 hl_;have hst:=HI4.out.step hi hk;have HI5:=aK hi;have HCh5:=aK (HCh4.out.then_ hst);have B35:=aK (hst.blk B34.out (by have:=HG.out;have:=H3.out;have:=H4.out;omega));have B45:=aK (hst.blk B44.out (by have:=HG.out;have:=H3.out;have:=H4.out;omega));have HV5:=aK (hst.V HV4.out (fun k q=>by have:=HG.out;have:=H3.out;have:=H4.out;omega));replace HV5:=aK (Kd.V_mono HV5.out (ok':=fun k=>g4<k∧k<w5.heap.size) (fun k q=>⟨q.1,Nat.lt_of_lt_of_le q.2 hst.size⟩));clear hst hi hk;clear HI4 HCh4 B34 B44 HV4
 go_wp2_with ((with_reducible refine gate_dst (N:=7) rfl ?_);refine Classical.byContradiction (fun hng=>?_))
 refine hng ?_;clear hng;refine box_event ?hg (N:=7) ?hd (cs:= #[.bool false,.slice none 0 0,.slice none 0 0]) (t:=28) ?hr ?_
 (case hd=>rfl)
 (case hg=>rfl)
 (case hr=>first|(go_simp;done)|(go_simp;rfl))
 intro ga hg w6 hbox hb;have BA6:=aK hbox;have HGa:=aK (show g4<ga by rw [hg];exact blk_lt B45.out);have HI6:=aK (HI5.out.below hb);have HCh6:=aK (HCh5.out.below hb);have B36:=aK (blk_below B35.out hb);have B46:=aK (blk_below B45.out hb);have HV6:=aK (Kd.V_below HV5.out hb);have HA16:=aK (Kd.V_below HA15.out hb);have HA26:=aK (Kd.V_below HA25.out hb);replace HV6:=aK (Kd.V_mono HV6.out (ok':=fun k=>g4<k∧k<ga) (fun k hk=>⟨hk.1,by rw [hg];exact hk.2⟩));replace HA16:=aK (Kd.V_mono HA16.out (ok':=fun k=>g4<k∧k<ga) (fun k hk=>⟨hk.1,by rw [hg];exact hk.2⟩));replace HA26:=aK (Kd.V_mono HA26.out (ok':=fun k=>g4<k∧k<ga) (fun k hk=>⟨hk.1,by rw [hg];exact hk.2⟩));clear HI5 HCh5 B35 B45 HV5 HA15 HA25;clear hb hbox hg;have qc0:=(blk_cell BA6.out 0).trans rfl;have qc1:=(blk_cell BA6.out 1).trans rfl;have qc2:=(blk_cell BA6.out 2).trans rfl;have qf0:=blk_frozen BA6.out 0;have qf1:=blk_frozen BA6.out 1;have qf2:=blk_frozen BA6.out 2
 go_wp2_with ((with_reducible refine gate_store (t:=28) (p:=7) rfl ?_);refine Classical.byContradiction (fun hng=>?_))
 refine hng ?_;clear hng;refine store_event (t:=28) (p:=7) (v:=?vm1) (w1:=(shBox w6 ga (.bool fa) (.slice A1 la.length c1) (.slice A2 sa.length c2))) ?hg ?ho ?hn ?hr ?_
 (case ho=>rfl)
 (case hg=>rfl)
 (case hn=>rfl)
 (case hr=>first|(go_simp;done)|(go_simp;rfl))
 intro w7 hw;have hst:Ch (fun k=>k=ga) w6 w7:=by rw [hw];exact (Ch.refl (fun k=>k=ga) _).box3 (.inl rfl) _ _ _
 have B37:=aK (hst.blk B36.out (by have:=HGa.out;have:=H4.out;omega));have B47:=aK (hst.blk B46.out (by have:=HGa.out;have:=H4.out;omega));have HV7:=aK (hst.V HV6.out (fun k q=>by omega));have HA17:=aK (hst.V HA16.out (fun k q=>by omega));have HA27:=aK (hst.V HA26.out (fun k q=>by omega));have BA7:=aK (show w7.heap[ga]? =some (.cells #[.bool fa,.slice A1 la.length c1,.slice A2 sa.length c2] 28 (0,0)) by rw [hw];exact blk_box3 BA6.out);have HI7:=aK (HI6.out.ch hst (by have:=HG.out;have:=H3.out;have:=H4.out;have:=HGa.out;omega) (fun k hk=>by have:=HG.out;have:=H3.out;have:=H4.out;have:=HGa.out;omega));have HCh7:=aK (HCh6.out.trans hst (fun k hk=> .inr (by have:=HBW.out;have:=H3.out;have:=H4.out;have:=HGa.out;omega)));clear hw hst BA6;clear HI6 HCh6 B36 B46 HV6 HA16 HA26;clear qc0 qc1 qc2;clear qf0 qf1 qf2;obtain ⟨sB,hsB⟩: ∃x,x=w7.heap.size:=⟨_,rfl⟩;have HSB:=aK (show ga<sB by rw [hsB];exact blk_lt BA7.out);have HS7:=aK hsB;clear hsB
 go_wp2_with (go_at_call 44;refine Classical.byContradiction (fun hng=>?_))
 refine hng ?_;clear hng;refine (shape_any _ g (cs.length:Int) m w0 _ HI7.out (by have:=HM.out;omega) (by have:=HL.out;omega) (by have:=HL.out;omega) HMm.out.1 (by have:=HMm.out;omega)).mono ?_;rintro e w8 ⟨fb,lb,sb,vb1,vb2,rfl,hl_,h1,h2,hi,hk⟩;rw [←HS7.out] at h1 h2;have HLb:=aK hl_;have HP18:=aK (Kd.R_mono (Kd.R_bound h1) (ok':=fun k=>sB≤k∧k<w8.heap.size) (fun k hk=>⟨hk.2.1,hk.2.2.1⟩));have HP28:=aK (Kd.R_V (base':=0) (Kd.R_mono (Kd.R_bound h2) (ok':=fun k=>(sB≤k∧k<w8.heap.size)∧some k≠vb1.ownBlock) (fun k hk=>⟨⟨hk.2.1,hk.2.2.1⟩,hk.1⟩)));obtain ⟨B1,d1,e1⟩:=Kd.R_slice HP18.out;subst e1;obtain ⟨B2,d2,e2⟩:=Kd.V_slice HP28.out;subst e2;have HS8:=aK (show sB≤w8.heap.size by rw [HS7.out];exact hk.1);clear h1 h2 hl_;have hst:=HI7.out.step hi hk;have HI8:=aK hi;have HCh8:=aK (HCh7.out.then_ hst);have B38:=aK (hst.blk B37.out (by have:=HG.out;have:=H3.out;have:=H4.out;have:=HGa.out;omega));have B48:=aK (hst.blk B47.out (by have:=HG.out;have:=H3.out;have:=H4.out;have:=HGa.out;omega));have BA8:=aK (hst.blk BA7.out (by have:=HG.out;have:=H3.out;have:=H4.out;have:=HGa.out;omega));have HV8:=aK (hst.V HV7.out (fun k q=>by have:=HG.out;have:=H3.out;have:=H4.out;have:=HGa.out;omega));have HA18:=aK (hst.V HA17.out (fun k q=>by have:=HG.out;have:=H3.out;have:=H4.out;have:=HGa.out;omega));have HA28:=aK (hst.V HA27.out (fun k q=>by have:=HG.out;have:=H3.out;have:=H4.out;have:=HGa.out;omega));clear hst hi hk;clear HI7 HCh7 B37 B47 BA7 HV7 HA17 HA27
 go_wp2_with ((with_reducible refine gate_dst (N:=8) rfl ?_);refine Classical.byContradiction (fun hng=>?_))
 refine hng ?_;clear hng;refine box_event ?hg (N:=8) ?hd (cs:= #[.bool false,.slice none 0 0,.slice none 0 0]) (t:=28) ?hr ?_
 (case hd=>rfl)
 (case hg=>rfl)
 (case hr=>first|(go_simp;done)|(go_simp;rfl))
 intro gb hg w9 hbox hb;have BB9:=aK hbox;have HGb:=aK (show sB≤gb by rw [hg];exact HS8.out);have HI9:=aK (HI8.out.below hb);have HCh9:=aK (HCh8.out.below hb);have B39:=aK (blk_below B38.out hb);have B49:=aK (blk_below B48.out hb);have BA9:=aK (blk_below BA8.out hb);have HV9:=aK (Kd.V_below HV8.out hb);have HA19:=aK (Kd.V_below HA18.out hb);have HA29:=aK (Kd.V_below HA28.out hb);have HP19:=aK (Kd.R_mono (Kd.R_below HP18.out hb) (ok':=fun k=>sB≤k∧k<gb) (fun k hk=>by rw [hg];exact hk));have HP29:=aK (Kd.V_mono (Kd.V_below HP28.out hb) (ok':=fun k=>(sB≤k∧k<gb)∧some k≠(Value.slice B1 lb.length d1).ownBlock) (fun k hk=>by rw [hg];exact hk));clear HP18 HP28 HS8;clear HI8 HCh8 B38 B48 BA8 HV8 HA18 HA28;clear hb hbox hg;have qc0:=(blk_cell BB9.out 0).trans rfl;have qc1:=(blk_cell BB9.out 1).trans rfl;have qc2:=(blk_cell BB9.out 2).trans rfl;have qf0:=blk_frozen BB9.out 0;have qf1:=blk_frozen BB9.out 1;have qf2:=blk_frozen BB9.out 2
 go_wp2_with ((with_reducible refine gate_store (t:=28) (p:=8) rfl ?_);refine Classical.byContradiction (fun hng=>?_))
 refine hng ?_;clear hng;refine store_event (t:=28) (p:=8) (v:=?vm2) (w1:=(shBox w9 gb (.bool fb) (.slice B1 lb.length d1) (.slice B2 sb.length d2))) ?hg ?ho ?hn ?hr ?_
 (case ho=>rfl)
 (case hg=>rfl)
 (case hn=>rfl)
 (case hr=>first|(go_simp;done)|(go_simp;rfl))
 intro wa hw;have hst:Ch (fun k=>k=gb) w9 wa:=by rw [hw];exact (Ch.refl (fun k=>k=gb) _).box3 (.inl rfl) _ _ _
 have HTa:Aside0 (Tw b0 g g3 g4 sB ga gb w0 w (M+400) A n cs fa A1 c1 la A2 c2 sa fb B1 d1 lb B2 d2 sb wa):=⟨hst.V (Kd.V_mono HV9.out (fun k hk=>⟨hk.1,by have:=hk.2;have:=HSB.out;omega⟩)) (fun k q=>by have:=HGb.out;omega),hst.V (Kd.V_mono HA19.out (fun k hk=>⟨hk.1,by have:=hk.2;have:=HSB.out;omega⟩)) (fun k q=>by have:=HGb.out;omega),hst.V (Kd.V_mono HA29.out (fun k hk=>⟨hk.1,by have:=hk.2;have:=HSB.out;omega⟩)) (fun k q=>by have:=HGb.out;omega),hst.R HP19.out (fun k q=>by omega),hst.V HP29.out (fun k q=>by omega),hst.blk B39.out (by have:=HGb.out;have:=HSB.out;have:=HGa.out;have:=H4.out;have:=H3.out;have:=HG.out;omega),hst.blk B49.out (by have:=HGb.out;have:=HSB.out;have:=HGa.out;have:=H4.out;have:=H3.out;have:=HG.out;omega),hst.blk BA9.out (by have:=HGb.out;have:=HSB.out;have:=HGa.out;have:=H4.out;have:=H3.out;have:=HG.out;omega),(by rw [hw];exact blk_box3 BB9.out),⟨HG.out.1,H3.out,H4.out,HGa.out,HSB.out,HGb.out,HG.out.2,HBW.out.symm⟩,(HI9.out.ch hst (by have:=HGb.out;have:=HSB.out;have:=HGa.out;have:=H4.out;have:=H3.out;have:=HG.out;omega) (fun k hk=>by have:=HGb.out;have:=HSB.out;have:=HGa.out;have:=H4.out;have:=H3.out;have:=HG.out;omega)).le (by omega),HCh9.out.trans hst (fun k hk=> .inr (by have:=HBW.out;have:=HGb.out;have:=HSB.out;have:=HGa.out;have:=H4.out;have:=H3.out;omega))⟩
 clear hw hst BB9 HP19 HP29;clear HI9 HCh9 B39 B49 BA9 HV9 HA19 HA29;clear qc0 qc1 qc2;clear qf0 qf1 qf2;have HLs:=aK HLb.out.2;replace HLb:=aK HLb.out.1;have k1:=(blk_cell HTa.out.bb 2).trans rfl;have k2:=(blk_cell HTa.out.ba 2).trans rfl;go_wp2
 (try go_simp)
 go_loopw [] (fun wr=> ∃(B2:Option Addr) (d2:Nat) (sb:List Int),Aside0 (sb.length≤60)∧Aside0 (Tw b0 g g3 g4 sB ga gb w0 w (M+400) A n cs fa A1 c1 la A2 c2 sa fb B1 d1 lb B2 d2 sb wr)) (fun wr=>lenAt (wr.cell? ⟨gb,2,none⟩))
 case atStart=>exact ⟨B2,d2,sb,HLs,HTa⟩
 case round =>
  clear HTa HLs k1 k2;obtain ⟨B2,d2,sb,HLs,HT⟩:=hrel;have k1:=(blk_cell HT.out.bb 2).trans rfl;have f1:=blk_frozen HT.out.bb 2;have k2:=(blk_cell HT.out.ba 2).trans rfl;by_cases cx:(sa.length:Int)<(sb.length:Int)
  ·have t0_ : decide ((sa.length : Int) < (sb.length : Int)) = true := decide_eq_true cx
   have t1_:=eq_true (show sa.length<sb.length by omega);obtain ⟨ad,e_,_⟩:=Kd.at_int (Kd.V_reads' HT.out.p2).2.2 0 (by omega) (by omega);subst e_;have hcc:=(Kd.V_reads' HT.out.p2).2.1;have HCx:=aK (show 1≤sb.length by omega);have p1:=eq_true (show 1≤sb.length by omega);have p2:=eq_true (show (1:Int)≤(sb.length:Int) by omega);have p4:=eq_true (show 1≤d2 by omega);have p5:=eq_true (show (1:Int)≤(d2:Int) by omega);clear hcc cx;by_cases cc:d2=1
   ·have p3 := eq_true cc
    go_wp2_with ((with_reducible refine gate_store (t:=23) (p:=34) rfl ?_);refine Classical.byContradiction (fun hng=>?_))
    refine hng ?_;clear hng;refine store_event (t:=23) (p:=34) (v:=?vs1) (w1:=(wr.setCell ⟨gb,2,none⟩ (.slice (some ad) (sb.length - 1) (d2 - 1)))) ?hg ?ho ?hn ?hr ?_
    (case ho=>rfl)
    (case hg=>rfl)
    (case hn=>rfl)
    (case hr=>first|(go_simp;done)|(go_simp;rfl))
    intro wb hw;have HT2:=aK (HT.out.cut (A':=(some ad)) HCx.out (by rw [if_pos cc]));rw [←hw] at HT2;have HK:=aK k1;clear hw k1 f1 k2 p1 p2 p3 p4 p5 t0_ t1_;go_wp2
    go_roundw
    case rel=>exact ⟨_,_,_,⟨by have:=HLs.out;have:=HCx.out;rw [List.length_drop];omega⟩,HT2⟩
    case measure=>rw [HK.out,(blk_cell HT2.out.bb 2).trans rfl];have:=HCx.out;show (sb.drop 1).length<sb.length;rw [List.length_drop];omega
   ·have p3 := eq_false cc
    go_wp2_with ((with_reducible refine gate_store (t:=23) (p:=34) rfl ?_);refine Classical.byContradiction (fun hng=>?_))
    refine hng ?_;clear hng;refine store_event (t:=23) (p:=34) (v:=?vs1) (w1:=(wr.setCell ⟨gb,2,none⟩ (.slice (some (ad.add 1)) (sb.length - 1) (d2 - 1)))) ?hg ?ho ?hn ?hr ?_
    (case ho=>rfl)
    (case hg=>rfl)
    (case hn=>rfl)
    (case hr=>first|(go_simp;done)|(go_simp;rfl))
    intro wb hw;have HT2:=aK (HT.out.cut (A':=(some (ad.add 1))) HCx.out (by rw [if_neg cc];rfl));rw [←hw] at HT2;have HK:=aK k1;clear hw k1 f1 k2 p1 p2 p3 p4 p5 t0_ t1_;go_wp2
    go_roundw
    case rel=>exact ⟨_,_,_,⟨by have:=HLs.out;have:=HCx.out;rw [List.length_drop];omega⟩,HT2⟩
    case measure=>rw [HK.out,(blk_cell HT2.out.bb 2).trans rfl];have:=HCx.out;show (sb.drop 1).length<sb.length;rw [List.length_drop];omega
  ·have t0_ : decide ((sa.length : Int) < (sb.length : Int)) = false := decide_eq_false cx
   have t1_:=eq_false (show¬sa.length<sb.length by omega);clear cx;go_wp2
   go_loopw [9] (fun v9 wr=> ∃(i:Int) (lb:List Int),v9= .int .i64 i∧Aside0 (0≤i∧i≤60)∧Aside0 (lb.length≤60)∧Aside0 (Tw b0 g g3 g4 sB ga gb w0 w (M+400+i) A n cs fa A1 c1 la A2 c2 sa fb B1 d1 lb B2 d2 sb wr)) (fun v9 _=>60 - (intOf v9).toNat)
   case atStart=>exact ⟨0,lb,rfl,⟨by omega,by omega⟩,HLb,⟨by have h_:=HT.out;rw [Int.add_zero];exact h_⟩⟩
   case round =>
    clear HT k1 k2;obtain ⟨i,lb,rfl,HI,HLb,HT⟩:=hrel;have k1:=(blk_cell HT.out.bb 1).trans rfl;have k2:=(blk_cell HT.out.ba 1).trans rfl;have r0:=eq_true HI.out.1;by_cases cx:i<(lb.length:Int)
    ·have t2_ : decide (i < (lb.length : Int)) = true := decide_eq_true cx
     have r1:=eq_true cx;have HC1:=aK cx;clear cx;by_cases cy:i<(la.length:Int)
     ·have t3_ : decide (i < (la.length : Int)) = true := decide_eq_true cy
      have r2:=eq_true cy;have HC2:=aK cy;clear cy;have u5:IntKind.i64.wrap (i+1)=i+1:=IntWalk.i64_in _ (by have:=HI.out;omega)
      go_wp2_with (go_at_call 43;refine Classical.byContradiction (fun hng=>?_))
      refine hng ?_;clear hng;refine (pick_any _ g 3 w0 _ HT.out.hi (by have:=HM.out;have:=HI.out;omega) (by omega) (by omega)).mono ?_;rintro e wp ⟨q,rfl,hq,hi,hk⟩;have HN:=aK (show Tw b0 g g3 g4 sB ga gb w0 w (M+400+(i+1)) A n cs fa A1 c1 la A2 c2 sa fb B1 d1 lb B2 d2 sb wp from (show M+400+i+1=M+400+(i+1) by omega) ▸ HT.out.pick hi hk);clear hi hk hq HT k1 k2;by_cases cq:q=0
      ·subst cq
       go_wp2;obtain ⟨g1,d1',e1,hg1,_,_⟩:=Kd.R_form HN.out.p1 (by have:=HC1.out;have:=HI.out;omega);injection e1 with a1 a2 a3;subst a1;clear a2 a3;replace HN:=aK (HN.out.below (below_drew1 (Below.refl _ _)));obtain ⟨ad,e_,k3⟩:=Kd.at_int (Kd.V_reads' HN.out.a1).2.2 i HI.out.1 HC2.out;subst e_;obtain ⟨k4,f4⟩:=Kd.R_cell (enc:=Value.int .i64) (h1:=fun _=>rfl) 0 HN.out.p1 i HI.out.1 HC1.out;have k1:=(blk_cell HN.out.bb 1).trans rfl;have k2:=(blk_cell HN.out.ba 1).trans rfl;refine sT 10 (S:=fun w'=>w'.cell? ⟨gb,1,none⟩=some (.slice (some ⟨g1,0,none⟩) lb.length d1)∧w'.cell? ⟨ga,1,none⟩=some (.slice (some ad) la.length c1)∧w'.cell? (ad.add i.toNat)=some (.int .i64 (rd la i))) (ds:=[9]) ⟨k1,k2,k3⟩ (fun hHeld=>?_);generalize World.drew wp=wt at HN k1 k2 k3 k4 f4 hHeld ⊢;refine pS 0 52 #[true,false,false,false,false,false,false,false,false,false] ?_;refine pS 2 54 #[true,false,true,false,false,false,false,false,false,false] ?_;refine pS 3 55 #[true,false,true,true,false,false,false,false,false,false] ?_;refine pS 5 57 #[true,false,true,true,false,true,false,false,false,false] ?_;refine tS 1 53 #[true,true,true,true,false,true,false,false,false,false] rfl rfl (by kernel_rfl) hHeld (by rintro w' ⟨s0,s1,s2⟩;go_simp;with_reducible rfl) ?_;refine tS 4 56 #[true,true,true,true,true,true,false,false,false,false] rfl rfl (by kernel_rfl) hHeld (by rintro w' ⟨s0,s1,s2⟩;go_simp;with_reducible rfl) ?_;refine pS 6 58 #[true,true,true,true,true,true,true,false,false,false] ?_;refine tS 7 59 #[true,true,true,true,true,true,true,true,false,false] rfl rfl (by kernel_rfl) hHeld (by rintro w' ⟨s0,s1,s2⟩;go_simp;with_reducible rfl) ?_;refine pS 8 60 #[true,true,true,true,true,true,true,true,true,false] ?_;refine last_ (i:=9) (N:=none) #[true,true,true,true,true,true,true,true,true,true] rfl rfl (by kernel_rfl) (by decide) (fun K hK=>?_);refine skip_ (w1:=?_) (by rfl) rfl ?_ ?_;rotate_left
       ·go_simp
        rfl
       refine hK.out _ _ ?_;clear hK K;refine done_ (by kernel_rfl) ?_;replace HN:=aK (HN.out.put i (rd la i));clear k1 k2 k3 k4 f4;go_wp2
       go_roundw
       case rel=>exact ⟨i+1,lb.set i.toNat (rd la i),rfl,⟨by have:=HI.out;have:=HC1.out;have:=HLb.out;omega⟩,⟨by rw [List.length_set];exact HLb.out⟩,⟨HN.out⟩⟩
       case measure=>have:=HI.out;have:=HC1.out;have:=HLb.out;simp only [intOf];omega
      ·have t4_ : (q == 0) = false := beq_eq_false_iff_ne.mpr cq
       have t5_:decide (q=0)=false:=decide_eq_false cq
       clear cq;go_wp2
       go_roundw
       case rel=>exact ⟨i+1,lb,rfl,⟨by have:=HI.out;have:=HC1.out;have:=HLb.out;omega⟩,HLb,⟨HN.out⟩⟩
       case measure=>have:=HI.out;have:=HC1.out;have:=HLb.out;simp only [intOf];omega
     ·have t3_ : decide (i < (la.length : Int)) = false := decide_eq_false cy
      clear cy;go_wp2;clear k1 k2;replace HT:=aK (HT.out.below (below_drew1 (Below.refl _ _)));refine sT 6 (S:=fun w'=>w'.cell? ⟨ga,0,none⟩=some (.bool fa)∧w'.cell? ⟨ga,1,none⟩=some (.slice A1 la.length c1)∧w'.cell? ⟨ga,2,none⟩=some (.slice A2 sa.length c2)∧w'.cell? ⟨gb,0,none⟩=some (.bool fb)∧w'.cell? ⟨gb,1,none⟩=some (.slice B1 lb.length d1)∧w'.cell? ⟨gb,2,none⟩=some (.slice B2 sb.length d2)) (ds:=[5]) ⟨((blk_cell HT.out.ba 0).trans rfl),((blk_cell HT.out.ba 1).trans rfl),((blk_cell HT.out.ba 2).trans rfl),((blk_cell HT.out.bb 0).trans rfl),((blk_cell HT.out.bb 1).trans rfl),((blk_cell HT.out.bb 2).trans rfl)⟩ (fun hHeld=>?_);generalize World.drew wr=wt at HT hHeld ⊢;have n34:g3≠g4:=by have:=H4.out;omega
      have n43:g4≠g3:=by have:=H4.out;omega
      have x0:=(blk_cell HT.out.b3 0).trans rfl;have x0_:=blk_frozen HT.out.b3 0;have z0:=(blk_cell HT.out.b4 0).trans rfl;have z0_:=blk_frozen HT.out.b4 0;have x1:=(blk_cell HT.out.b3 1).trans rfl;have x1_:=blk_frozen HT.out.b3 1;have z1:=(blk_cell HT.out.b4 1).trans rfl;have z1_:=blk_frozen HT.out.b4 1;have x2:=(blk_cell HT.out.b3 2).trans rfl;have x2_:=blk_frozen HT.out.b3 2;have z2:=(blk_cell HT.out.b4 2).trans rfl;have z2_:=blk_frozen HT.out.b4 2;refine pS 0 61 #[true,false,false,false,false,false] ?_;refine pS 3 2 #[true,false,false,true,false,false] ?_;refine tS 1 62 #[true,true,false,true,false,false] rfl rfl (by kernel_rfl) hHeld (by rintro w' ⟨s0,s1,s2,s3,s4,s5⟩;go_simp;with_reducible rfl) ?_;refine tS 2 63 #[true,true,true,true,false,false] rfl rfl (by kernel_rfl) hHeld (by rintro w' ⟨s0,s1,s2,s3,s4,s5⟩;go_simp;with_reducible rfl) ?_;refine one_ (i:=4) (N:=none) #[true,true,true,true,true,false] rfl rfl (by kernel_rfl) (by decide) (fun K hK=>?_);refine skip_ (w1:=?_) (by rfl) rfl ?_ ?_;rotate_left
      ·go_simp
       rfl
      refine hK.out _ _ ⟨((blk_cell (((Ch.refl (fun k=>k=g3) _).box3 (.inl rfl) _ _ _).blk HT.out.ba (by have:=HT.out.ord;omega)) 0).trans rfl),((blk_cell (((Ch.refl (fun k=>k=g3) _).box3 (.inl rfl) _ _ _).blk HT.out.ba (by have:=HT.out.ord;omega)) 1).trans rfl),((blk_cell (((Ch.refl (fun k=>k=g3) _).box3 (.inl rfl) _ _ _).blk HT.out.ba (by have:=HT.out.ord;omega)) 2).trans rfl),((blk_cell (((Ch.refl (fun k=>k=g3) _).box3 (.inl rfl) _ _ _).blk HT.out.bb (by have:=HT.out.ord;omega)) 0).trans rfl),((blk_cell (((Ch.refl (fun k=>k=g3) _).box3 (.inl rfl) _ _ _).blk HT.out.bb (by have:=HT.out.ord;omega)) 1).trans rfl),((blk_cell (((Ch.refl (fun k=>k=g3) _).box3 (.inl rfl) _ _ _).blk HT.out.bb (by have:=HT.out.ord;omega)) 2).trans rfl)⟩ (fun hHeld=>?_);clear hK K;refine last_ (i:=5) (N:=none) #[true,true,true,true,true,true] rfl rfl (by kernel_rfl) (by decide) (fun K hK=>?_);refine skip_ (w1:=?_) (by rfl) rfl ?_ ?_;rotate_left
      ·go_simp
       rfl
      refine hK.out _ _ ?_;clear hK K;refine done_ (by kernel_rfl) ?_

      clear n34 n43 x0 x0_ z0 z0_ x1 x1_ z1 z1_ x2 x2_ z2 z2_;go_wp2;refine bodyPost_ret (results_list (rs:=[.tmp 2,.cell 3 28,.cell 4 28]) rfl (by simp) (.tmp (.cell g3 28 #[.bool fa,.slice A1 la.length c1,.slice A2 sa.length c2] (0,0) _ rfl ((Ch.box3 (Ch.refl (fun k=>k=g4) _) (.inl rfl) _ _ _).blk (blk_box3 HT.out.b3) (by have:=H4.out;omega)) Try.underlying28 rfl (by kernel_rfl) (.cell g4 28 #[.bool fb,.slice B1 lb.length d1,.slice B2 sb.length d2] (0,0) _ rfl (blk_box3 ((Ch.box3 (Ch.refl (fun k=>k=g3) _) (.inl rfl) _ _ _).blk HT.out.b4 (by have:=H4.out;omega))) Try.underlying28 rfl (by kernel_rfl) .nil)))) rfl ?_;exact two_end HL.out HF.out HLa.out HLb.out HLs.out HT.out (by have:=HI.out;omega)
    ·have t2_ : decide (i < (lb.length : Int)) = false := decide_eq_false cx
     clear cx;go_wp2;clear k1 k2;replace HT:=aK (HT.out.below (below_drew1 (Below.refl _ _)));refine sT 6 (S:=fun w'=>w'.cell? ⟨ga,0,none⟩=some (.bool fa)∧w'.cell? ⟨ga,1,none⟩=some (.slice A1 la.length c1)∧w'.cell? ⟨ga,2,none⟩=some (.slice A2 sa.length c2)∧w'.cell? ⟨gb,0,none⟩=some (.bool fb)∧w'.cell? ⟨gb,1,none⟩=some (.slice B1 lb.length d1)∧w'.cell? ⟨gb,2,none⟩=some (.slice B2 sb.length d2)) (ds:=[5]) ⟨((blk_cell HT.out.ba 0).trans rfl),((blk_cell HT.out.ba 1).trans rfl),((blk_cell HT.out.ba 2).trans rfl),((blk_cell HT.out.bb 0).trans rfl),((blk_cell HT.out.bb 1).trans rfl),((blk_cell HT.out.bb 2).trans rfl)⟩ (fun hHeld=>?_);generalize World.drew wr=wt at HT hHeld ⊢;have n34:g3≠g4:=by have:=H4.out;omega
     have n43:g4≠g3:=by have:=H4.out;omega
     have x0:=(blk_cell HT.out.b3 0).trans rfl;have x0_:=blk_frozen HT.out.b3 0;have z0:=(blk_cell HT.out.b4 0).trans rfl;have z0_:=blk_frozen HT.out.b4 0;have x1:=(blk_cell HT.out.b3 1).trans rfl;have x1_:=blk_frozen HT.out.b3 1;have z1:=(blk_cell HT.out.b4 1).trans rfl;have z1_:=blk_frozen HT.out.b4 1;have x2:=(blk_cell HT.out.b3 2).trans rfl;have x2_:=blk_frozen HT.out.b3 2;have z2:=(blk_cell HT.out.b4 2).trans rfl;have z2_:=blk_frozen HT.out.b4 2;refine pS 0 61 #[true,false,false,false,false,false] ?_;refine pS 3 2 #[true,false,false,true,false,false] ?_;refine tS 1 62 #[true,true,false,true,false,false] rfl rfl (by kernel_rfl) hHeld (by rintro w' ⟨s0,s1,s2,s3,s4,s5⟩;go_simp;with_reducible rfl) ?_;refine tS 2 63 #[true,true,true,true,false,false] rfl rfl (by kernel_rfl) hHeld (by rintro w' ⟨s0,s1,s2,s3,s4,s5⟩;go_simp;with_reducible rfl) ?_;refine one_ (i:=4) (N:=none) #[true,true,true,true,true,false] rfl rfl (by kernel_rfl) (by decide) (fun K hK=>?_);refine skip_ (w1:=?_) (by rfl) rfl ?_ ?_;rotate_left
     ·go_simp
      rfl
     refine hK.out _ _ ⟨((blk_cell (((Ch.refl (fun k=>k=g3) _).box3 (.inl rfl) _ _ _).blk HT.out.ba (by have:=HT.out.ord;omega)) 0).trans rfl),((blk_cell (((Ch.refl (fun k=>k=g3) _).box3 (.inl rfl) _ _ _).blk HT.out.ba (by have:=HT.out.ord;omega)) 1).trans rfl),((blk_cell (((Ch.refl (fun k=>k=g3) _).box3 (.inl rfl) _ _ _).blk HT.out.ba (by have:=HT.out.ord;omega)) 2).trans rfl),((blk_cell (((Ch.refl (fun k=>k=g3) _).box3 (.inl rfl) _ _ _).blk HT.out.bb (by have:=HT.out.ord;omega)) 0).trans rfl),((blk_cell (((Ch.refl (fun k=>k=g3) _).box3 (.inl rfl) _ _ _).blk HT.out.bb (by have:=HT.out.ord;omega)) 1).trans rfl),((blk_cell (((Ch.refl (fun k=>k=g3) _).box3 (.inl rfl) _ _ _).blk HT.out.bb (by have:=HT.out.ord;omega)) 2).trans rfl)⟩ (fun hHeld=>?_);clear hK K;refine last_ (i:=5) (N:=none) #[true,true,true,true,true,true] rfl rfl (by kernel_rfl) (by decide) (fun K hK=>?_);refine skip_ (w1:=?_) (by rfl) rfl ?_ ?_;rotate_left
     ·go_simp
      rfl
     refine hK.out _ _ ?_;clear hK K;refine done_ (by kernel_rfl) ?_

     clear n34 n43 x0 x0_ z0 z0_ x1 x1_ z1 z1_ x2 x2_ z2 z2_;go_wp2;refine bodyPost_ret (results_list (rs:=[.tmp 2,.cell 3 28,.cell 4 28]) rfl (by simp) (.tmp (.cell g3 28 #[.bool fa,.slice A1 la.length c1,.slice A2 sa.length c2] (0,0) _ rfl ((Ch.box3 (Ch.refl (fun k=>k=g4) _) (.inl rfl) _ _ _).blk (blk_box3 HT.out.b3) (by have:=H4.out;omega)) Try.underlying28 rfl (by kernel_rfl) (.cell g4 28 #[.bool fb,.slice B1 lb.length d1,.slice B2 sb.length d2] (0,0) _ rfl (blk_box3 ((Ch.box3 (Ch.refl (fun k=>k=g3) _) (.inl rfl) _ _ _).blk HT.out.b4 (by have:=H4.out;omega))) Try.underlying28 rfl (by kernel_rfl) .nil)))) rfl ?_;exact two_end HL.out HF.out HLa.out HLb.out HLs.out HT.out (by have:=HI.out;omega)
def DrawS (w:World) (e:Ending) (w':World):Prop:= ∃(A:Option Addr) (n:Nat) (cs:List S48) (fa:Bool) (A1:Option Addr) (c1:Nat) (la:List Int) (A2:Option Addr) (c2:Nat) (sa:List Int) (fb:Bool) (B1:Option Addr) (d1:Nat) (lb:List Int) (B2:Option Addr) (d2:Nat) (sb:List Int),
  e= .returned (.tuple #[.slice A cs.length n,.agg #[.bool fa,.slice A1 la.length c1,.slice A2 sa.length c2],.agg #[.bool fb,.slice B1 lb.length d1,.slice B2 sb.length d2]])∧(1≤cs.length∧cs.length≤9)∧(∀x∈cs,x.f1.length≤3)∧(la.length≤60∧sa.length≤60∧lb.length≤60∧sb.length≤60)∧
  Kd.V k48 48 w' 0 (fun k=>w.heap.size≤k) (.slice A cs.length n) cs∧Kd.V (Kd.int .i64) 3 w' 0 (fun k=>w.heap.size≤k) (.slice A1 la.length c1) la∧Kd.V (Kd.int .i64) 3 w' 0 (fun k=>w.heap.size≤k) (.slice A2 sa.length c2) sa∧Kd.V (Kd.int .i64) 3 w' 0 (fun k=>w.heap.size≤k) (.slice B1 lb.length d1) lb∧Kd.V (Kd.int .i64) 3 w' 0 (fun k=>w.heap.size≤k) (.slice B2 sb.length d2) sb∧Below w.heap.size w w'
set_option maxHeartbeats 16000000 in
set_option maxRecDepth 100000 in
theorem shapejoin_any (AC:Option Addr) (cC:Nat) (lC:List Int) (w:World) (hr0:Kd.C (Kd.int .u8) w AC lC.length lC) (hc0:lC.length≤cC) (hl: ∀x∈lC,(Lit.int .u8 x).wf=true):
  Calls Try.prog 16 #[.slice AC lC.length cC] w (DrawS w):=by
 have HR0:=aK hr0;have HC0:=aK hc0;have HL:=aK hl;have HB0:=aK (Below.refl w.heap.size w);clear hr0 hc0 hl;go_enter Try.func16,Try.ntmps16
 go_wp2_with ((with_reducible refine gate_dst (N:=3) rfl ?_);refine Classical.byContradiction (fun hng=>?_))
 refine hng ?_;clear hng;refine box_event ?hg (N:=3) ?hd (cs:= #[.bool false,.slice none 0 0,.slice none 0 0]) (t:=28) ?hr ?_
 (case hd=>rfl)
 (case hg=>rfl)
 (case hr=>first|(go_simp;done)|(go_simp;rfl))
 intro g3 hg w1 hbox hb;have B31:=aK hbox;have H3:=aK (show w.heap.size≤g3 by rw [hg];exact Nat.le_refl _);have HB1:=aK (below_step HB0.out hb);clear hb hbox hg HB0
 go_wp2_with ((with_reducible refine gate_dst (N:=4) rfl ?_);refine Classical.byContradiction (fun hng=>?_))
 refine hng ?_;clear hng;refine box_event ?hg (N:=4) ?hd (cs:= #[.bool false,.slice none 0 0,.slice none 0 0]) (t:=28) ?hr ?_
 (case hd=>rfl)
 (case hg=>rfl)
 (case hr=>first|(go_simp;done)|(go_simp;rfl))
 intro g4 hg w2 hbox hb;have B42:=aK hbox;have H4:=aK (show g3<g4 by rw [hg];exact blk_lt B31.out);have B32:=aK (blk_below B31.out hb);have HB2:=aK (below_step HB1.out hb);clear hb hbox hg HB1 B31
 go_wp2_with (go_at_call 33;refine Classical.byContradiction (fun hng=>?_))
 refine hng ?_;clear hng;refine (open_any AC cC lC _ (Kd.C_below HR0.out HB2.out) HC0.out HL.out).mono ?_;rintro e w3 ⟨g,rfl,hi,hge,hb⟩;have HI:=aK hi;have HG:=aK (show g4<g from Nat.lt_of_lt_of_le (blk_lt B42.out) hge);have HB3:=aK (below_step HB2.out hb);have B33:=aK (blk_below B32.out hb);have B43:=aK (blk_below B42.out hb);clear hi hge hb HB2 B32 B42 HR0 HC0 HL
 go_wp2_with (go_at_call 32;refine Classical.byContradiction (fun hng=>?_))
 refine hng ?_;clear hng;refine (two_any _ g _ _ HI.out (by omega)).mono ?_;rintro e w4 ⟨A,n,cs,fa,A1,c1,la,A2,c2,sa,fb,B1,d1,lb,B2,d2,sb,rfl,hl,hf,h6,v5,va1,va2,vb1,vb2,hi,hc⟩;have HS:=aK (show g4<w3.heap.size from blk_lt B43.out);have HV:=aK (show _∧_∧_∧_∧_ from ⟨v5,va1,va2,vb1,vb2⟩);have HQ:=aK (show _∧_∧_ from ⟨hl,hf,h6⟩);have HB4:=aK (HB3.out.trans (hc.toBelow (B:=w.heap.size) (below_size HB3.out) (fun k hk=>by have:=HG.out;have:=H3.out;have:=H4.out;omega)));have B34:=aK (hc.blk B33.out (by have:=HG.out;have:=H4.out;omega));have B44:=aK (hc.blk B43.out (by have:=HG.out;omega));clear hl hf h6 v5 va1 va2 vb1 vb2 hi hc HI HB3 B33 B43;have n34:g3≠g4:=by have:=H4.out;omega
 have n43:g4≠g3:=by have:=H4.out;omega
 have x0:=(blk_cell B34.out 0).trans rfl;have x0_:=blk_frozen B34.out 0;have z0:=(blk_cell B44.out 0).trans rfl;have z0_:=blk_frozen B44.out 0;have x1:=(blk_cell B34.out 1).trans rfl;have x1_:=blk_frozen B34.out 1;have z1:=(blk_cell B44.out 1).trans rfl;have z1_:=blk_frozen B44.out 1;have x2:=(blk_cell B34.out 2).trans rfl;have x2_:=blk_frozen B34.out 2;have z2:=(blk_cell B44.out 2).trans rfl;have z2_:=blk_frozen B44.out 2;go_wp2;refine bodyPost_ret (results_list (rs:=[.tmp 2,.cell 3 28,.cell 4 28]) rfl (by simp) (.tmp (.cell g3 28 #[.bool fa,.slice A1 la.length c1,.slice A2 sa.length c2] (0,0) _ rfl ((Ch.box3 (Ch.refl (fun k=>k=g4) _) (.inl rfl) _ _ _).blk (blk_box3 B34.out) (by have:=H4.out;omega)) Try.underlying28 rfl (by kernel_rfl) (.cell g4 28 #[.bool fb,.slice B1 lb.length d1,.slice B2 sb.length d2] (0,0) _ rfl (blk_box3 ((Ch.box3 (Ch.refl (fun k=>k=g3) _) (.inl rfl) _ _ _).blk B44.out (by have:=H4.out;omega))) Try.underlying28 rfl (by kernel_rfl) .nil)))) rfl ?_;obtain ⟨wf,hwf⟩: ∃z,z=shBox (shBox w4 g3 (.bool fa) (.slice A1 la.length c1) (.slice A2 sa.length c2)) g4 (.bool fb) (.slice B1 lb.length d1) (.slice B2 sb.length d2):=⟨_,rfl⟩;change DrawS w _ (shBox (shBox w4 g3 (.bool fa) (.slice A1 la.length c1) (.slice A2 sa.length c2)) g4 (.bool fb) (.slice B1 lb.length d1) (.slice B2 sb.length d2))
 rw [←hwf];have hc:Ch (fun k=>k=g3∨k=g4) w4 wf:=by rw [hwf];exact ((Ch.refl _ _).box3 (.inl (.inl rfl)) _ _ _).box3 (.inl (.inr rfl)) _ _ _
 exact ⟨A,n,cs,fa,A1,c1,la,A2,c2,sa,fb,B1,d1,lb,B2,d2,sb,rfl,HQ.out.1,HQ.out.2.1,HQ.out.2.2,Kd.V_mono (hc.V HV.out.1 (fun k q=>by have:=HS.out;have:=H4.out;omega)) (fun k q=>by have:=HS.out;have:=H3.out;have:=H4.out;omega),Kd.V_mono (hc.V HV.out.2.1 (fun k q=>by have:=HS.out;have:=H4.out;omega)) (fun k q=>by have:=HS.out;have:=H3.out;have:=H4.out;omega),Kd.V_mono (hc.V HV.out.2.2.1 (fun k q=>by have:=HS.out;have:=H4.out;omega)) (fun k q=>by have:=HS.out;have:=H3.out;have:=H4.out;omega),Kd.V_mono (hc.V HV.out.2.2.2.1 (fun k q=>by have:=HS.out;have:=H4.out;omega)) (fun k q=>by have:=HS.out;have:=H3.out;have:=H4.out;omega),Kd.V_mono (hc.V HV.out.2.2.2.2 (fun k q=>by have:=HS.out;have:=H4.out;omega)) (fun k q=>by have:=HS.out;have:=H3.out;have:=H4.out;omega),HB4.out.trans (hc.toBelow (below_size HB4.out) (fun k hk=>by have:=H3.out;have:=H4.out;omega))⟩
end Go.Proofs.Ytehefmgplkolaaa.K
namespace Go.Proofs.Ytehefmgplkolaaa.K
open Go.RowKit Go.Proofs.YtehefmgplkolaaaW.PrintWords Go.Proofs.YtehefmgplkolaaaW.PrintLast Go.Proofs.YtehefmgplkolaaaW.PrintMore
attribute [local go_sem] max2_int min2_int max_two min_two max_three min_three max_four min_four
set_option linter.unusedVariables false
set_option linter.unusedSimpArgs false
def laws_leInts.l0:Nat→List Int→List Int→Int→Option (Bool)
  |0,_,_,_=>none
  |k+1,x0,x1,x5=>if x5<(x0.length:Int) then (if 0≤x5 then (if x5<(x1.length:Int) then (if (rd x0 x5)=(rd x1 x5) then (laws_leInts.l0 k x0 x1 (wrap64 (x5+1))) else (some false)) else (none)) else (none)) else (some true)
def laws_leInts.f (k:Nat) (l0:List Int) (l1:List Int):Option (Bool):=if (l0.length:Int)=(l1.length:Int) then (laws_leInts.l0 k l0 l1 0) else (some false)
set_option maxHeartbeats 8000000 in
set_option maxRecDepth 100000 in
theorem laws_leInts.calls (k : Nat) (A0 : Option Addr) (c0 : Nat) (l0 : List Int) (A1 : Option Addr) (c1 : Nat) (l1 : List Int) (r : Bool) (w : World) (hr0 : Kd.C (Kd.int .i64) w A0 l0.length l0) (hc0 : l0.length ≤ c0) (hr1 : Kd.C (Kd.int .i64) w A1 l1.length l1) (hc1 : l1.length ≤ c1) (h : laws_leInts.f k l0 l1 = some r) :
  Calls Try.prog 34 #[.slice A0 l0.length c0,.slice A1 l1.length c1] w fun e w'=>e= .returned (.bool r)∧Drawn0 w w':=by
 have HR0:=aK hr0;have HC0:=aK hc0;clear hr0 hc0;have HR1:=aK hr1;have HC1:=aK hc1;clear hr1 hc1;have H:(if (l0.length:Int)=(l1.length:Int) then (laws_leInts.l0 k l0 l1 0) else (some false))=some r:=h
 clear h;by_cases c3:(l0.length:Int)=(l1.length:Int)
 ·rw [if_pos c3] at H
  have c3b0:((l0.length:Int)==(l1.length:Int))=true:=beq_iff_eq.mpr c3
  have c3b1:((l0.length:Int) !=(l1.length:Int))=false:=bne_eq_false_iff_eq.mpr c3
  have c3b2:(l0.length==l1.length)=true:=by first|simpa using c3|(simp at c3 ⊢;omega)
  clear c3;have H':=aK H;clear H;go_enter Try.func34,Try.ntmps34;go_wp2;repeat (go_quiet (fail);try go_wp2)
  go_loopg [5] k (fun kq v5 w'=> ∃(x5_1:Int),v5= .int .i64 x5_1∧Aside0 (laws_leInts.l0 kq l0 l1 x5_1=some r)∧Aside0 (kq≤k)∧Drawn0 w w')
  case atStart=>exact ⟨(0),zz12,H',⟨Nat.le_refl _⟩,by repeat (first|exact Drawn0.refl _|apply Drawn0.step)⟩
  case round =>
   clear H';(try clear c1);(try clear p2);(try clear c3);(try clear c3b0);(try clear c3b1);(try clear c3b2);obtain ⟨x5_1,rfl,HA,HK1,⟨m1,rfl⟩⟩:=hrel
   cases gk with
   |zero=>exact absurd HA.out (by simp [laws_leInts.l0])
   | succ k1 =>
    have H:=HA.out;clear HA;simp only [laws_leInts.l0] at H;by_cases c4:x5_1<(l0.length:Int)
    ·rw [if_pos c4] at H
     have c4b0:decide (x5_1<(l0.length:Int))=true:=decide_eq_true c4
     clear c4;by_cases c5:0≤x5_1
     ·rw [if_pos c5] at H
      have c5b0:decide (0≤x5_1)=true:=decide_eq_true c5
      clear c5;by_cases c6:x5_1<(l1.length:Int)
      ·rw [if_pos c6] at H
       have c6b0:decide (x5_1<(l1.length:Int))=true:=decide_eq_true c6
       clear c6;by_cases c7:(rd l0 x5_1)=(rd l1 x5_1)
       ·rw [if_pos c7] at H
        have c7b0:((rd l0 x5_1)==(rd l1 x5_1))=true:=beq_iff_eq.mpr c7
        have c7b1:((rd l0 x5_1) !=(rd l1 x5_1))=false:=bne_eq_false_iff_eq.mpr c7
        clear c7;have H':=aK H;clear H;have p456:0≤(x5_1:Int):=of_decide_eq_true zz6
        have q456:x5_1<(l0.length:Int):=of_decide_eq_true zz6
        obtain ⟨ad456,e456,hx456_0⟩:=Kd.at_int HR0.out x5_1 p456 q456
        cases e456
        replace p456:=eq_true p456;replace q456:=eq_true q456;have p457:0≤(x5_1:Int):=of_decide_eq_true zz6
        have q457:x5_1<(l1.length:Int):=of_decide_eq_true zz6
        obtain ⟨ad457,e457,hx457_0⟩:=Kd.at_int HR1.out x5_1 p457 q457
        cases e457
        replace p457:=eq_true p457;replace q457:=eq_true q457;go_wp2;repeat (go_quiet (fail);try go_wp2)
        go_roundg k1
        case measure=>have:=HK1.out;omega
        case rel=>exact ⟨(wrap64 (x5_1+1)),zz12,H',⟨by have:=HK1.out;omega⟩,by repeat (first|exact Drawn0.refl _|apply Drawn0.step)⟩
       ·rw [if_neg c7] at H
        have c7b0:((rd l0 x5_1)==(rd l1 x5_1))=false:=beq_eq_false_iff_ne.mpr c7
        have c7b1:((rd l0 x5_1) !=(rd l1 x5_1))=true:=bne_iff_ne.mpr c7
        obtain rfl:=Option.some.inj H;have p456:0≤(x5_1:Int):=of_decide_eq_true zz6
        have q456:x5_1<(l0.length:Int):=of_decide_eq_true zz6
        obtain ⟨ad456,e456,hx456_0⟩:=Kd.at_int HR0.out x5_1 p456 q456
        cases e456
        replace p456:=eq_true p456;replace q456:=eq_true q456;have p457:0≤(x5_1:Int):=of_decide_eq_true zz6
        have q457:x5_1<(l1.length:Int):=of_decide_eq_true zz6
        obtain ⟨ad457,e457,hx457_0⟩:=Kd.at_int HR1.out x5_1 p457 q457
        cases e457
        replace p457:=eq_true p457;replace q457:=eq_true q457;go_wp2;repeat (go_quiet (fail);try go_wp2)
        go_ret;exact ⟨zz12,zz44⟩
      ·rw [if_neg c6] at H
       exact absurd H (by simp)
     ·rw [if_neg c5] at H
      exact absurd H (by simp)
    ·rw [if_neg c4] at H
     have c4b0:decide (x5_1<(l0.length:Int))=false:=decide_eq_false c4
     clear c4;obtain rfl:=Option.some.inj H;go_wp2;repeat (go_quiet (fail);try go_wp2)
     go_ret;exact ⟨zz12,zz44⟩
 ·rw [if_neg c3] at H
  have c3b0:((l0.length:Int)==(l1.length:Int))=false:=beq_eq_false_iff_ne.mpr c3
  have c3b1:((l0.length:Int) !=(l1.length:Int))=true:=bne_iff_ne.mpr c3
  have c3b2:(l0.length==l1.length)=false:=by first|simpa using c3|(simp at c3 ⊢;omega)
  obtain rfl:=Option.some.inj H;go_enter Try.func34,Try.ntmps34;go_wp2;repeat (go_quiet (fail);try go_wp2)
  go_ret;exact ⟨zz12,zz44⟩
def laws_leShape.f (k:Nat) (a0_0:Bool) (l0_1:List Int) (l0_2:List Int) (a1_0:Bool) (l1_1:List Int) (l1_2:List Int):Option (Bool):=if (a0_0==a1_0)=true then ((laws_leInts.f k l0_1 l1_1).bind fun t460=>(if t460=true then ((laws_leInts.f k l0_2 l1_2).bind fun t461=>(some t461)) else (some false))) else (some false)
set_option maxHeartbeats 8000000 in
set_option maxRecDepth 100000 in
theorem laws_leShape.calls (k:Nat) (a0_0:Bool) (A0_1:Option Addr) (c0_1:Nat) (l0_1:List Int) (A0_2:Option Addr) (c0_2:Nat) (l0_2:List Int) (a1_0:Bool) (A1_1:Option Addr) (c1_1:Nat) (l1_1:List Int) (A1_2:Option Addr) (c1_2:Nat) (l1_2:List Int) (r:Bool) (w:World) (hr0_1:Kd.C (Kd.int .i64) w A0_1 l0_1.length l0_1) (hc0_1:l0_1.length≤c0_1) (hr0_2:Kd.C (Kd.int .i64) w A0_2 l0_2.length l0_2) (hc0_2:l0_2.length≤c0_2) (hr1_1:Kd.C (Kd.int .i64) w A1_1 l1_1.length l1_1) (hc1_1:l1_1.length≤c1_1) (hr1_2:Kd.C (Kd.int .i64) w A1_2 l1_2.length l1_2) (hc1_2:l1_2.length≤c1_2) (h:laws_leShape.f k a0_0 l0_1 l0_2 a1_0 l1_1 l1_2=some r):
  Calls Try.prog 17 #[.agg #[.bool a0_0,.slice A0_1 l0_1.length c0_1,.slice A0_2 l0_2.length c0_2],.agg #[.bool a1_0,.slice A1_1 l1_1.length c1_1,.slice A1_2 l1_2.length c1_2]] w fun e w'=>e= .returned (.bool r)∧Below w.heap.size w w':=by
 have hu28:=Try.underlying28;have HR0_1:=aK hr0_1;have HC0_1:=aK hc0_1;clear hr0_1 hc0_1;have HR0_2:=aK hr0_2;have HC0_2:=aK hc0_2;clear hr0_2 hc0_2;have HR1_1:=aK hr1_1;have HC1_1:=aK hc1_1;clear hr1_1 hc1_1;have HR1_2:=aK hr1_2;have HC1_2:=aK hc1_2;clear hr1_2 hc1_2;have HB:=aK (Below.refl w.heap.size w);have H:(if (a0_0==a1_0)=true then ((laws_leInts.f k l0_1 l1_1).bind fun t460=>(if t460=true then ((laws_leInts.f k l0_2 l1_2).bind fun t461=>(some t461)) else (some false))) else (some false))=some r:=h
 clear h;by_cases c3:(a0_0==a1_0)=true
 ·rw [if_pos c3] at H
  have c3b0:(a0_0==a1_0)=true:=c3
  (try (have c3b1:decide (a0_0=a1_0)=true:=by simpa using c3))
  (try (have c3b2:(a0_0==a1_0)=true:=by simpa using c3))
  clear c3;replace H:=Option.bind_eq_some_iff.mp H;obtain ⟨t460,A40,H⟩:=H;(try dsimp only at H);have A4:=aK A40;clear A40;by_cases c5:t460=true
  ·subst c5
   rw [if_pos rfl] at H;replace H:=Option.bind_eq_some_iff.mp H;obtain ⟨t461,A60,H⟩:=H;(try dsimp only at H);have A6:=aK A60;clear A60;obtain rfl:=Option.some.inj H;go_enter Try.func17,Try.ntmps17
   go_wp2_with (first|((with_reducible refine gate_dst (N:=2) rfl ?_);refine box_event ?hg (N:=2) ?hd (cs:= #[.bool a0_0,.slice A0_1 l0_1.length c0_1,.slice A0_2 l0_2.length c0_2]) (t:=28) ?hr ?_;(case hd=>rfl);(case hg=>rfl);(case hr=>first|(go_simp;done)|(go_simp;rfl));intro gb458 hg w7 hbox hb;have BK458:=aK (hbox);have GW458:=aK ((by rw [hg];exact (below_size zz1):w.heap.size≤gb458));have GE458:=aK ((by rw [hg];exact (below_size zz1):w.heap.size≤gb458));replace HB:=aK (below_step zz1 hb);clear hb hbox hg)|((with_reducible refine gate_dst (N:=3) rfl ?_);refine box_event ?hg (N:=3) ?hd (cs:= #[.bool a1_0,.slice A1_1 l1_1.length c1_1,.slice A1_2 l1_2.length c1_2]) (t:=28) ?hr ?_;(case hd=>rfl);(case hg=>rfl);(case hr=>first|(go_simp;done)|(go_simp;rfl));intro gb459 hg w8 hbox hb;have BK459:=aK (hbox);have GW459:=aK ((by rw [hg];exact (below_size zz45):w.heap.size≤gb459));have GE459:=aK ((by rw [hg];exact (below_size zz45):w.heap.size≤gb459));have NB458_459:=aK ((by rw [hg];exact Nat.ne_of_lt (blk_lt (g:=gb458) (o:= .cells #[.bool a0_0,.slice A0_1 l0_1.length c0_1,.slice A0_2 l0_2.length c0_2] 28 (0,0)) zz60):gb458≠gb459));have NB459_458:=aK ((by rw [hg];exact Nat.ne_of_gt (blk_lt (g:=gb458) (o:= .cells #[.bool a0_0,.slice A0_1 l0_1.length c0_1,.slice A0_2 l0_2.length c0_2] 28 (0,0)) zz60):gb459≠gb458));replace BK458:=aK (blk_below (g:=gb458) (o:= .cells #[.bool a0_0,.slice A0_1 l0_1.length c0_1,.slice A0_2 l0_2.length c0_2] 28 (0,0)) zz60 hb);replace HB:=aK (below_step zz45 hb);clear hb hbox hg;have hnb9:=NB458_459.out;have hnc9:=NB459_458.out;obtain ⟨hcz10_0,hcz10_1,hcz10_2,hfz10_0,hfz10_1,hfz10_2⟩:=cbf3 BK458;obtain ⟨hcz11_0,hcz11_1,hcz11_2,hfz11_0,hfz11_1,hfz11_2⟩:=cbf3 BK459)|(go_at_call 34;(with_reducible refine (laws_leInts.calls k _ _ l0_1 _ _ l1_1 true _ ?side1 ?side2 ?side3 ?side4 A4.out).mono ?_);(case side1=>exact (by repeat (first|exact (Kd.C_below HR0_1.out HB.out)|(with_reducible refine Kd.C_alloc ?_ _)|(with_reducible refine Kd.C_drewN ?_ _)|(with_reducible refine Kd.C_drew ?_))));(case side2=>exact HC0_1.out);(case side3=>exact zz14);(case side4=>exact HC1_1.out);rintro e w' ⟨rfl,⟨nd,rfl⟩⟩)|(go_at_call 34;(with_reducible refine (laws_leInts.calls k _ _ l0_2 _ _ l1_2 t461 _ ?side1 ?side2 ?side3 ?side4 A6.out).mono ?_);(case side1=>repeat (first|exact (Kd.C_below HR0_2.out (by repeat (first|(with_reducible first|exact HB.out|apply below_alloc|apply pw_below_drewN|apply below_drew1|refine below_set ?_ GE458.out|refine below_set ?_ GE459.out)|exact HB.out)))|(with_reducible refine Kd.C_alloc ?_ _)|(with_reducible refine Kd.C_drewN ?_ _)|(with_reducible refine Kd.C_drew ?_)));(case side2=>exact HC0_2.out);(case side3=>repeat (first|exact (Kd.C_below HR1_2.out (by repeat (first|(with_reducible first|exact HB.out|apply below_alloc|apply pw_below_drewN|apply below_drew1|refine below_set ?_ GE458.out|refine below_set ?_ GE459.out)|exact HB.out)))|(with_reducible refine Kd.C_alloc ?_ _)|(with_reducible refine Kd.C_drewN ?_ _)|(with_reducible refine Kd.C_drew ?_)));(case side4=>exact HC1_2.out);rintro e w' ⟨rfl,⟨nd,rfl⟩⟩))
   go_ret;exact ⟨zz7,(by repeat (first|(with_reducible first|exact HB.out|apply below_alloc|apply pw_below_drewN|apply below_drew1|refine below_set ?_ GE458.out|refine below_set ?_ GE459.out)|exact HB.out))⟩
  ·replace c5 := Bool.eq_false_iff.mpr c5
   subst c5;rw [if_neg (show¬(false=true) by decide)] at H;obtain rfl:=Option.some.inj H;go_enter Try.func17,Try.ntmps17
   go_wp2_with (first|((with_reducible refine gate_dst (N:=2) rfl ?_);refine box_event ?hg (N:=2) ?hd (cs:= #[.bool a0_0,.slice A0_1 l0_1.length c0_1,.slice A0_2 l0_2.length c0_2]) (t:=28) ?hr ?_;(case hd=>rfl);(case hg=>rfl);(case hr=>first|(go_simp;done)|(go_simp;rfl));intro gb458 hg w12 hbox hb;have BK458:=aK (hbox);have GW458:=aK ((by rw [hg];exact (below_size zz1):w.heap.size≤gb458));have GE458:=aK ((by rw [hg];exact (below_size zz1):w.heap.size≤gb458));replace HB:=aK (below_step zz1 hb);clear hb hbox hg)|((with_reducible refine gate_dst (N:=3) rfl ?_);refine box_event ?hg (N:=3) ?hd (cs:= #[.bool a1_0,.slice A1_1 l1_1.length c1_1,.slice A1_2 l1_2.length c1_2]) (t:=28) ?hr ?_;(case hd=>rfl);(case hg=>rfl);(case hr=>first|(go_simp;done)|(go_simp;rfl));intro gb459 hg w13 hbox hb;have BK459:=aK (hbox);have GW459:=aK ((by rw [hg];exact (below_size zz45):w.heap.size≤gb459));have GE459:=aK ((by rw [hg];exact (below_size zz45):w.heap.size≤gb459));have NB458_459:=aK ((by rw [hg];exact Nat.ne_of_lt (blk_lt (g:=gb458) (o:= .cells #[.bool a0_0,.slice A0_1 l0_1.length c0_1,.slice A0_2 l0_2.length c0_2] 28 (0,0)) zz60):gb458≠gb459));have NB459_458:=aK ((by rw [hg];exact Nat.ne_of_gt (blk_lt (g:=gb458) (o:= .cells #[.bool a0_0,.slice A0_1 l0_1.length c0_1,.slice A0_2 l0_2.length c0_2] 28 (0,0)) zz60):gb459≠gb458));replace BK458:=aK (blk_below (g:=gb458) (o:= .cells #[.bool a0_0,.slice A0_1 l0_1.length c0_1,.slice A0_2 l0_2.length c0_2] 28 (0,0)) zz60 hb);replace HB:=aK (below_step zz45 hb);clear hb hbox hg;have hnb14:=NB458_459.out;have hnc14:=NB459_458.out;obtain ⟨hcz15_0,hcz15_1,hcz15_2,hfz15_0,hfz15_1,hfz15_2⟩:=cbf3 BK458;obtain ⟨hcz16_0,hcz16_1,hcz16_2,hfz16_0,hfz16_1,hfz16_2⟩:=cbf3 BK459)|(go_at_call 34;(with_reducible refine (laws_leInts.calls k _ _ l0_1 _ _ l1_1 false _ ?side1 ?side2 ?side3 ?side4 A4.out).mono ?_);(case side1=>exact (by repeat (first|exact (Kd.C_below HR0_1.out HB.out)|(with_reducible refine Kd.C_alloc ?_ _)|(with_reducible refine Kd.C_drewN ?_ _)|(with_reducible refine Kd.C_drew ?_))));(case side2=>exact HC0_1.out);(case side3=>exact zz14);(case side4=>exact HC1_1.out);rintro e w' ⟨rfl,⟨nd,rfl⟩⟩))
   go_ret;exact ⟨zz7,(by repeat (first|(with_reducible first|exact HB.out|apply below_alloc|apply pw_below_drewN|apply below_drew1|refine below_set ?_ GE458.out|refine below_set ?_ GE459.out)|exact HB.out))⟩
 ·rw [if_neg c3] at H
  have c3b0:(a0_0==a1_0)=false:=by simpa using c3
  (try (have c3b1:decide (a0_0=a1_0)=false:=by simpa using c3))
  (try (have c3b2:(a0_0==a1_0)=false:=by simpa using c3))
  (try (have c3b3: ¬(a0_0=a1_0):=by simpa using c3))
  clear c3;obtain rfl:=Option.some.inj H;go_enter Try.func17,Try.ntmps17
  go_wp2_with (first|((with_reducible refine gate_dst (N:=2) rfl ?_);refine box_event ?hg (N:=2) ?hd (cs:= #[.bool a0_0,.slice A0_1 l0_1.length c0_1,.slice A0_2 l0_2.length c0_2]) (t:=28) ?hr ?_;(case hd=>rfl);(case hg=>rfl);(case hr=>first|(go_simp;done)|(go_simp;rfl));intro gb458 hg w17 hbox hb;have BK458:=aK (hbox);have GW458:=aK ((by rw [hg];exact (below_size zz1):w.heap.size≤gb458));have GE458:=aK ((by rw [hg];exact (below_size zz1):w.heap.size≤gb458));replace HB:=aK (below_step zz1 hb);clear hb hbox hg)|((with_reducible refine gate_dst (N:=3) rfl ?_);refine box_event ?hg (N:=3) ?hd (cs:= #[.bool a1_0,.slice A1_1 l1_1.length c1_1,.slice A1_2 l1_2.length c1_2]) (t:=28) ?hr ?_;(case hd=>rfl);(case hg=>rfl);(case hr=>first|(go_simp;done)|(go_simp;rfl));intro gb459 hg w18 hbox hb;have BK459:=aK (hbox);have GW459:=aK ((by rw [hg];exact (below_size zz45):w.heap.size≤gb459));have GE459:=aK ((by rw [hg];exact (below_size zz45):w.heap.size≤gb459));have NB458_459:=aK ((by rw [hg];exact Nat.ne_of_lt (blk_lt (g:=gb458) (o:= .cells #[.bool a0_0,.slice A0_1 l0_1.length c0_1,.slice A0_2 l0_2.length c0_2] 28 (0,0)) zz60):gb458≠gb459));have NB459_458:=aK ((by rw [hg];exact Nat.ne_of_gt (blk_lt (g:=gb458) (o:= .cells #[.bool a0_0,.slice A0_1 l0_1.length c0_1,.slice A0_2 l0_2.length c0_2] 28 (0,0)) zz60):gb459≠gb458));replace BK458:=aK (blk_below (g:=gb458) (o:= .cells #[.bool a0_0,.slice A0_1 l0_1.length c0_1,.slice A0_2 l0_2.length c0_2] 28 (0,0)) zz60 hb);replace HB:=aK (below_step zz45 hb);clear hb hbox hg;have hnb19:=NB458_459.out;have hnc19:=NB459_458.out;obtain ⟨hcz20_0,hcz20_1,hcz20_2,hfz20_0,hfz20_1,hfz20_2⟩:=cbf3 BK458;obtain ⟨hcz21_0,hcz21_1,hcz21_2,hfz21_0,hfz21_1,hfz21_2⟩:=cbf3 BK459))
  go_ret;exact ⟨zz7,(by repeat (first|(with_reducible first|exact HB.out|apply below_alloc|apply pw_below_drewN|apply below_drew1|refine below_set ?_ GE458.out|refine below_set ?_ GE459.out)|exact HB.out))⟩
mutual
def impl_shapeIn.l0:Nat→List (S48)→List Int→Int→Int→Bool→List Int→List Int→Bool→List Int→List Int→Option (Bool)
 |0,_,_,_,_,_,_,_,_,_,_=>none
 |k+1,x0,x17,x18,x19,x463000,x463001,x463002,x464000,x464001,x464002=>if x19<x18 then (if 0≤x19 then (if x19<(x17.length:Int) then (if x19<(x464001.length:Int) then ((impl_typeIn.f x0 (rd x17 x19) (rd x464001 x19)).bind fun t467=>(if t467=true then (impl_shapeIn.l0 k x0 x17 x18 (wrap64 (x19+1)) x463000 x463001 x463002 x464000 x464001 x464002) else (some false))) else (none)) else (none)) else (none)) else (impl_shapeIn.l1 k x0 x463002 (x463002.length:Int) 0 x464000 x464001 x464002)
def impl_shapeIn.l1:Nat→List (S48)→List Int→Int→Int→Bool→List Int→List Int→Option (Bool)
 |0,_,_,_,_,_,_,_=>none
 |k+1,x0,x35,x36,x37,x464000,x464001,x464002=>if x37<x36 then (if 0≤x37 then (if x37<(x35.length:Int) then (if x37<(x464002.length:Int) then ((impl_typeIn.f x0 (rd x35 x37) (rd x464002 x37)).bind fun t470=>(if t470=true then (impl_shapeIn.l1 k x0 x35 x36 (wrap64 (x37+1)) x464000 x464001 x464002) else (some false))) else (none)) else (none)) else (none)) else (some true)
end
def impl_shapeIn.f (k:Nat) (l0:List (S48)) (a1_0:Bool) (l1_1:List Int) (l1_2:List Int) (a2_0:Bool) (l2_1:List Int) (l2_2:List Int):Option (Bool):=(impl_shapeFit.f k l0 a1_0 l1_1 l1_2 a2_0 l2_1 l2_2).bind fun t464=>(if t464=true then (impl_shapeIn.l0 k l0 l1_1 (l1_1.length:Int) 0 a1_0 l1_1 l1_2 a2_0 l2_1 l2_2) else (some false))
set_option maxHeartbeats 8000000 in
set_option maxRecDepth 100000 in
theorem impl_shapeIn.calls (k : Nat) (A0 : Option Addr) (c0 : Nat) (l0 : List (S48)) (a1_0 : Bool) (A1_1 : Option Addr) (c1_1 : Nat) (l1_1 : List Int) (A1_2 : Option Addr) (c1_2 : Nat) (l1_2 : List Int) (a2_0 : Bool) (A2_1 : Option Addr) (c2_1 : Nat) (l2_1 : List Int) (A2_2 : Option Addr) (c2_2 : Nat) (l2_2 : List Int) (r : Bool) (w : World) (hr0 : Kd.C k48 w A0 l0.length l0) (hc0 : l0.length ≤ c0) (hr1_1 : Kd.C (Kd.int .i64) w A1_1 l1_1.length l1_1) (hc1_1 : l1_1.length ≤ c1_1) (hr1_2 : Kd.C (Kd.int .i64) w A1_2 l1_2.length l1_2) (hc1_2 : l1_2.length ≤ c1_2) (hr2_1 : Kd.C (Kd.int .i64) w A2_1 l2_1.length l2_1) (hc2_1 : l2_1.length ≤ c2_1) (hr2_2 : Kd.C (Kd.int .i64) w A2_2 l2_2.length l2_2) (hc2_2 : l2_2.length ≤ c2_2) (h : impl_shapeIn.f k l0 a1_0 l1_1 l1_2 a2_0 l2_1 l2_2 = some r) :
  Calls Try.prog 35 #[.slice A0 l0.length c0,.agg #[.bool a1_0,.slice A1_1 l1_1.length c1_1,.slice A1_2 l1_2.length c1_2],.agg #[.bool a2_0,.slice A2_1 l2_1.length c2_1,.slice A2_2 l2_2.length c2_2]] w fun e w'=>e= .returned (.bool r)∧Below w.heap.size w w':=by
 have hu28:=Try.underlying28;have HR0:=aK hr0;have HC0:=aK hc0;clear hr0 hc0;have HR1_1:=aK hr1_1;have HC1_1:=aK hc1_1;clear hr1_1 hc1_1;have HR1_2:=aK hr1_2;have HC1_2:=aK hc1_2;clear hr1_2 hc1_2;have HR2_1:=aK hr2_1;have HC2_1:=aK hc2_1;clear hr2_1 hc2_1;have HR2_2:=aK hr2_2;have HC2_2:=aK hc2_2;clear hr2_2 hc2_2;have HB:=aK (Below.refl w.heap.size w);have H:((impl_shapeFit.f k l0 a1_0 l1_1 l1_2 a2_0 l2_1 l2_2).bind fun t464=>(if t464=true then (impl_shapeIn.l0 k l0 l1_1 (l1_1.length:Int) 0 a1_0 l1_1 l1_2 a2_0 l2_1 l2_2) else (some false)))=some r:=h
 clear h;replace H:=Option.bind_eq_some_iff.mp H;obtain ⟨t464,A40,H⟩:=H;(try dsimp only at H);have A4:=aK A40;clear A40;by_cases c5:t464=true
 ·subst c5
  rw [if_pos rfl] at H;have H':=aK H;clear H;go_enter Try.func35,Try.ntmps35
  go_wp2_with (first|((with_reducible refine gate_dst (N:=4) rfl ?_);refine box_event ?hg (N:=4) ?hd (cs:= #[.bool a1_0,.slice A1_1 l1_1.length c1_1,.slice A1_2 l1_2.length c1_2]) (t:=28) ?hr ?_;(case hd=>rfl);(case hg=>rfl);(case hr=>first|(go_simp;done)|(go_simp;rfl));intro gb462 hg w6 hbox hb;have BK462:=aK (hbox);have GW462:=aK ((by rw [hg];exact (below_size zz1):w.heap.size≤gb462));have GE462:=aK ((by rw [hg];exact (below_size zz1):w.heap.size≤gb462));replace HB:=aK (below_step zz1 hb);clear hb hbox hg)|((with_reducible refine gate_dst (N:=5) rfl ?_);refine box_event ?hg (N:=5) ?hd (cs:= #[.bool a2_0,.slice A2_1 l2_1.length c2_1,.slice A2_2 l2_2.length c2_2]) (t:=28) ?hr ?_;(case hd=>rfl);(case hg=>rfl);(case hr=>first|(go_simp;done)|(go_simp;rfl));intro gb463 hg w7 hbox hb;have BK463:=aK (hbox);have GW463:=aK ((by rw [hg];exact (below_size (by repeat (first|(with_reducible first|exact HB.out|apply below_alloc|apply pw_below_drewN|apply below_drew1|refine below_set ?_ GE462.out)|exact HB.out))):w.heap.size≤gb463));have GE463:=aK ((by rw [hg];exact (below_size (by repeat (first|(with_reducible first|exact HB.out|apply below_alloc|apply pw_below_drewN|apply below_drew1|refine below_set ?_ GE462.out)|exact HB.out))):w.heap.size≤gb463));have NB462_463:=aK ((by rw [hg];exact Nat.ne_of_lt (blk_lt (g:=gb462) (o:= .cells #[.bool a1_0,.slice A1_1 l1_1.length c1_1,.slice A1_2 l1_2.length c1_2] 28 (0,0)) zz47):gb462≠gb463));have NB463_462:=aK ((by rw [hg];exact Nat.ne_of_gt (blk_lt (g:=gb462) (o:= .cells #[.bool a1_0,.slice A1_1 l1_1.length c1_1,.slice A1_2 l1_2.length c1_2] 28 (0,0)) zz47):gb463≠gb462));replace BK462:=aK (blk_below (g:=gb462) (o:= .cells #[.bool a1_0,.slice A1_1 l1_1.length c1_1,.slice A1_2 l1_2.length c1_2] 28 (0,0)) zz47 hb);replace HB:=aK (below_step (by repeat (first|(with_reducible first|exact HB.out|apply below_alloc|apply pw_below_drewN|apply below_drew1|refine below_set ?_ GE462.out)|exact HB.out)) hb);clear hb hbox hg;have hnb8:=NB462_463.out;have hnc8:=NB463_462.out;obtain ⟨hcz9_0,hcz9_1,hcz9_2,hfz9_0,hfz9_1,hfz9_2⟩:=cbf3 BK462;obtain ⟨hcz10_0,hcz10_1,hcz10_2,hfz10_0,hfz10_1,hfz10_2⟩:=cbf3 BK463)|((with_reducible refine gate_callee (f:=40) rfl ?_);refine goesL_ (some 14) rfl rfl Try.func40 (by kernel_rfl) rfl #[.slice A0 l0.length c0,.agg #[.bool a1_0,.slice A1_1 l1_1.length c1_1,.slice A1_2 l1_2.length c1_2],.agg #[.bool a2_0,.slice A2_1 l2_1.length c2_1,.slice A2_2 l2_2.length c2_2]] rfl zz2 ?_;(with_reducible refine (impl_shapeFit.calls k _ _ l0 a1_0 _ _ l1_1 _ _ l1_2 a2_0 _ _ l2_1 _ _ l2_2 true _ ?side1 ?side2 ?side3 ?side4 ?side5 ?side6 ?side7 ?side8 ?side9 ?side10 A4.out).mono ?_);(case side1=>exact zz3);(case side2=>exact HC0.out);(case side3=>exact zz14);(case side4=>exact HC1_1.out);(case side5=>exact zz16);(case side6=>exact HC1_2.out);(case side7=>exact zz32);(case side8=>exact HC2_1.out);(case side9=>exact zz31);(case side10=>exact HC2_2.out);rintro e w11 ⟨rfl,hb⟩;refine ⟨_,rfl,?_⟩;replace BK462:=aK (blk_below (g:=gb462) (o:= .cells #[.bool a1_0,.slice A1_1 l1_1.length c1_1,.slice A1_2 l1_2.length c1_2] 28 (0,0)) zz47 hb);replace BK463:=aK (blk_below (g:=gb463) (o:= .cells #[.bool a2_0,.slice A2_1 l2_1.length c2_1,.slice A2_2 l2_2.length c2_2] 28 (0,0)) (by (with_reducible repeat (first|refine blk_drewN ?_ _|refine blk_drew ?_|refine blk_alloc ?_ _));exact BK463.out) hb);replace HB:=aK (below_step zz34 hb);(try clear hb);(try clear hb2);(try clear hk);(try clear hi);obtain ⟨hcz12_0,hcz12_1,hcz12_2,hfz12_0,hfz12_1,hfz12_2⟩:=cbf3 BK462))
  go_loopg [19] k (fun kq v19 w'=> ∃(x19_1:Int),v19= .int .i64 x19_1∧Aside0 (impl_shapeIn.l0 kq l0 l1_1 (l1_1.length:Int) x19_1 a1_0 l1_1 l1_2 a2_0 l2_1 l2_2=some r)∧Aside0 (kq≤k)∧Aside0 (w'.heap[gb462]? =some (.cells #[.bool a1_0,(.slice A1_1 l1_1.length c1_1),(.slice A1_2 l1_2.length c1_2)] 28 (0,0)))∧Aside0 (w'.heap[gb463]? =some (.cells #[.bool a2_0,(.slice A2_1 l2_1.length c2_1),(.slice A2_2 l2_2.length c2_2)] 28 (0,0)))∧Aside0 (Below w.heap.size w w'))
  case atStart=>exact ⟨(0),zz12,H',⟨Nat.le_refl _⟩,⟨by (with_reducible repeat (first|refine blk_drewN ?_ _|refine blk_drew ?_|refine blk_alloc ?_ _));exact BK462.out⟩,⟨by (with_reducible repeat (first|refine blk_drewN ?_ _|refine blk_drew ?_|refine blk_alloc ?_ _));exact BK463.out⟩,⟨by repeat (first|(with_reducible first|exact HB.out|apply below_alloc|apply pw_below_drewN|apply below_drew1|refine below_set ?_ GE462.out|refine below_set ?_ GE463.out)|exact HB.out)⟩⟩
  case round =>
   clear H';(try clear c1);(try clear c2);(try clear p2);(try clear c3);(try clear c4);(try clear c5);(try clear c8);(try clear hcz10_0);(try clear hcz10_1);(try clear hcz10_2);(try clear hcz12_0);(try clear hcz12_1);(try clear hcz12_2);(try clear hcz9_0);(try clear hcz9_1);(try clear hcz9_2);(try clear hfz10_0);(try clear hfz10_1);(try clear hfz10_2);(try clear hfz12_0);(try clear hfz12_1);(try clear hfz12_2);(try clear hfz9_0);(try clear hfz9_1);(try clear hfz9_2);obtain ⟨x19_1,rfl,HA,HK1,BK462,BK463,HB⟩:=hrel
   cases gk with
   |zero=>exact absurd HA.out (by simp [impl_shapeIn.l0])
   | succ k1 =>
    have H:=HA.out;clear HA;simp only [impl_shapeIn.l0] at H;by_cases c13:x19_1<(l1_1.length:Int)
    ·rw [if_pos c13] at H
     have c13b0:decide (x19_1<(l1_1.length:Int))=true:=decide_eq_true c13
     clear c13;by_cases c14:0≤x19_1
     ·rw [if_pos c14] at H
      have c14b0:decide (0≤x19_1)=true:=decide_eq_true c14
      clear c14;by_cases c15:x19_1<(l1_1.length:Int)
      ·rw [if_pos c15] at H
       have c15b0:decide (x19_1<(l1_1.length:Int))=true:=decide_eq_true c15
       clear c15;by_cases c16:x19_1<(l2_1.length:Int)
       ·rw [if_pos c16] at H
        have c16b0:decide (x19_1<(l2_1.length:Int))=true:=decide_eq_true c16
        clear c16;replace H:=Option.bind_eq_some_iff.mp H;obtain ⟨t467,A170,H⟩:=H;(try dsimp only at H);have A17:=aK A170;clear A170;by_cases c18:t467=true
        ·subst c18
         rw [if_pos rfl] at H;have H':=aK H;clear H;have p465:0≤(x19_1:Int):=of_decide_eq_true zz6
         have q465:x19_1<(l1_1.length:Int):=of_decide_eq_true zz6
         obtain ⟨ad465,e465,hx465_0⟩:=Kd.at_int HR1_1.out x19_1 p465 q465
         cases e465
         replace hx465_0:=(HB.out.cell (World.block_lt_of_cell? w _ hx465_0)).trans hx465_0;replace p465:=eq_true p465;replace q465:=eq_true q465;have hnb19:=NB463_462.out;have hnc19:=NB462_463.out;obtain ⟨hcz20_0,hcz20_1,hcz20_2,hfz20_0,hfz20_1,hfz20_2⟩:=cbf3 BK463;have p466:0≤(x19_1:Int):=of_decide_eq_true zz6
         have q466:x19_1<(l2_1.length:Int):=of_decide_eq_true zz6
         obtain ⟨ad466,e466,hx466_0⟩:=Kd.at_int HR2_1.out x19_1 p466 q466
         cases e466
         replace hx466_0:=(HB.out.cell (World.block_lt_of_cell? w _ hx466_0)).trans hx466_0;replace p466:=eq_true p466;replace q466:=eq_true q466
         go_wp2_with (first|((with_reducible refine gate_callee (f:=45) rfl ?_);refine goesL_ (some 31) rfl rfl Try.func45 (by kernel_rfl) rfl #[.slice A0 l0.length c0,.int .i64 (rd l1_1 x19_1),.int .i64 (rd l2_1 x19_1)] rfl zz2 ?_;(with_reducible refine (impl_typeIn.calls _ _ l0 (rd l1_1 x19_1) (rd l2_1 x19_1) true _ ?side1 ?side2 A17.out).mono ?_);(case side1=>exact zz3);(case side2=>exact HC0.out);rintro e w21 ⟨rfl,hb⟩;refine ⟨_,rfl,?_⟩;replace BK462:=aK (blk_below (g:=gb462) (o:= .cells #[.bool a1_0,.slice (some ad465) l1_1.length c1_1,.slice A1_2 l1_2.length c1_2] 28 (0,0)) zz47 hb);replace BK463:=aK (blk_below (g:=gb463) (o:= .cells #[.bool a2_0,.slice (some ad466) l2_1.length c2_1,.slice A2_2 l2_2.length c2_2] 28 (0,0)) (by (with_reducible repeat (first|refine blk_drewN ?_ _|refine blk_drew ?_|refine blk_alloc ?_ _));exact BK463.out) hb);replace HB:=aK (below_step zz34 hb);(try clear hb);(try clear hb2);(try clear hk);(try clear hi)))
         go_roundg k1
         case measure=>have:=HK1.out;omega
         case rel=>exact ⟨(wrap64 (x19_1+1)),zz12,H',⟨by have:=HK1.out;omega⟩,⟨by (with_reducible repeat (first|refine blk_drewN ?_ _|refine blk_drew ?_|refine blk_alloc ?_ _));exact BK462.out⟩,⟨by (with_reducible repeat (first|refine blk_drewN ?_ _|refine blk_drew ?_|refine blk_alloc ?_ _));exact BK463.out⟩,⟨by repeat (first|(with_reducible first|exact HB.out|apply below_alloc|apply pw_below_drewN|apply below_drew1|refine below_set ?_ GE462.out|refine below_set ?_ GE463.out)|exact HB.out)⟩⟩
        ·replace c18 := Bool.eq_false_iff.mpr c18
         subst c18;rw [if_neg (show¬(false=true) by decide)] at H;obtain rfl:=Option.some.inj H;have p465:0≤(x19_1:Int):=of_decide_eq_true zz6
         have q465:x19_1<(l1_1.length:Int):=of_decide_eq_true zz6
         obtain ⟨ad465,e465,hx465_0⟩:=Kd.at_int HR1_1.out x19_1 p465 q465
         cases e465
         replace hx465_0:=(HB.out.cell (World.block_lt_of_cell? w _ hx465_0)).trans hx465_0;replace p465:=eq_true p465;replace q465:=eq_true q465;have hnb22:=NB463_462.out;have hnc22:=NB462_463.out;obtain ⟨hcz23_0,hcz23_1,hcz23_2,hfz23_0,hfz23_1,hfz23_2⟩:=cbf3 BK463;have p466:0≤(x19_1:Int):=of_decide_eq_true zz6
         have q466:x19_1<(l2_1.length:Int):=of_decide_eq_true zz6
         obtain ⟨ad466,e466,hx466_0⟩:=Kd.at_int HR2_1.out x19_1 p466 q466
         cases e466
         replace hx466_0:=(HB.out.cell (World.block_lt_of_cell? w _ hx466_0)).trans hx466_0;replace p466:=eq_true p466;replace q466:=eq_true q466
         go_wp2_with (first|((with_reducible refine gate_callee (f:=45) rfl ?_);refine goesL_ (some 31) rfl rfl Try.func45 (by kernel_rfl) rfl #[.slice A0 l0.length c0,.int .i64 (rd l1_1 x19_1),.int .i64 (rd l2_1 x19_1)] rfl zz2 ?_;(with_reducible refine (impl_typeIn.calls _ _ l0 (rd l1_1 x19_1) (rd l2_1 x19_1) false _ ?side1 ?side2 A17.out).mono ?_);(case side1=>exact zz3);(case side2=>exact HC0.out);rintro e w24 ⟨rfl,hb⟩;refine ⟨_,rfl,?_⟩;replace BK462:=aK (blk_below (g:=gb462) (o:= .cells #[.bool a1_0,.slice (some ad465) l1_1.length c1_1,.slice A1_2 l1_2.length c1_2] 28 (0,0)) zz47 hb);replace BK463:=aK (blk_below (g:=gb463) (o:= .cells #[.bool a2_0,.slice (some ad466) l2_1.length c2_1,.slice A2_2 l2_2.length c2_2] 28 (0,0)) (by (with_reducible repeat (first|refine blk_drewN ?_ _|refine blk_drew ?_|refine blk_alloc ?_ _));exact BK463.out) hb);replace HB:=aK (below_step zz34 hb);(try clear hb);(try clear hb2);(try clear hk);(try clear hi)))
         go_ret;exact ⟨zz7,zz34⟩
       ·rw [if_neg c16] at H
        exact absurd H (by simp)
      ·rw [if_neg c15] at H
       exact absurd H (by simp)
     ·rw [if_neg c14] at H
      exact absurd H (by simp)
    ·rw [if_neg c13] at H
     have c13b0:decide (x19_1<(l1_1.length:Int))=false:=decide_eq_false c13
     clear c13;have H':=aK H;clear H;have hnb25:=NB462_463.out;have hnc25:=NB463_462.out;obtain ⟨hcz26_0,hcz26_1,hcz26_2,hfz26_0,hfz26_1,hfz26_2⟩:=cbf3 BK462;go_wp2
     go_loopg [37] k1 (fun kq v37 w'=> ∃(x37_2:Int),v37= .int .i64 x37_2∧Aside0 (impl_shapeIn.l1 kq l0 l1_2 (l1_2.length:Int) x37_2 a2_0 l2_1 l2_2=some r)∧Aside0 (kq≤k1)∧Aside0 (w'.heap[gb462]? =some (.cells #[.bool a1_0,(.slice A1_1 l1_1.length c1_1),(.slice A1_2 l1_2.length c1_2)] 28 (0,0)))∧Aside0 (w'.heap[gb463]? =some (.cells #[.bool a2_0,(.slice A2_1 l2_1.length c2_1),(.slice A2_2 l2_2.length c2_2)] 28 (0,0)))∧Aside0 (Below w.heap.size w w'))
     case atStart=>exact ⟨(0),zz12,H',⟨Nat.le_refl _⟩,⟨by (with_reducible repeat (first|refine blk_drewN ?_ _|refine blk_drew ?_|refine blk_alloc ?_ _));exact BK462.out⟩,⟨by (with_reducible repeat (first|refine blk_drewN ?_ _|refine blk_drew ?_|refine blk_alloc ?_ _));exact BK463.out⟩,⟨by repeat (first|(with_reducible first|exact HB.out|apply below_alloc|apply pw_below_drewN|apply below_drew1|refine below_set ?_ GE462.out|refine below_set ?_ GE463.out)|exact HB.out)⟩⟩
     case round =>
      clear H';(try clear c1);(try clear c2);(try clear p2);(try clear c3);(try clear c4);(try clear p4);(try clear q4);(try clear hx4);(try clear c5);(try clear p6);(try clear c8);(try clear c13);(try clear c13b0);(try clear c14);(try clear c14b0);(try clear c15);(try clear c15b0);(try clear c16);(try clear c16b0);(try clear c18);(try clear c19);(try clear c22);(try clear c25);(try clear hcz10_0);(try clear hcz10_1);(try clear hcz10_2);(try clear hcz12_0);(try clear hcz12_1);(try clear hcz12_2);(try clear hcz20_0);(try clear hcz20_1);(try clear hcz20_2);(try clear hcz23_0);(try clear hcz23_1);(try clear hcz23_2);(try clear hcz26_0);(try clear hcz26_1);(try clear hcz26_2);(try clear hcz9_0);(try clear hcz9_1);(try clear hcz9_2);(try clear hfz10_0);(try clear hfz10_1);(try clear hfz10_2);(try clear hfz12_0);(try clear hfz12_1);(try clear hfz12_2);(try clear hfz20_0);(try clear hfz20_1);(try clear hfz20_2);(try clear hfz23_0);(try clear hfz23_1);(try clear hfz23_2);(try clear hfz26_0);(try clear hfz26_1);(try clear hfz26_2);(try clear hfz9_0);(try clear hfz9_1);(try clear hfz9_2);(try clear hx465_0);(try clear hx466_0);(try clear p2);(try clear p465);(try clear p466);(try clear q465);(try clear q466);obtain ⟨x37_2,rfl,HA,HK2,BK462,BK463,HB⟩:=hrel
      cases gk with
      |zero=>exact absurd HA.out (by simp [impl_shapeIn.l1])
      | succ k2 =>
       have H:=HA.out;clear HA;simp only [impl_shapeIn.l1] at H;by_cases c27:x37_2<(l1_2.length:Int)
       ·rw [if_pos c27] at H
        have c27b0:decide (x37_2<(l1_2.length:Int))=true:=decide_eq_true c27
        clear c27;by_cases c28:0≤x37_2
        ·rw [if_pos c28] at H
         have c28b0:decide (0≤x37_2)=true:=decide_eq_true c28
         clear c28;by_cases c29:x37_2<(l1_2.length:Int)
         ·rw [if_pos c29] at H
          have c29b0:decide (x37_2<(l1_2.length:Int))=true:=decide_eq_true c29
          clear c29;by_cases c30:x37_2<(l2_2.length:Int)
          ·rw [if_pos c30] at H
           have c30b0:decide (x37_2<(l2_2.length:Int))=true:=decide_eq_true c30
           clear c30;replace H:=Option.bind_eq_some_iff.mp H;obtain ⟨t470,A310,H⟩:=H;(try dsimp only at H);have A31:=aK A310;clear A310;by_cases c32:t470=true
           ·subst c32
            rw [if_pos rfl] at H;have H':=aK H;clear H;have p468:0≤(x37_2:Int):=of_decide_eq_true zz6
            have q468:x37_2<(l1_2.length:Int):=of_decide_eq_true zz6
            obtain ⟨ad468,e468,hx468_0⟩:=Kd.at_int HR1_2.out x37_2 p468 q468
            cases e468
            replace hx468_0:=(HB.out.cell (World.block_lt_of_cell? w _ hx468_0)).trans hx468_0;replace p468:=eq_true p468;replace q468:=eq_true q468;have hnb33:=NB463_462.out;have hnc33:=NB462_463.out;obtain ⟨hcz34_0,hcz34_1,hcz34_2,hfz34_0,hfz34_1,hfz34_2⟩:=cbf3 BK463;have p469:0≤(x37_2:Int):=of_decide_eq_true zz6
            have q469:x37_2<(l2_2.length:Int):=of_decide_eq_true zz6
            obtain ⟨ad469,e469,hx469_0⟩:=Kd.at_int HR2_2.out x37_2 p469 q469
            cases e469
            replace hx469_0:=(HB.out.cell (World.block_lt_of_cell? w _ hx469_0)).trans hx469_0;replace p469:=eq_true p469;replace q469:=eq_true q469
            go_wp2_with (first|((with_reducible refine gate_callee (f:=45) rfl ?_);refine goesL_ (some 49) rfl rfl Try.func45 (by kernel_rfl) rfl #[.slice A0 l0.length c0,.int .i64 (rd l1_2 x37_2),.int .i64 (rd l2_2 x37_2)] rfl zz2 ?_;(with_reducible refine (impl_typeIn.calls _ _ l0 (rd l1_2 x37_2) (rd l2_2 x37_2) true _ ?side1 ?side2 A31.out).mono ?_);(case side1=>exact zz3);(case side2=>exact HC0.out);rintro e w35 ⟨rfl,hb⟩;refine ⟨_,rfl,?_⟩;replace BK462:=aK (blk_below (g:=gb462) (o:= .cells #[.bool a1_0,.slice A1_1 l1_1.length c1_1,.slice (some ad468) l1_2.length c1_2] 28 (0,0)) zz47 hb);replace BK463:=aK (blk_below (g:=gb463) (o:= .cells #[.bool a2_0,.slice A2_1 l2_1.length c2_1,.slice (some ad469) l2_2.length c2_2] 28 (0,0)) (by (with_reducible repeat (first|refine blk_drewN ?_ _|refine blk_drew ?_|refine blk_alloc ?_ _));exact BK463.out) hb);replace HB:=aK (below_step zz34 hb);(try clear hb);(try clear hb2);(try clear hk);(try clear hi)))
            go_roundg k2
            case measure=>have:=HK1.out;have:=HK2.out;omega
            case rel=>exact ⟨(wrap64 (x37_2+1)),zz12,H',⟨by have:=HK1.out;have:=HK2.out;omega⟩,⟨by (with_reducible repeat (first|refine blk_drewN ?_ _|refine blk_drew ?_|refine blk_alloc ?_ _));exact BK462.out⟩,⟨by (with_reducible repeat (first|refine blk_drewN ?_ _|refine blk_drew ?_|refine blk_alloc ?_ _));exact BK463.out⟩,⟨by repeat (first|(with_reducible first|exact HB.out|apply below_alloc|apply pw_below_drewN|apply below_drew1|refine below_set ?_ GE462.out|refine below_set ?_ GE463.out)|exact HB.out)⟩⟩
           ·replace c32 := Bool.eq_false_iff.mpr c32
            subst c32;rw [if_neg (show¬(false=true) by decide)] at H;obtain rfl:=Option.some.inj H;have p468:0≤(x37_2:Int):=of_decide_eq_true zz6
            have q468:x37_2<(l1_2.length:Int):=of_decide_eq_true zz6
            obtain ⟨ad468,e468,hx468_0⟩:=Kd.at_int HR1_2.out x37_2 p468 q468
            cases e468
            replace hx468_0:=(HB.out.cell (World.block_lt_of_cell? w _ hx468_0)).trans hx468_0;replace p468:=eq_true p468;replace q468:=eq_true q468;have hnb36:=NB463_462.out;have hnc36:=NB462_463.out;obtain ⟨hcz37_0,hcz37_1,hcz37_2,hfz37_0,hfz37_1,hfz37_2⟩:=cbf3 BK463;have p469:0≤(x37_2:Int):=of_decide_eq_true zz6
            have q469:x37_2<(l2_2.length:Int):=of_decide_eq_true zz6
            obtain ⟨ad469,e469,hx469_0⟩:=Kd.at_int HR2_2.out x37_2 p469 q469
            cases e469
            replace hx469_0:=(HB.out.cell (World.block_lt_of_cell? w _ hx469_0)).trans hx469_0;replace p469:=eq_true p469;replace q469:=eq_true q469
            go_wp2_with (first|((with_reducible refine gate_callee (f:=45) rfl ?_);refine goesL_ (some 49) rfl rfl Try.func45 (by kernel_rfl) rfl #[.slice A0 l0.length c0,.int .i64 (rd l1_2 x37_2),.int .i64 (rd l2_2 x37_2)] rfl zz2 ?_;(with_reducible refine (impl_typeIn.calls _ _ l0 (rd l1_2 x37_2) (rd l2_2 x37_2) false _ ?side1 ?side2 A31.out).mono ?_);(case side1=>exact zz3);(case side2=>exact HC0.out);rintro e w38 ⟨rfl,hb⟩;refine ⟨_,rfl,?_⟩;replace BK462:=aK (blk_below (g:=gb462) (o:= .cells #[.bool a1_0,.slice A1_1 l1_1.length c1_1,.slice (some ad468) l1_2.length c1_2] 28 (0,0)) zz47 hb);replace BK463:=aK (blk_below (g:=gb463) (o:= .cells #[.bool a2_0,.slice A2_1 l2_1.length c2_1,.slice (some ad469) l2_2.length c2_2] 28 (0,0)) (by (with_reducible repeat (first|refine blk_drewN ?_ _|refine blk_drew ?_|refine blk_alloc ?_ _));exact BK463.out) hb);replace HB:=aK (below_step zz34 hb);(try clear hb);(try clear hb2);(try clear hk);(try clear hi)))
            go_ret;exact ⟨zz7,zz34⟩
          ·rw [if_neg c30] at H
           exact absurd H (by simp)
         ·rw [if_neg c29] at H
          exact absurd H (by simp)
        ·rw [if_neg c28] at H
         exact absurd H (by simp)
       ·rw [if_neg c27] at H
        have c27b0:decide (x37_2<(l1_2.length:Int))=false:=decide_eq_false c27
        clear c27;obtain rfl:=Option.some.inj H;go_wp2;go_ret;exact ⟨zz7,zz34⟩
 ·replace c5 := Bool.eq_false_iff.mpr c5
  subst c5;rw [if_neg (show¬(false=true) by decide)] at H;obtain rfl:=Option.some.inj H;go_enter Try.func35,Try.ntmps35
  go_wp2_with (first|((with_reducible refine gate_dst (N:=4) rfl ?_);refine box_event ?hg (N:=4) ?hd (cs:= #[.bool a1_0,.slice A1_1 l1_1.length c1_1,.slice A1_2 l1_2.length c1_2]) (t:=28) ?hr ?_;(case hd=>rfl);(case hg=>rfl);(case hr=>first|(go_simp;done)|(go_simp;rfl));intro gb462 hg w39 hbox hb;have BK462:=aK (hbox);have GW462:=aK ((by rw [hg];exact (below_size zz1):w.heap.size≤gb462));have GE462:=aK ((by rw [hg];exact (below_size zz1):w.heap.size≤gb462));replace HB:=aK (below_step zz1 hb);clear hb hbox hg)|((with_reducible refine gate_dst (N:=5) rfl ?_);refine box_event ?hg (N:=5) ?hd (cs:= #[.bool a2_0,.slice A2_1 l2_1.length c2_1,.slice A2_2 l2_2.length c2_2]) (t:=28) ?hr ?_;(case hd=>rfl);(case hg=>rfl);(case hr=>first|(go_simp;done)|(go_simp;rfl));intro gb463 hg w40 hbox hb;have BK463:=aK (hbox);have GW463:=aK ((by rw [hg];exact (below_size (by repeat (first|(with_reducible first|exact HB.out|apply below_alloc|apply pw_below_drewN|apply below_drew1|refine below_set ?_ GE462.out)|exact HB.out))):w.heap.size≤gb463));have GE463:=aK ((by rw [hg];exact (below_size (by repeat (first|(with_reducible first|exact HB.out|apply below_alloc|apply pw_below_drewN|apply below_drew1|refine below_set ?_ GE462.out)|exact HB.out))):w.heap.size≤gb463));have NB462_463:=aK ((by rw [hg];exact Nat.ne_of_lt (blk_lt (g:=gb462) (o:= .cells #[.bool a1_0,.slice A1_1 l1_1.length c1_1,.slice A1_2 l1_2.length c1_2] 28 (0,0)) zz47):gb462≠gb463));have NB463_462:=aK ((by rw [hg];exact Nat.ne_of_gt (blk_lt (g:=gb462) (o:= .cells #[.bool a1_0,.slice A1_1 l1_1.length c1_1,.slice A1_2 l1_2.length c1_2] 28 (0,0)) zz47):gb463≠gb462));replace BK462:=aK (blk_below (g:=gb462) (o:= .cells #[.bool a1_0,.slice A1_1 l1_1.length c1_1,.slice A1_2 l1_2.length c1_2] 28 (0,0)) zz47 hb);replace HB:=aK (below_step (by repeat (first|(with_reducible first|exact HB.out|apply below_alloc|apply pw_below_drewN|apply below_drew1|refine below_set ?_ GE462.out)|exact HB.out)) hb);clear hb hbox hg;have hnb41:=NB462_463.out;have hnc41:=NB463_462.out;obtain ⟨hcz42_0,hcz42_1,hcz42_2,hfz42_0,hfz42_1,hfz42_2⟩:=cbf3 BK462;obtain ⟨hcz43_0,hcz43_1,hcz43_2,hfz43_0,hfz43_1,hfz43_2⟩:=cbf3 BK463)|((with_reducible refine gate_callee (f:=40) rfl ?_);refine goesL_ (some 14) rfl rfl Try.func40 (by kernel_rfl) rfl #[.slice A0 l0.length c0,.agg #[.bool a1_0,.slice A1_1 l1_1.length c1_1,.slice A1_2 l1_2.length c1_2],.agg #[.bool a2_0,.slice A2_1 l2_1.length c2_1,.slice A2_2 l2_2.length c2_2]] rfl zz2 ?_;(with_reducible refine (impl_shapeFit.calls k _ _ l0 a1_0 _ _ l1_1 _ _ l1_2 a2_0 _ _ l2_1 _ _ l2_2 false _ ?side1 ?side2 ?side3 ?side4 ?side5 ?side6 ?side7 ?side8 ?side9 ?side10 A4.out).mono ?_);(case side1=>exact zz3);(case side2=>exact HC0.out);(case side3=>exact zz14);(case side4=>exact HC1_1.out);(case side5=>exact zz16);(case side6=>exact HC1_2.out);(case side7=>exact zz32);(case side8=>exact HC2_1.out);(case side9=>exact zz31);(case side10=>exact HC2_2.out);rintro e w44 ⟨rfl,hb⟩;refine ⟨_,rfl,?_⟩;replace BK462:=aK (blk_below (g:=gb462) (o:= .cells #[.bool a1_0,.slice A1_1 l1_1.length c1_1,.slice A1_2 l1_2.length c1_2] 28 (0,0)) zz47 hb);replace BK463:=aK (blk_below (g:=gb463) (o:= .cells #[.bool a2_0,.slice A2_1 l2_1.length c2_1,.slice A2_2 l2_2.length c2_2] 28 (0,0)) (by (with_reducible repeat (first|refine blk_drewN ?_ _|refine blk_drew ?_|refine blk_alloc ?_ _));exact BK463.out) hb);replace HB:=aK (below_step zz34 hb);(try clear hb);(try clear hb2);(try clear hk);(try clear hi)))
  go_ret;exact ⟨zz7,zz34⟩
end Go.Proofs.Ytehefmgplkolaaa.K
namespace Go.Proofs.Ytehefmgplkolaaa.K
open Go.RowKit Go.Proofs.YtehefmgplkolaaaW.PrintWords Go.Proofs.YtehefmgplkolaaaW.PrintLast Go.Proofs.YtehefmgplkolaaaW.PrintMore
attribute [local go_sem] max2_int min2_int max_two min_two max_three min_three max_four min_four
set_option linter.unusedVariables false
set_option linter.unusedSimpArgs false
def impl_ShapeIn.f (k:Nat) (l0:List (S48)) (a1_0:Bool) (l1_1:List Int) (l1_2:List Int) (a2_0:Bool) (l2_1:List Int) (l2_2:List Int):Option (Bool):=(impl_ClassesOk.f k l0).bind fun t473=>(if t473=true then ((impl_shapeIn.f k l0 a1_0 l1_1 l1_2 a2_0 l2_1 l2_2).bind fun t474=>(some t474)) else (some false))
set_option maxHeartbeats 8000000 in
set_option maxRecDepth 100000 in
theorem impl_ShapeIn.calls (k:Nat) (A0:Option Addr) (c0:Nat) (l0:List (S48)) (a1_0:Bool) (A1_1:Option Addr) (c1_1:Nat) (l1_1:List Int) (A1_2:Option Addr) (c1_2:Nat) (l1_2:List Int) (a2_0:Bool) (A2_1:Option Addr) (c2_1:Nat) (l2_1:List Int) (A2_2:Option Addr) (c2_2:Nat) (l2_2:List Int) (r:Bool) (w:World) (hr0:Kd.C k48 w A0 l0.length l0) (hc0:l0.length≤c0) (hr1_1:Kd.C (Kd.int .i64) w A1_1 l1_1.length l1_1) (hc1_1:l1_1.length≤c1_1) (hr1_2:Kd.C (Kd.int .i64) w A1_2 l1_2.length l1_2) (hc1_2:l1_2.length≤c1_2) (hr2_1:Kd.C (Kd.int .i64) w A2_1 l2_1.length l2_1) (hc2_1:l2_1.length≤c2_1) (hr2_2:Kd.C (Kd.int .i64) w A2_2 l2_2.length l2_2) (hc2_2:l2_2.length≤c2_2) (h:impl_ShapeIn.f k l0 a1_0 l1_1 l1_2 a2_0 l2_1 l2_2=some r):
  Calls Try.prog 18 #[.slice A0 l0.length c0,.agg #[.bool a1_0,.slice A1_1 l1_1.length c1_1,.slice A1_2 l1_2.length c1_2],.agg #[.bool a2_0,.slice A2_1 l2_1.length c2_1,.slice A2_2 l2_2.length c2_2]] w fun e w'=>e= .returned (.bool r)∧Below w.heap.size w w':=by
 have hu28:=Try.underlying28;have HR0:=aK hr0;have HC0:=aK hc0;clear hr0 hc0;have HR1_1:=aK hr1_1;have HC1_1:=aK hc1_1;clear hr1_1 hc1_1;have HR1_2:=aK hr1_2;have HC1_2:=aK hc1_2;clear hr1_2 hc1_2;have HR2_1:=aK hr2_1;have HC2_1:=aK hc2_1;clear hr2_1 hc2_1;have HR2_2:=aK hr2_2;have HC2_2:=aK hc2_2;clear hr2_2 hc2_2;have HB:=aK (Below.refl w.heap.size w);have H:((impl_ClassesOk.f k l0).bind fun t473=>(if t473=true then ((impl_shapeIn.f k l0 a1_0 l1_1 l1_2 a2_0 l2_1 l2_2).bind fun t474=>(some t474)) else (some false)))=some r:=h
 clear h;replace H:=Option.bind_eq_some_iff.mp H;obtain ⟨t473,A40,H⟩:=H;(try dsimp only at H);have A4:=aK A40;clear A40;by_cases c5:t473=true
 ·subst c5
  rw [if_pos rfl] at H;replace H:=Option.bind_eq_some_iff.mp H;obtain ⟨t474,A60,H⟩:=H;(try dsimp only at H);have A6:=aK A60;clear A60;obtain rfl:=Option.some.inj H;go_enter Try.func18,Try.ntmps18
  go_wp2_with (first|((with_reducible refine gate_dst (N:=4) rfl ?_);refine box_event ?hg (N:=4) ?hd (cs:= #[.bool a1_0,.slice A1_1 l1_1.length c1_1,.slice A1_2 l1_2.length c1_2]) (t:=28) ?hr ?_;(case hd=>rfl);(case hg=>rfl);(case hr=>first|(go_simp;done)|(go_simp;rfl));intro gb471 hg w7 hbox hb;have BK471:=aK (hbox);have GW471:=aK ((by rw [hg];exact (below_size zz1):w.heap.size≤gb471));have GE471:=aK ((by rw [hg];exact (below_size zz1):w.heap.size≤gb471));replace HB:=aK (below_step zz1 hb);clear hb hbox hg)|((with_reducible refine gate_dst (N:=5) rfl ?_);refine box_event ?hg (N:=5) ?hd (cs:= #[.bool a2_0,.slice A2_1 l2_1.length c2_1,.slice A2_2 l2_2.length c2_2]) (t:=28) ?hr ?_;(case hd=>rfl);(case hg=>rfl);(case hr=>first|(go_simp;done)|(go_simp;rfl));intro gb472 hg w8 hbox hb;have BK472:=aK (hbox);have GW472:=aK ((by rw [hg];exact (below_size (by repeat (first|(with_reducible first|exact HB.out|apply below_alloc|apply pw_below_drewN|apply below_drew1|refine below_set ?_ GE471.out)|exact HB.out))):w.heap.size≤gb472));have GE472:=aK ((by rw [hg];exact (below_size (by repeat (first|(with_reducible first|exact HB.out|apply below_alloc|apply pw_below_drewN|apply below_drew1|refine below_set ?_ GE471.out)|exact HB.out))):w.heap.size≤gb472));have NB471_472:=aK ((by rw [hg];exact Nat.ne_of_lt (blk_lt (g:=gb471) (o:= .cells #[.bool a1_0,.slice A1_1 l1_1.length c1_1,.slice A1_2 l1_2.length c1_2] 28 (0,0)) zz59):gb471≠gb472));have NB472_471:=aK ((by rw [hg];exact Nat.ne_of_gt (blk_lt (g:=gb471) (o:= .cells #[.bool a1_0,.slice A1_1 l1_1.length c1_1,.slice A1_2 l1_2.length c1_2] 28 (0,0)) zz59):gb472≠gb471));replace BK471:=aK (blk_below (g:=gb471) (o:= .cells #[.bool a1_0,.slice A1_1 l1_1.length c1_1,.slice A1_2 l1_2.length c1_2] 28 (0,0)) zz59 hb);replace HB:=aK (below_step (by repeat (first|(with_reducible first|exact HB.out|apply below_alloc|apply pw_below_drewN|apply below_drew1|refine below_set ?_ GE471.out)|exact HB.out)) hb);clear hb hbox hg)|((with_reducible refine gate_callee (f:=26) rfl ?_);refine goesL_ (some 8) rfl rfl Try.func26 (by kernel_rfl) rfl #[.slice A0 l0.length c0] rfl zz2 ?_;(with_reducible refine (impl_ClassesOk.calls k _ _ l0 true _ ?side1 ?side2 A4.out).mono ?_);(case side1=>exact zz3);(case side2=>exact HC0.out);rintro e w9 ⟨rfl,hb⟩;refine ⟨_,rfl,?_⟩;replace BK471:=aK (blk_below (g:=gb471) (o:= .cells #[.bool a1_0,.slice A1_1 l1_1.length c1_1,.slice A1_2 l1_2.length c1_2] 28 (0,0)) zz59 hb);replace BK472:=aK (blk_below (g:=gb472) (o:= .cells #[.bool a2_0,.slice A2_1 l2_1.length c2_1,.slice A2_2 l2_2.length c2_2] 28 (0,0)) (by (with_reducible repeat (first|refine blk_drewN ?_ _|refine blk_drew ?_|refine blk_alloc ?_ _));exact BK472.out) hb);replace HB:=aK (below_step (by repeat (first|(with_reducible first|exact HB.out|apply below_alloc|apply pw_below_drewN|apply below_drew1|refine below_set ?_ GE471.out|refine below_set ?_ GE472.out)|exact HB.out)) hb);(try clear hb);(try clear hb2);(try clear hk);(try clear hi);have hnb10:=NB471_472.out;have hnc10:=NB472_471.out;obtain ⟨hcz11_0,hcz11_1,hcz11_2,hfz11_0,hfz11_1,hfz11_2⟩:=cbf3 BK471;obtain ⟨hcz12_0,hcz12_1,hcz12_2,hfz12_0,hfz12_1,hfz12_2⟩:=cbf3 BK472)|(go_at_call 35;(with_reducible refine (impl_shapeIn.calls k _ _ l0 a1_0 _ _ l1_1 _ _ l1_2 a2_0 _ _ l2_1 _ _ l2_2 t474 _ ?side1 ?side2 ?side3 ?side4 ?side5 ?side6 ?side7 ?side8 ?side9 ?side10 A6.out).mono ?_);(case side1=>exact zz3);(case side2=>exact HC0.out);(case side3=>exact zz14);(case side4=>exact HC1_1.out);(case side5=>exact zz16);(case side6=>exact HC1_2.out);(case side7=>exact zz32);(case side8=>exact HC2_1.out);(case side9=>exact zz31);(case side10=>exact HC2_2.out);rintro e w13 ⟨rfl,hb⟩;replace BK471:=aK (blk_below (g:=gb471) (o:= .cells #[.bool a1_0,.slice A1_1 l1_1.length c1_1,.slice A1_2 l1_2.length c1_2] 28 (0,0)) zz59 hb);replace BK472:=aK (blk_below (g:=gb472) (o:= .cells #[.bool a2_0,.slice A2_1 l2_1.length c2_1,.slice A2_2 l2_2.length c2_2] 28 (0,0)) (by (with_reducible repeat (first|refine blk_drewN ?_ _|refine blk_drew ?_|refine blk_alloc ?_ _));exact BK472.out) hb);replace HB:=aK (below_step (by repeat (first|(with_reducible first|exact HB.out|apply below_alloc|apply pw_below_drewN|apply below_drew1|refine below_set ?_ GE471.out|refine below_set ?_ GE472.out)|exact HB.out)) hb);(try clear hb);(try clear hb2);(try clear hk);(try clear hi)))
  go_ret;exact ⟨zz7,(by repeat (first|(with_reducible first|exact HB.out|apply below_alloc|apply pw_below_drewN|apply below_drew1|refine below_set ?_ GE471.out|refine below_set ?_ GE472.out)|exact HB.out))⟩
 ·replace c5 := Bool.eq_false_iff.mpr c5
  subst c5;rw [if_neg (show¬(false=true) by decide)] at H;obtain rfl:=Option.some.inj H;go_enter Try.func18,Try.ntmps18
  go_wp2_with (first|((with_reducible refine gate_dst (N:=4) rfl ?_);refine box_event ?hg (N:=4) ?hd (cs:= #[.bool a1_0,.slice A1_1 l1_1.length c1_1,.slice A1_2 l1_2.length c1_2]) (t:=28) ?hr ?_;(case hd=>rfl);(case hg=>rfl);(case hr=>first|(go_simp;done)|(go_simp;rfl));intro gb471 hg w14 hbox hb;have BK471:=aK (hbox);have GW471:=aK ((by rw [hg];exact (below_size zz1):w.heap.size≤gb471));have GE471:=aK ((by rw [hg];exact (below_size zz1):w.heap.size≤gb471));replace HB:=aK (below_step zz1 hb);clear hb hbox hg)|((with_reducible refine gate_dst (N:=5) rfl ?_);refine box_event ?hg (N:=5) ?hd (cs:= #[.bool a2_0,.slice A2_1 l2_1.length c2_1,.slice A2_2 l2_2.length c2_2]) (t:=28) ?hr ?_;(case hd=>rfl);(case hg=>rfl);(case hr=>first|(go_simp;done)|(go_simp;rfl));intro gb472 hg w15 hbox hb;have BK472:=aK (hbox);have GW472:=aK ((by rw [hg];exact (below_size (by repeat (first|(with_reducible first|exact HB.out|apply below_alloc|apply pw_below_drewN|apply below_drew1|refine below_set ?_ GE471.out)|exact HB.out))):w.heap.size≤gb472));have GE472:=aK ((by rw [hg];exact (below_size (by repeat (first|(with_reducible first|exact HB.out|apply below_alloc|apply pw_below_drewN|apply below_drew1|refine below_set ?_ GE471.out)|exact HB.out))):w.heap.size≤gb472));have NB471_472:=aK ((by rw [hg];exact Nat.ne_of_lt (blk_lt (g:=gb471) (o:= .cells #[.bool a1_0,.slice A1_1 l1_1.length c1_1,.slice A1_2 l1_2.length c1_2] 28 (0,0)) zz59):gb471≠gb472));have NB472_471:=aK ((by rw [hg];exact Nat.ne_of_gt (blk_lt (g:=gb471) (o:= .cells #[.bool a1_0,.slice A1_1 l1_1.length c1_1,.slice A1_2 l1_2.length c1_2] 28 (0,0)) zz59):gb472≠gb471));replace BK471:=aK (blk_below (g:=gb471) (o:= .cells #[.bool a1_0,.slice A1_1 l1_1.length c1_1,.slice A1_2 l1_2.length c1_2] 28 (0,0)) zz59 hb);replace HB:=aK (below_step (by repeat (first|(with_reducible first|exact HB.out|apply below_alloc|apply pw_below_drewN|apply below_drew1|refine below_set ?_ GE471.out)|exact HB.out)) hb);clear hb hbox hg)|((with_reducible refine gate_callee (f:=26) rfl ?_);refine goesL_ (some 8) rfl rfl Try.func26 (by kernel_rfl) rfl #[.slice A0 l0.length c0] rfl zz2 ?_;(with_reducible refine (impl_ClassesOk.calls k _ _ l0 false _ ?side1 ?side2 A4.out).mono ?_);(case side1=>exact zz3);(case side2=>exact HC0.out);rintro e w16 ⟨rfl,hb⟩;refine ⟨_,rfl,?_⟩;replace BK471:=aK (blk_below (g:=gb471) (o:= .cells #[.bool a1_0,.slice A1_1 l1_1.length c1_1,.slice A1_2 l1_2.length c1_2] 28 (0,0)) zz59 hb);replace BK472:=aK (blk_below (g:=gb472) (o:= .cells #[.bool a2_0,.slice A2_1 l2_1.length c2_1,.slice A2_2 l2_2.length c2_2] 28 (0,0)) (by (with_reducible repeat (first|refine blk_drewN ?_ _|refine blk_drew ?_|refine blk_alloc ?_ _));exact BK472.out) hb);replace HB:=aK (below_step (by repeat (first|(with_reducible first|exact HB.out|apply below_alloc|apply pw_below_drewN|apply below_drew1|refine below_set ?_ GE471.out|refine below_set ?_ GE472.out)|exact HB.out)) hb);(try clear hb);(try clear hb2);(try clear hk);(try clear hi)))
  go_ret;exact ⟨zz7,(by repeat (first|(with_reducible first|exact HB.out|apply below_alloc|apply pw_below_drewN|apply below_drew1|refine below_set ?_ GE471.out|refine below_set ?_ GE472.out)|exact HB.out))⟩
end Go.Proofs.Ytehefmgplkolaaa.K
namespace Go.Proofs.Ytehefmgplkolaaa.K
open Go.RowKit Go.Proofs.YtehefmgplkolaaaW.PrintWords Go.Proofs.YtehefmgplkolaaaW.PrintLast Go.Proofs.YtehefmgplkolaaaW.PrintMore
attribute [local go_sem] max2_int min2_int max_two min_two max_three min_three max_four min_four
set_option linter.unusedVariables false
set_option linter.unusedSimpArgs false
def spec_l6In.f (a0:Int) (a1:Int) (a2:Int):Option (Bool):=if a0≥a1 then (some (decide (a0≤a2))) else (some false)
set_option maxHeartbeats 8000000 in
set_option maxRecDepth 100000 in
theorem spec_l6In.calls (a0:Int) (a1:Int) (a2:Int) (r:Bool) (w:World) (h:spec_l6In.f a0 a1 a2=some r):
  Calls Try.prog 59 #[.int .i64 a0,.int .i64 a1,.int .i64 a2] w fun e w'=>e= .returned (.bool r)∧Drawn0 w w':=by
 have H:(if a0≥a1 then (some (decide (a0≤a2))) else (some false))=some r:=h
 clear h;by_cases c4:a0≥a1
 ·rw [if_pos c4] at H
  have c4b0:decide (a1≤a0)=true:=decide_eq_true c4
  clear c4;obtain rfl:=Option.some.inj H;go_enter Try.func59,Try.ntmps59;go_wp2;go_ret;exact ⟨zz12,zz44⟩
 ·rw [if_neg c4] at H
  have c4b0:decide (a1≤a0)=false:=decide_eq_false c4
  clear c4;obtain rfl:=Option.some.inj H;go_enter Try.func59,Try.ntmps59;go_wp2;go_ret;exact ⟨zz12,zz44⟩
end Go.Proofs.Ytehefmgplkolaaa.K
