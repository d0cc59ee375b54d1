import Derived.Test.YtbaklikaoleplaaPg24
import Derived.Test.YtbaklikaoleplaaPg29
import Derived.Test.YtbaklikaoleplaaPg28
import Derived.WalkMore
import Derived.Test.YtbaklikaoleplaaPg25
import Derived.Test.YtbaklikaoleplaaPg26
import Derived.Test.YtbaklikaoleplaaPg27
namespace Go.Proofs.Ytbaklikaoleplaa.K
open Go.RowKit Go.Proofs.YtbaklikaoleplaaW.PrintWords Go.Proofs.YtbaklikaoleplaaW.PrintLast Go.Proofs.YtbaklikaoleplaaW.PrintMore
attribute [local go_sem] max2_int min2_int max_two min_two max_three min_three max_four min_four
set_option linter.unusedVariables false
set_option linter.unusedSimpArgs false
def mv0 (m:Mm):Mv:=⟨m.words,m.young,m.top,m.old,m.cards,[],false⟩
def foldL (m:Mm) (f:Mv→Int→Option Mv):Mv→List Int→Option Mv
  |s,[]=>some s
  |s,a::r=>(ledF m a).bind fun ws=>(foldO f s ws).bind fun s'=>foldL m f s' r
def chase (m:Mm):Nat→Nat→Mv→Option Mv
  |0,_,_=>none
  |q+1,i,s=>if s.full=true∨s.mv.length≤i then some s else (ledF m (rd (s.mv.map Prod.fst) i)).bind fun ws=>(foldO (step2 m) s ws).bind fun s'=>chase m q (i+1) s'
def minorF (k:Nat) (m:Mm) (roots:List Int):Option (Option (Mv×List Int)):=
 if (0<m.words.length∧m.words.length≤2000000∧m.cards.length≤2000000∧roots.length≤4000000)∧(∀x∈roots,-2000000≤x∧x≤2000000) then
  (foldO (comeG m) (mv0 m) roots).bind fun s1 => (oldsF k m).bind fun ol => if ol.length ≤ 4000000 then (foldL m (step1 m) s1 ol).bind fun s2 => (chase m k 0 s2).bind fun s3 =>
   if s3.full=true then some none
   else (leadF m s3 ol).bind fun s4=>if 0≤s4.y∧s4.y≤s4.tw.length then some (some ({s4 with tw:=List.replicate s4.y.toNat 0++s4.tw.drop s4.y.toNat,tc:=List.replicate s4.tc.length false,t:=0},roots.map (nowF s4.mv))) else none
   else none
 else none
def MinorPost (w:World) (r:Option (Mv×List Int)) (e:Ending) (w':World):Prop:=
  match r with
  |none=>e= .returned (.tuple #[.agg #[.slice none 0 0,.int .i64 0,.int .i64 0,.int .i64 0,.slice none 0 0],.slice none 0 0,.bool false])∧Below w.heap.size w w'
  |some (s,now)=> ∃v0 v4 vr,e= .returned (.tuple #[.agg #[v0,.int .i64 s.y,.int .i64 s.t,.int .i64 s.o,v4],vr,.bool true])∧Kd.R (Kd.int .i64) 3 w' w.heap.size (fun k=>some k≠vr.ownBlock) v0 s.tw∧Kd.R Kd.bool 4 w' w.heap.size (fun _=>True) v4 s.tc∧Kd.R (Kd.int .i64) 3 w' w.heap.size (fun k=>some k≠v0.ownBlock) vr now∧Below w.heap.size w w'
set_option maxHeartbeats 64000000 in
set_option maxRecDepth 100000 in
theorem memory_minor.calls (k g : Nat) (m : Mm) (AR : Option Addr) (cR : Nat) (roots : List Int) (r : Option (Mv × List Int)) (w : World) (hm : MV w g m) (hr : Kd.C (Kd.int .i64) w AR roots.length roots) (h : minorF k m roots = some r) :
  Calls Try.prog 32 #[.pointer (some ⟨g,0,none⟩),.slice AR roots.length cR] w (MinorPost w r):=by
 unfold minorF at h
 split at h
 case isFalse=>simp at h
 case isTrue hsz=>
 obtain ⟨s1,h1,h⟩:=Option.bind_eq_some_iff.mp h;obtain ⟨ol,h2,h⟩:=Option.bind_eq_some_iff.mp h
 split at h
 case isFalse=>simp at h
 case isTrue hol=>
 obtain ⟨s2,h3,h⟩:=Option.bind_eq_some_iff.mp h;obtain ⟨s3,h4,h⟩:=Option.bind_eq_some_iff.mp h;have HSZ:=aK hsz.1;have HSM:=aK hsz.2;have HLo:=aK (show ol.length≤4000000 from hol);have H1:=aK (show foldO (comeG m) (mv0 m) (roots.drop 0)=some s1 by rw [List.drop_zero];exact h1);have H2:=aK h2;have H3:=aK (show foldL m (step1 m) s1 (ol.drop 0)=some s2 by rw [List.drop_zero];exact h3);have H4:=aK h4;have H:=aK h;have HM:=aK hm;have HR:=aK hr;have HB:=aK (Below.refl w.heap.size w);clear hm hr h h1 h2 h3 h4 hsz hol;go_enter Try.func32,Try.ntmps32
 go_wp2_with ((with_reducible refine gate_dst (N:=2) rfl ?_);refine Classical.byContradiction (fun hng=>?_))
 refine hng ?_;clear hng;refine box_event ?hg (N:=2) ?hd (cs:= #[.pointer (some ⟨g,0,none⟩)]) (t:=56) ?hr ?_
 (case hd=>rfl)
 (case hg=>rfl)
 (case hr=>first|(go_simp;done)|(go_simp;rfl))
 intro gp hg w1 hbox hb;have BP:=aK hbox;replace HB:=aK (below_step HB.out hb);clear hb hbox hg
 go_wp2_with ((with_reducible refine gate_dst (N:=4) rfl ?_);refine Classical.byContradiction (fun hng=>?_))
 refine hng ?_;clear hng;refine box_event ?hg (N:=4) ?hd (cs:= #[.slice none 0 0,.int .i64 0,.int .i64 0,.int .i64 0,.slice none 0 0]) (t:=29) ?hr ?_
 (case hd=>rfl)
 (case hg=>rfl)
 (case hr=>first|(go_simp;done)|(go_simp;rfl))
 intro gr hg w2 hbox hb;have BR:=aK hbox;have HGr:=aK (show w.heap.size≤gr by rw [hg];exact below_size HB.out);replace BP:=aK (blk_below BP.out hb);replace HB:=aK (below_step HB.out hb);clear hb hbox hg;have hmw:MV w2 g m:=MV_below HM.out HB.out
 obtain ⟨AW,cM,ACm,cC',AF,cF,AB,cB,m0,mw,mc,mf,mb,lw,lc,lf,lb⟩:=hmw;have HCW_:=mw;clear m0 mw mc mf mb lw lc lf lb HCW_ AW cM ACm cC' AF cF AB cB;obtain ⟨AW,cM,ACm,cC',AF,cF,AB,cB,n0,nw,nc,nf,nb,lw,lc,lf,lb⟩:=HM.out;have HCW:=aK nw;have HCC:=aK nc;have HLW:=aK lw;have HLC:=aK lc;have hn0:=blk_below n0 HB.out;have p0:=(blk_cell BP.out 0).trans rfl;have g0_:=(blk_cell hn0 0).trans rfl;have g1_:=(blk_cell hn0 1).trans rfl;have g2_:=(blk_cell hn0 2).trans rfl;have g3_:=(blk_cell hn0 3).trans rfl;have g4_:=(blk_cell hn0 4).trans rfl;clear n0 nw nc nf nb lw lc lf lb hn0;go_wp2
 go_step3
 go_wp2;refine sT 9 (S:=fun w'=>Aside0 (Below w2.heap.size w2 w')∧w'.cell? ⟨gp,0,none⟩=some (.pointer (some ⟨g,0,none⟩))∧w'.cell? ⟨g,0,none⟩=some (.slice AW m.words.length cM)∧w'.cell? ⟨g,1,none⟩=some (.int .i64 m.young)∧w'.cell? ⟨g,2,none⟩=some (.int .i64 m.top)∧w'.cell? ⟨g,3,none⟩=some (.int .i64 m.old)∧w'.cell? ⟨g,4,none⟩=some (.slice ACm m.cards.length cC')) (ds:=[8]) ⟨⟨below_drew1 (Below.refl _ _)⟩,(by go_simp),(by go_simp),(by go_simp),(by go_simp),(by go_simp),(by go_simp)⟩ (fun hHeld=>?_);generalize World.drew w2=Wd at hHeld ⊢;refine tS 0 13 #[true,false,false,false,false,false,false,false,false] rfl rfl (by kernel_rfl) hHeld zz26 ?_;refine tS 1 14 #[true,true,false,false,false,false,false,false,false] rfl rfl (by kernel_rfl) hHeld zz26 ?_;refine pS 2 15 #[true,true,true,false,false,false,false,false,false] ?_;refine pS 3 16 #[true,true,true,true,false,false,false,false,false] ?_;refine tS 4 17 #[true,true,true,true,true,false,false,false,false] rfl rfl (by kernel_rfl) hHeld zz26 ?_;refine join_ (σ:=Nat×Nat×Nat×Nat×Option Addr×Nat×Nat) 1 #[true,true,true,true,true,true,true,true,false] (fun s=>[(18,.agg #[.slice (some ⟨s.2.2.1,0,none⟩) m.words.length s.2.2.2.1,.int .i64 m.young,.int .i64 m.top,.int .i64 m.old,.slice s.2.2.2.2.1 m.cards.length s.2.2.2.2.2.1]),(19,.pointer (some ⟨s.1,0,none⟩)),(7,.pointer (some ⟨s.2.2.2.2.2.2,0,none⟩))]) (fun s w'=>Mg w.heap.size w g s.1 s.2.1 s.2.2.1 s.2.2.2.1 s.2.2.2.2.1 s.2.2.2.2.2.1 none 0 w' (mv0 m) []∧w'.heap[s.2.2.2.2.2.2]? =some (.cells #[.pointer none] 83 (0,0))∧w2.heap.size≤s.2.2.2.2.2.2∧(Aside0 (Below w2.heap.size w2 w')∧w'.cell? ⟨gp,0,none⟩=some (.pointer (some ⟨g,0,none⟩))∧w'.cell? ⟨g,0,none⟩=some (.slice AW m.words.length cM)∧w'.cell? ⟨g,1,none⟩=some (.int .i64 m.young)∧w'.cell? ⟨g,2,none⟩=some (.int .i64 m.top)∧w'.cell? ⟨g,3,none⟩=some (.int .i64 m.old)∧w'.cell? ⟨g,4,none⟩=some (.slice ACm m.cards.length cC'))) ?_ ?_;rotate_left
 ·intro hCont
  refine two_ (i:=5) (j:=7) (Ni:=some 18) (Nj:=some 7) #[true,true,true,true,true,true,false,false,false] #[true,true,true,true,true,false,false,true,false] rfl rfl rfl rfl (by kernel_rfl) (by decide) (by decide) (fun K hK=>?_) (fun K hK=>?_)
  ·skip
   refine gO Try.func52 #[.agg #[.slice AW m.words.length cM,.int .i64 m.young,.int .i64 m.top,.int .i64 m.old,.slice ACm m.cards.length cC']] ?_;(with_reducible refine (impl_memClone.calls AW cM m.words m.young m.top m.old ACm cC' m.cards _ (Kd.C_below HCW.out (below_step HB.out hHeld.1.out)) HLW.out (Kd.C_below HCC.out (below_step HB.out hHeld.1.out)) HLC.out (by have:=HSZ.out;omega) (by have:=HSZ.out;omega)).mono ?_);rintro e wa ⟨u,v,rfl,hu,hv,hba⟩;have HU:=aK (Kd.R_lower hu (below_size (below_step HB.out hHeld.1.out)));have HV:=aK (Kd.R_lower hv (below_size (below_step HB.out hHeld.1.out)));obtain ⟨AU,cU,rfl⟩:=Kd.R_slice hu;obtain ⟨AV,cV,rfl⟩:=Kd.R_slice hv;obtain ⟨gw,cW,eU,_,_,_⟩:=Kd.R_form hu (by have:=HSZ.out;omega);injection eU with e1 e2 e3;subst e1 e3;clear hu hv e2;refine ⟨_,rfl,?_⟩;refine hK.out _ _ ⟨⟨below_step hHeld.1.out hba⟩,(pw_cell_below hba hHeld.2.1),(pw_cell_below hba hHeld.2.2.1),(pw_cell_below hba hHeld.2.2.2.1),(pw_cell_below hba hHeld.2.2.2.2.1),(pw_cell_below hba hHeld.2.2.2.2.2.1),(pw_cell_below hba hHeld.2.2.2.2.2.2)⟩ (fun hHeld=>?_);clear hK K;refine nS 18 ?_;refine two_ (i:=6) (j:=7) (Ni:=some 19) (Nj:=some 7) #[true,true,true,true,true,true,true,false,false] #[true,true,true,true,true,true,false,true,false] rfl rfl rfl rfl (by kernel_rfl) (by decide) (by decide) (fun K hK=>?_) (fun K hK=>?_)
   ·skip
    refine gO Try.func51 #[.pointer (some ⟨g,0,none⟩),.agg #[.slice (some ⟨gw,0,none⟩) m.words.length cU,.int .i64 m.young,.int .i64 m.top,.int .i64 m.old,.slice AV m.cards.length cV]] ?_;(with_reducible refine (newMover.calls g (.slice (some ⟨gw,0,none⟩) m.words.length cU) (.slice AV m.cards.length cV) m.young m.top m.old ⟨_,_,_,rfl⟩ ⟨_,_,_,rfl⟩ _).mono ?_);rintro e wb ⟨gm,B,rfl,hgm,hM,hge,hbb⟩;have HMG:=aK (show Mg w.heap.size w g gm B gw cU AV cV none 0 wb (mv0 m) [] from ⟨hgm,⟨Nat.le_trans (below_size (below_step HB.out hHeld.1.out)) hge.1,Nat.le_trans (below_size (below_step HB.out hHeld.1.out)) hge.2⟩,Kd.R_mono (Kd.R_below (Kd.R_bound HU.out) hbb) (fun k hk=>⟨by have:=hk.2.2.1;omega,by have:=hk.2.2.1;omega⟩),Kd.R_mono (Kd.R_below (Kd.R_bound HV.out) hbb) (fun k hk=>⟨by have:=hk.2.2.1;omega,by have:=hk.2.2.1;omega,fun e=>hk.1 (by rw [e];rfl)⟩),Kd.R_nil _ _ _ _ _,hM,below_step (below_step HB.out hHeld.1.out) hbb,Nat.le_trans (below_size (below_step HB.out hHeld.1.out)) hbb.size⟩);clear hgm hM hge;refine ⟨_,rfl,?_⟩;refine hK.out _ _ ⟨⟨below_step hHeld.1.out hbb⟩,(pw_cell_below hbb hHeld.2.1),(pw_cell_below hbb hHeld.2.2.1),(pw_cell_below hbb hHeld.2.2.2.1),(pw_cell_below hbb hHeld.2.2.2.2.1),(pw_cell_below hbb hHeld.2.2.2.2.2.1),(pw_cell_below hbb hHeld.2.2.2.2.2.2)⟩ (fun hHeld=>?_);clear hK K;refine nS 19 ?_;refine one_ (i:=7) (N:=some 7) #[true,true,true,true,true,true,true,true,false] rfl rfl (by kernel_rfl) (by decide) (fun K hK=>?_);have hgX:=hHeld.1.out.size;refine value_ (w1:=?_) (v:=?_) (by rfl) rfl ?_ ?_;rotate_left 2
    ·go_simp
     constructor
     ·rfl
     ·rfl
    refine hK.out _ _ ⟨⟨below_alloc hHeld.1.out _⟩,(pw_cell_below (below_alloc (Below.refl _ _) _) hHeld.2.1),(pw_cell_below (below_alloc (Below.refl _ _) _) hHeld.2.2.1),(pw_cell_below (below_alloc (Below.refl _ _) _) hHeld.2.2.2.1),(pw_cell_below (below_alloc (Below.refl _ _) _) hHeld.2.2.2.2.1),(pw_cell_below (below_alloc (Below.refl _ _) _) hHeld.2.2.2.2.2.1),(pw_cell_below (below_alloc (Below.refl _ _) _) hHeld.2.2.2.2.2.2)⟩ (fun hHeld=>?_);clear hK K;refine nS 7 ?_;exact norm_ zz21 (hCont (gm,B,gw,cU,AV,cV,wb.heap.size) _ ⟨HMG.out.below (below_alloc (Below.refl wb.heap.size wb) _),blk_new wb _,hgX,hHeld⟩)
   ·skip
    have hgX:=hHeld.1.out.size;refine value_ (w1:=?_) (v:=?_) (by rfl) rfl ?_ ?_;rotate_left 2
    ·go_simp
     constructor
     ·rfl
     ·rfl
    refine hK.out _ _ ⟨⟨below_alloc hHeld.1.out _⟩,(pw_cell_below (below_alloc (Below.refl _ _) _) hHeld.2.1),(pw_cell_below (below_alloc (Below.refl _ _) _) hHeld.2.2.1),(pw_cell_below (below_alloc (Below.refl _ _) _) hHeld.2.2.2.1),(pw_cell_below (below_alloc (Below.refl _ _) _) hHeld.2.2.2.2.1),(pw_cell_below (below_alloc (Below.refl _ _) _) hHeld.2.2.2.2.2.1),(pw_cell_below (below_alloc (Below.refl _ _) _) hHeld.2.2.2.2.2.2)⟩ (fun hHeld=>?_);clear hK K;refine nS 7 ?_;refine one_ (i:=6) (N:=some 19) #[true,true,true,true,true,true,true,true,false] rfl rfl (by kernel_rfl) (by decide) (fun K hK=>?_);replace HU:=aK (Kd.R_below HU.out (below_alloc (Below.refl wa.heap.size wa) (.cells #[.pointer none] 83 (0,0))));replace HV:=aK (Kd.R_below HV.out (below_alloc (Below.refl wa.heap.size wa) (.cells #[.pointer none] 83 (0,0))));refine gO Try.func51 #[.pointer (some ⟨g,0,none⟩),.agg #[.slice (some ⟨gw,0,none⟩) m.words.length cU,.int .i64 m.young,.int .i64 m.top,.int .i64 m.old,.slice AV m.cards.length cV]] ?_;(with_reducible refine (newMover.calls g (.slice (some ⟨gw,0,none⟩) m.words.length cU) (.slice AV m.cards.length cV) m.young m.top m.old ⟨_,_,_,rfl⟩ ⟨_,_,_,rfl⟩ _).mono ?_);rintro e wb ⟨gm,B,rfl,hgm,hM,hge,hbb⟩;have HMG:=aK (show Mg w.heap.size w g gm B gw cU AV cV none 0 wb (mv0 m) [] from ⟨hgm,⟨Nat.le_trans (below_size (below_step HB.out hHeld.1.out)) hge.1,Nat.le_trans (below_size (below_step HB.out hHeld.1.out)) hge.2⟩,Kd.R_mono (Kd.R_below (Kd.R_bound HU.out) hbb) (fun k hk=>⟨by have:=hk.2.2.1;omega,by have:=hk.2.2.1;omega⟩),Kd.R_mono (Kd.R_below (Kd.R_bound HV.out) hbb) (fun k hk=>⟨by have:=hk.2.2.1;omega,by have:=hk.2.2.1;omega,fun e=>hk.1 (by rw [e];rfl)⟩),Kd.R_nil _ _ _ _ _,hM,below_step (below_step HB.out hHeld.1.out) hbb,Nat.le_trans (below_size (below_step HB.out hHeld.1.out)) hbb.size⟩);clear hgm hM hge;have hbox:=blk_below (blk_new wa (.cells #[.pointer none] 83 (0,0))) hbb;refine ⟨_,rfl,?_⟩;refine hK.out _ _ ⟨⟨below_step hHeld.1.out hbb⟩,(pw_cell_below hbb hHeld.2.1),(pw_cell_below hbb hHeld.2.2.1),(pw_cell_below hbb hHeld.2.2.2.1),(pw_cell_below hbb hHeld.2.2.2.2.1),(pw_cell_below hbb hHeld.2.2.2.2.2.1),(pw_cell_below hbb hHeld.2.2.2.2.2.2)⟩ (fun hHeld=>?_);clear hK K;refine nS 19 ?_;exact norm_ zz21 (hCont (gm,B,gw,cU,AV,cV,wa.heap.size) _ ⟨HMG.out,hbox,hgX,hHeld⟩)
  ·skip
   have hgX:=hHeld.1.out.size;refine value_ (w1:=?_) (v:=?_) (by rfl) rfl ?_ ?_;rotate_left 2
   ·go_simp
    constructor
    ·rfl
    ·rfl
   refine hK.out _ _ ⟨⟨below_alloc hHeld.1.out _⟩,(pw_cell_below (below_alloc (Below.refl _ _) _) hHeld.2.1),(pw_cell_below (below_alloc (Below.refl _ _) _) hHeld.2.2.1),(pw_cell_below (below_alloc (Below.refl _ _) _) hHeld.2.2.2.1),(pw_cell_below (below_alloc (Below.refl _ _) _) hHeld.2.2.2.2.1),(pw_cell_below (below_alloc (Below.refl _ _) _) hHeld.2.2.2.2.2.1),(pw_cell_below (below_alloc (Below.refl _ _) _) hHeld.2.2.2.2.2.2)⟩ (fun hHeld=>?_);clear hK K;refine nS 7 ?_;refine oS 5 18 #[true,true,true,true,true,true,false,true,false] rfl rfl (fun K hK=>?_);refine gO Try.func52 #[.agg #[.slice AW m.words.length cM,.int .i64 m.young,.int .i64 m.top,.int .i64 m.old,.slice ACm m.cards.length cC']] ?_;(with_reducible refine (impl_memClone.calls AW cM m.words m.young m.top m.old ACm cC' m.cards _ (Kd.C_below HCW.out (below_step HB.out hHeld.1.out)) HLW.out (Kd.C_below HCC.out (below_step HB.out hHeld.1.out)) HLC.out (by have:=HSZ.out;omega) (by have:=HSZ.out;omega)).mono ?_);rintro e wa ⟨u,v,rfl,hu,hv,hba⟩;have HU:=aK (Kd.R_lower hu (below_size (below_step HB.out hHeld.1.out)));have HV:=aK (Kd.R_lower hv (below_size (below_step HB.out hHeld.1.out)));obtain ⟨AU,cU,rfl⟩:=Kd.R_slice hu;obtain ⟨AV,cV,rfl⟩:=Kd.R_slice hv;obtain ⟨gw,cW,eU,_,_,_⟩:=Kd.R_form hu (by have:=HSZ.out;omega);injection eU with e1 e2 e3;subst e1 e3;clear hu hv e2;have hbox:=blk_below (blk_new Wd (.cells #[.pointer none] 83 (0,0))) hba;refine ⟨_,rfl,?_⟩;refine hK.out _ _ ⟨⟨below_step hHeld.1.out hba⟩,(pw_cell_below hba hHeld.2.1),(pw_cell_below hba hHeld.2.2.1),(pw_cell_below hba hHeld.2.2.2.1),(pw_cell_below hba hHeld.2.2.2.2.1),(pw_cell_below hba hHeld.2.2.2.2.2.1),(pw_cell_below hba hHeld.2.2.2.2.2.2)⟩ (fun hHeld=>?_);clear hK K;refine nS 18 ?_;refine oS 6 19 #[true,true,true,true,true,true,true,true,false] rfl rfl (fun K hK=>?_);refine gO Try.func51 #[.pointer (some ⟨g,0,none⟩),.agg #[.slice (some ⟨gw,0,none⟩) m.words.length cU,.int .i64 m.young,.int .i64 m.top,.int .i64 m.old,.slice AV m.cards.length cV]] ?_;(with_reducible refine (newMover.calls g (.slice (some ⟨gw,0,none⟩) m.words.length cU) (.slice AV m.cards.length cV) m.young m.top m.old ⟨_,_,_,rfl⟩ ⟨_,_,_,rfl⟩ _).mono ?_);rintro e wb ⟨gm,B,rfl,hgm,hM,hge,hbb⟩;have HMG:=aK (show Mg w.heap.size w g gm B gw cU AV cV none 0 wb (mv0 m) [] from ⟨hgm,⟨Nat.le_trans (below_size (below_step HB.out hHeld.1.out)) hge.1,Nat.le_trans (below_size (below_step HB.out hHeld.1.out)) hge.2⟩,Kd.R_mono (Kd.R_below (Kd.R_bound HU.out) hbb) (fun k hk=>⟨by have:=hk.2.2.1;omega,by have:=hk.2.2.1;omega⟩),Kd.R_mono (Kd.R_below (Kd.R_bound HV.out) hbb) (fun k hk=>⟨by have:=hk.2.2.1;omega,by have:=hk.2.2.1;omega,fun e=>hk.1 (by rw [e];rfl)⟩),Kd.R_nil _ _ _ _ _,hM,below_step (below_step HB.out hHeld.1.out) hbb,Nat.le_trans (below_size (below_step HB.out hHeld.1.out)) hbb.size⟩);clear hgm hM hge;have hbox:=blk_below hbox hbb;refine ⟨_,rfl,?_⟩;refine hK.out _ _ ⟨⟨below_step hHeld.1.out hbb⟩,(pw_cell_below hbb hHeld.2.1),(pw_cell_below hbb hHeld.2.2.1),(pw_cell_below hbb hHeld.2.2.2.1),(pw_cell_below hbb hHeld.2.2.2.2.1),(pw_cell_below hbb hHeld.2.2.2.2.2.1),(pw_cell_below hbb hHeld.2.2.2.2.2.2)⟩ (fun hHeld=>?_);clear hK K;refine nS 19 ?_;exact norm_ zz21 (hCont (gm,B,gw,cU,AV,cV,Wd.heap.size) _ ⟨HMG.out,hbox,hgX,hHeld⟩)
 rintro ⟨gm,B,gw,cW,AC,cC,gq⟩ w3 ⟨hmg,hqz,hqg,hHeld⟩;have HG:=aK hmg;have HZ:=aK hqz;have HGq:=aK hqg;have HWc:=hHeld.1;have z0:=(blk_cell hqz 0).trans rfl;have y0:=blk_frozen hqz 0;clear hmg hqz hqg;refine norm_ (a':=?_) ?_ ?_;rotate_left
 ·simp only [putAll, Act.put, List.setIfInBounds_toArray, List.set_cons_zero, List.set_cons_succ]
  rfl
 refine last_ (i:=8) (N:=none) #[true,true,true,true,true,true,true,true,true] rfl rfl (by kernel_rfl) (by decide) (fun K hK=>?_);refine skip_ (w1:=?_) (by rfl) rfl ?_ ?_;rotate_left
 ·go_simp
  rfl
 refine hK.out _ _ ?_;clear hK K;refine done_ (by kernel_rfl) ?_;obtain ⟨w4,hw⟩: ∃z,z=w3.setCell ⟨gq,0,none⟩ (.pointer (some ⟨gm,0,none⟩)):=⟨_,rfl⟩;rw [←hw];have hcx:Ch (fun k=>k=gq) w3 w4:=by rw [hw];exact (Ch.refl (fun k=>k=gq) w3).set (p:=⟨gq,0,none⟩) (.inl rfl) _
 have hgp:=blk_lt BP.out;have hgr:=blk_lt BR.out;have hgq:w2.heap.size≤gq:=HGq.out
 have hsz:=below_size HB.out;have BQ:=aK (show w4.heap[gq]? =some (.cells #[.pointer (some ⟨gm,0,none⟩)] 83 (0,0)) by rw [hw];exact blk_put HZ.out 0 _ rfl);replace HG:=aK (HG.out.far (q:=gq) HZ.out ⟨by decide,by decide,by decide⟩ hcx (by omega));replace BP:=aK (hcx.blk (blk_below BP.out HWc.out) (by omega));replace BR:=aK (hcx.blk (blk_below BR.out HWc.out) (by omega));clear hw hcx hgp hgr hgq hsz HZ HGq HWc hHeld HB HCW HCC HLW HLC p0 g0_ g1_ g2_ g3_ g4_ z0 y0;replace HG:=aK (show∃(AO:Option Addr) (cO:Nat),Mg w.heap.size w g gm B gw cW AC cC AO cO w4 (mv0 m) (mv0 m).mv from ⟨none,0,HG.out⟩);go_wp2
 go_loopw [22] (fun v22 wr=> ∃(k_:Nat) (t:Mv),v22= .int .i64 (k_:Int)∧Aside0 (k_≤roots.length∧foldO (comeG m) t (roots.drop k_)=some s1)∧Aside0 (∃(AO:Option Addr) (cO:Nat),Mg w.heap.size w g gm B gw cW AC cC AO cO wr t t.mv)∧Aside0 (wr.heap[gp]? =some (.cells #[.pointer (some ⟨g,0,none⟩)] 56 (0,0)))∧Aside0 (wr.heap[gq]? =some (.cells #[.pointer (some ⟨gm,0,none⟩)] 83 (0,0)))∧Aside0 (wr.heap[gr]? =some (.cells #[.slice none 0 0,.int .i64 0,.int .i64 0,.int .i64 0,.slice none 0 0] 29 (0,0)))) (fun v22 _=>roots.length - (intOf v22).toNat)
 case atStart=>exact ⟨0,mv0 m,rfl,⟨Nat.zero_le _,H1.out⟩,HG,BP,BQ,BR⟩
 case round =>
  clear H1 HG BP BQ BR;obtain ⟨k_,t,rfl,H1,HG,BP,BQ,BR⟩:=hrel;by_cases cx:(k_:Int)<(roots.length:Int)
  ·have d0 : decide ((k_ : Int) < (roots.length : Int)) = true := decide_eq_true cx
   have d0b:=eq_true (show k_<roots.length by omega);obtain ⟨AO,cO,hg⟩:=HG.out;have hlt:k_<roots.length:=by omega
   have hd:=List.drop_eq_getElem_cons hlt;have hg_:roots[k_]=rd roots k_:=by unfold rd;rw [Int.toNat_natCast,List.getD_eq_getElem?_getD,List.getElem?_eq_getElem hlt];rfl
   obtain ⟨ad,e0,hcell⟩:=Kd.at_int (Kd.C_below HR.out hg.be) k_ (by omega) (by omega)
   cases e0
   rw [Int.toNat_natCast] at hcell;obtain ⟨x,hx⟩: ∃x,x=rd roots k_:=⟨_,rfl⟩;rw [←hx] at hcell;have hp:=H1.out.2;rw [hd,hg_,←hx] at hp;unfold foldO at hp;obtain ⟨t1,hf,hp⟩:=Option.bind_eq_some_iff.mp hp;unfold comeG at hf
   split at hf
   case isFalse=>simp at hf
   case isTrue hsm=>
   have HS:=aK hsm;have HF:=aK hf;have H3:=aK hp;have HK1:=aK hlt;replace HG:=aK hg;have i1:=eq_true (show 0≤(k_:Int) by omega);have i2:=eq_true cx;have q0:=(blk_cell BQ.out 0).trans rfl;clear hd hg_ hx hf hp hsm H1 cx hlt hg
   go_wp2_with (go_at_call 53;refine Classical.byContradiction (fun hng=>?_))
   refine hng ?_;clear hng;refine (mover_come.calls w.heap.size w g gm B gw cW AC cC AO cO m t t1 x _ HM.out rfl HG.out (wfI_small HS.out.1) HS.out.2.1 HS.out.2.2 HF.out).mono ?_;rintro e w5 ⟨rfl,AN,cN,hgn,hk_⟩;replace HG:=aK (show∃(AO:Option Addr) (cO:Nat),Mg w.heap.size w g gm B gw cW AC cC AO cO w5 t1 t1.mv from ⟨AN,cN,hgn⟩);replace BP:=aK (hk_.pm BP.out);replace BQ:=aK (hk_.pg BQ.out);replace BR:=aK (hk_.mem BR.out);clear hgn hk_ q0 hcell;have u1:IntKind.i64.wrap ((k_:Int)+1)=(k_:Int)+1:=IntWalk.i64_in _ (by have:=HK1.out;have:=HSZ.out;omega)
   go_wp2
   go_roundw
   case rel=>exact ⟨k_+1,t1,rfl,⟨HK1.out,H3.out⟩,HG,BP,BQ,BR⟩
   case measure=>have:=HK1.out;simp only [intOf];omega
  ·have d0 : decide ((k_ : Int) < (roots.length : Int)) = false := decide_eq_false cx
   have d0b:=eq_false (show¬k_<roots.length by omega);have hp:=H1.out.2;rw [List.drop_eq_nil_of_le (by omega)] at hp;unfold foldO at hp;obtain rfl:=Option.some.inj hp;clear hp H1 cx;obtain ⟨AO,cO,hg⟩:=HG.out;replace HG:=aK hg;have p0:=(blk_cell BP.out 0).trans rfl;clear hg
   go_wp2_with (go_at_call 54;refine Classical.byContradiction (fun hng=>?_))
   refine hng ?_;clear hng;refine (memory_olds.calls k g m ol w _ HM.out HG.out.be H2.out).mono ?_;rintro e w6 ⟨⟨AS,cS,rfl,hs,hcs⟩,hb⟩;have HOl:=aK hs;replace HG:=aK (show∃(AO:Option Addr) (cO:Nat),Mg w.heap.size w g gm B gw cW AC cC AO cO w6 t t.mv from ⟨AO,cO,HG.out.below hb⟩);replace BP:=aK (blk_below BP.out hb);replace BQ:=aK (blk_below BQ.out hb);replace BR:=aK (blk_below BR.out hb);clear hs hcs hb p0 d0 d0b
   skip
   go_wp2
   go_loopw [33] (fun v33 wr=> ∃(k_:Nat) (t2:Mv),v33= .int .i64 (k_:Int)∧Aside0 (k_≤ol.length∧foldL m (step1 m) t2 (ol.drop k_)=some s2)∧Aside0 (∃(AO:Option Addr) (cO:Nat),Mg w.heap.size w g gm B gw cW AC cC AO cO wr t2 t2.mv)∧Aside0 (wr.heap[gp]? =some (.cells #[.pointer (some ⟨g,0,none⟩)] 56 (0,0)))∧Aside0 (wr.heap[gq]? =some (.cells #[.pointer (some ⟨gm,0,none⟩)] 83 (0,0)))∧Aside0 (wr.heap[gr]? =some (.cells #[.slice none 0 0,.int .i64 0,.int .i64 0,.int .i64 0,.slice none 0 0] 29 (0,0)))) (fun v33 _=>ol.length - (intOf v33).toNat)
   case atStart=>exact ⟨0,t,rfl,⟨Nat.zero_le _,H3.out⟩,HG,BP,BQ,BR⟩
   case round =>
    clear H3 HG BP BQ BR;obtain ⟨k_,t,rfl,H3,HG,BP,BQ,BR⟩:=hrel;by_cases cx:(k_:Int)<(ol.length:Int)
    ·have d0 : decide ((k_ : Int) < (ol.length : Int)) = true := decide_eq_true cx
     have d0b:=eq_true (show k_<ol.length by omega);obtain ⟨AO,cO,hg⟩:=HG.out;have hlt:k_<ol.length:=by omega
     have hd:=List.drop_eq_getElem_cons hlt;have hg_:ol[k_]=rd ol k_:=by unfold rd;rw [Int.toNat_natCast,List.getD_eq_getElem?_getD,List.getElem?_eq_getElem hlt];rfl
     obtain ⟨ad,e0,hcell⟩:=Kd.at_int (Kd.C_below HOl.out hg.be) k_ (by omega) (by omega)
     cases e0
     rw [Int.toNat_natCast] at hcell;obtain ⟨x,hx⟩: ∃x,x=rd ol k_:=⟨_,rfl⟩;rw [←hx] at hcell;have hp:=H3.out.2;rw [hd,hg_,←hx] at hp;unfold foldL at hp;obtain ⟨ws,hws,hp⟩:=Option.bind_eq_some_iff.mp hp;obtain ⟨t1,hf,hp⟩:=Option.bind_eq_some_iff.mp hp;have HW:=aK hws;have HF:=aK hf;have H5:=aK hp;have HK1:=aK hlt;replace HG:=aK hg;have i1:=eq_true (show 0≤(k_:Int) by omega);have i2:=eq_true cx;have p0:=(blk_cell BP.out 0).trans rfl;clear hd hg_ hx hf hws hp H3 cx hlt hg
     go_wp2_with (go_at_call 55;refine Classical.byContradiction (fun hng=>?_))
     refine hng ?_;clear hng;refine (led_fold.calls 56 _ Try.func56 (by kernel_rfl) rfl #[.pointer (some ⟨gp,0,none⟩),.pointer (some ⟨gq,0,none⟩)] w.heap.size w g gm B gw cW AC cC AO cO m (step1 m) x ws (fun W=>W.heap[gp]? =some (.cells #[.pointer (some ⟨g,0,none⟩)] 56 (0,0))∧W.heap[gq]? =some (.cells #[.pointer (some ⟨gm,0,none⟩)] 83 (0,0))) (fun _ _=>True) t t1 _ (fun W W' h hb=>⟨blk_below h.1 hb,blk_below h.2 hb⟩) (fun AO2 cO2 u u' y W _ hgu hx hu=>(minor1.calls w.heap.size w g gm B gw cW AC cC AO2 cO2 m u u' y gq gp W HM.out rfl hgu hx.2 hx.1 hu).mono (fun e W' hh=>⟨⟨hh.1,(let ⟨_,A,c,h1,h2⟩:=hh;⟨A,c,trivial,h1⟩),(let ⟨_,A,c,h1,h2⟩:=hh;h2)⟩,(let ⟨_,A,c,h1,h2⟩:=hh;⟨h2.pm hx.1,h2.pg hx.2⟩)⟩)) HM.out rfl trivial HG.out ⟨BP.out,BQ.out⟩ HW.out HF.out).mono ?_;rintro e w7 ⟨⟨rfl,⟨AN,cN,_,hgn⟩,hk_⟩,_⟩;replace HG:=aK (show∃(AO:Option Addr) (cO:Nat),Mg w.heap.size w g gm B gw cW AC cC AO cO w7 t1 t1.mv from ⟨AN,cN,hgn⟩);replace BP:=aK (hk_.pm BP.out);replace BQ:=aK (hk_.pg BQ.out);replace BR:=aK (hk_.mem BR.out);clear hgn hk_;clear p0 hcell;have u1:IntKind.i64.wrap ((k_:Int)+1)=(k_:Int)+1:=IntWalk.i64_in _ (by have:=HK1.out;have:=HLo.out;omega)
     go_wp2
     go_roundw
     case rel=>exact ⟨k_+1,t1,rfl,⟨HK1.out,H5.out⟩,HG,BP,BQ,BR⟩
     case measure=>have:=HK1.out;simp only [intOf];omega
    ·have d0 : decide ((k_ : Int) < (ol.length : Int)) = false := decide_eq_false cx
     have d0b:=eq_false (show¬k_<ol.length by omega);have hp:=H3.out.2;rw [List.drop_eq_nil_of_le (by omega)] at hp;unfold foldL at hp;obtain rfl:=Option.some.inj hp;clear hp H3 cx;go_wp2
     go_step3
     go_wp2
     go_loopw [12] (fun v12 wr=> ∃(k_:Nat) (t2:Mv),v12= .int .i64 (k_:Int)∧Aside0 (k_≤k∧chase m (k - k_) k_ t2=some s3)∧Aside0 (∃(AO:Option Addr) (cO:Nat),Mg w.heap.size w g gm B gw cW AC cC AO cO wr t2 t2.mv)∧Aside0 (wr.heap[gp]? =some (.cells #[.pointer (some ⟨g,0,none⟩)] 56 (0,0)))∧Aside0 (wr.heap[gq]? =some (.cells #[.pointer (some ⟨gm,0,none⟩)] 83 (0,0)))∧Aside0 (wr.heap[gr]? =some (.cells #[.slice none 0 0,.int .i64 0,.int .i64 0,.int .i64 0,.slice none 0 0] 29 (0,0)))) (fun v12 _=>k - (intOf v12).toNat)
     case atStart=>exact ⟨0,t,rfl,⟨Nat.zero_le _,H4.out⟩,HG,BP,BQ,BR⟩
     case round =>
      clear H4 HG BP BQ BR;obtain ⟨k_,t,rfl,H4,HG,BP,BQ,BR⟩:=hrel;obtain ⟨AO,cO,hg⟩:=HG.out;replace HG:=aK hg;obtain ⟨q,hq⟩: ∃q,k - k_=q:=⟨_,rfl⟩;have hc:=H4.out.2;rw [hq] at hc
      cases q with
      |zero=>
       unfold chase at hc;simp at hc
      | succ q =>
       unfold chase at hc;have HK1:=aK (show k_<k∧k - (k_+1)=q by omega);have q0:=(blk_cell BQ.out 0).trans rfl;have p0:=(blk_cell BP.out 0).trans rfl;have k8:=(blk_cell hg.bx 8).trans rfl;have k7:=(blk_cell hg.bx 7).trans rfl;clear hg hq H4
       cases hfu:t.full with
       |true=>
        rw [hfu] at hc k8;rw [if_pos (Or.inl rfl)] at hc;obtain rfl:=Option.some.inj hc;have h:=H.out;rw [if_pos hfu] at h;obtain rfl:=Option.some.inj h;have HBe:=aK HG.out.be;have z0:=(blk_cell BR.out 0).trans rfl;have z1:=(blk_cell BR.out 1).trans rfl;have z2:=(blk_cell BR.out 2).trans rfl;have z3:=(blk_cell BR.out 3).trans rfl;have z4:=(blk_cell BR.out 4).trans rfl;have f0:=blk_frozen BR.out 0;have f1:=blk_frozen BR.out 1;have f2:=blk_frozen BR.out 2;have f3:=blk_frozen BR.out 3;have f4:=blk_frozen BR.out 4;clear hc h hfu H;go_wp2;rw [Exit.noGoto_ret];refine bodyPost_ret (results_list (rs:=[.cell 4 29,.tmp 5,.tmp 6]) rfl (by simp) (.cell gr 29 #[.slice none 0 0,.int .i64 0,.int .i64 0,.int .i64 0,.slice none 0 0] (0,0) _ rfl (blk_box5 BR.out) Try.underlying29 rfl (by kernel_rfl) (.tmp (.tmp .nil)))) rfl ?_;exact ⟨rfl,HBe.out.trans ((Ch.box5 (Ch.refl (fun k=>k=gr) wr) (.inl rfl) _ _ _ _ _).toBelow (below_size HBe.out) (fun k hk=>by rw [hk];exact HGr.out))⟩
       | false =>
        rw [hfu] at hc k8;by_cases cl:t.mv.length≤k_
        ·rw [if_pos (Or.inr cl)] at hc
         obtain rfl:=Option.some.inj hc;have d1:decide ((k_:Int)≥(t.mv.length:Int))=true:=decide_eq_true (by omega)
         have d1b:=eq_true (show t.mv.length≤k_ from cl);have h:=H.out;rw [if_neg (by rw [hfu];simp)] at h;obtain ⟨s4,hld,h⟩:=Option.bind_eq_some_iff.mp h
         split at h
         case isFalse=>simp at h
         case isTrue hy=>
         have HRr:=aK (Option.some.inj h);have HLd:=aK hld;have HY:=aK hy;clear h hld hy hc hfu cl H;go_wp2;refine sT 4 (S:=fun w'=>w'.cell? ⟨gq,0,none⟩=some (.pointer (some ⟨gm,0,none⟩))∧w'.cell? ⟨gp,0,none⟩=some (.pointer (some ⟨g,0,none⟩))) (ds:=[3]) ⟨(by go_simp),(by go_simp)⟩ (fun hHeld=>?_);replace HG:=aK (HG.out.below (below_drew1 (Below.refl wr.heap.size wr)));replace BP:=aK (blk_below BP.out (below_drew1 (Below.refl wr.heap.size wr)));replace BQ:=aK (blk_below BQ.out (below_drew1 (Below.refl wr.heap.size wr)));replace BR:=aK (blk_below BR.out (below_drew1 (Below.refl wr.heap.size wr)));generalize World.drew wr=wt at HG BP BQ BR hHeld ⊢;refine tS 0 72 #[true,false,false,false] rfl rfl (by kernel_rfl) hHeld zz33 ?_;refine tS 1 73 #[true,true,false,false] rfl rfl (by kernel_rfl) hHeld zz33 ?_;refine oS 2 74 #[true,true,true,false] rfl rfl (fun K hK=>?_);refine gO Try.func54 #[.pointer (some ⟨g,0,none⟩)] ?_;(with_reducible refine (memory_olds.calls k g m ol w _ HM.out HG.out.be H2.out).mono ?_);rintro e w5 ⟨⟨AS2,cS2,rfl,hs,hcs⟩,hb5⟩;have HOl2:=aK hs;clear hs hcs;replace HG:=aK (HG.out.below hb5);replace BP:=aK (blk_below BP.out hb5);replace BQ:=aK (blk_below BQ.out hb5);replace BR:=aK (blk_below BR.out hb5);refine ⟨_,rfl,?_⟩;refine hK.out _ _ ⟨(pw_cell_below hb5 hHeld.1),(pw_cell_below hb5 hHeld.2)⟩ (fun hHeld=>?_);clear hK K;refine nS 74 ?_;refine last_ (i:=3) (N:=some 75) #[true,true,true,true] rfl rfl (by kernel_rfl) (by decide) (fun K hK=>?_);refine gO Try.func59 #[.pointer (some ⟨gm,0,none⟩),.slice AS2 ol.length cS2] ?_;(with_reducible refine (mover_lead.calls w.heap.size w g gm B gw cW AC cC AO cO AS2 cS2 m t s4 ol _ HM.out rfl HG.out HOl2.out HLd.out).mono ?_);rintro e w6 ⟨rfl,hg6,hk6⟩;refine ⟨_,rfl,?_⟩;refine hK.out _ _ ?_;clear hK K;refine nS 75 ?_;refine done_ (by kernel_rfl) ?_;clear hHeld d1 d1b q0 p0 k7 k8;have HG:=aK hg6;replace BP:=aK (hk6.pm BP.out);replace BQ:=aK (hk6.pg BQ.out);replace BR:=aK (hk6.mem BR.out);clear hg6 hk6;have q0:=(blk_cell BQ.out 0).trans rfl;have k1:=(blk_cell HG.out.bx 1).trans rfl;have k2:=(blk_cell HG.out.bx 2).trans rfl;have HCw:=aK ((Kd.R_reads' HG.out.rw_).2.1);have i1:=eq_true HY.out.1;have i2:=eq_true (show s4.y≤(cW:Int) by have:=HY.out;have:=HCw.out;omega);go_wp2;refine sT 12 (S:=fun w'=>w'.cell? ⟨gq,0,none⟩=some (.pointer (some ⟨gm,0,none⟩))∧w'.cell? ⟨gm,1,none⟩=some (.slice (some ⟨gw,0,none⟩) s4.tw.length cW)∧w'.cell? ⟨gm,2,none⟩=some (.int .i64 s4.y)) (ds:=[11]) ⟨(by go_simp),(by go_simp),(by go_simp)⟩ (fun hHeld=>?_);replace HG:=aK (HG.out.below (below_drew1 (Below.refl w6.heap.size w6)));replace BP:=aK (blk_below BP.out (below_drew1 (Below.refl w6.heap.size w6)));replace BQ:=aK (blk_below BQ.out (below_drew1 (Below.refl w6.heap.size w6)));replace BR:=aK (blk_below BR.out (below_drew1 (Below.refl w6.heap.size w6)));generalize World.drew w6=wt at HG BP BQ BR hHeld ⊢;obtain ⟨w7,hcl,hcr,hch⟩:=clear_run (enc:=Value.int .i64) (h1:=fun _=>rfl) 0 0 (c:=cW) (n:=s4.y.toNat) HG.out.rw_ (by have:=HY.out;omega) 23 0 Try.underlying23 (fun w=>by kernel_rfl) rfl;refine tS 0 76 (lA 12 1) rfl rfl (by kernel_rfl) hHeld zz35 ?_;refine pS 1 77 (lA 12 3) ?_;refine pS 2 78 (lA 12 7) ?_;refine pS 3 79 (lA 12 15) ?_;refine tS 4 80 (lA 12 31) rfl rfl (by kernel_rfl) hHeld zz35 ?_;refine tS 5 81 (lA 12 63) rfl rfl (by kernel_rfl) hHeld zz35 ?_;refine pS 6 82 (lA 12 127) ?_;refine pS 7 83 (lA 12 255) ?_;refine pS 8 84 (lA 12 511) ?_;refine tS 9 85 (lA 12 1023) rfl rfl (by kernel_rfl) hHeld zz35 ?_;refine pS 10 86 (lA 12 2047) ?_;refine last_ (i:=11) (N:=none) (lA 12 4095) rfl rfl (by kernel_rfl) (by decide) (fun K hK=>?_);refine value_ (w1:=?_) (v:=?_) (by rfl) rfl ?_ ?_;rotate_left 2
         ·go_simp
          constructor
          ·rfl
          ·rfl
         refine hK.out _ _ ?_;clear hK K;refine done_ (by kernel_rfl) ?_;clear hHeld hcl q0 k1 k2 i1 i2;have hn:=HG.out.words hch hcr (by rw [List.length_append,List.length_replicate,List.length_drop];have:=HY.out;omega);replace HG:=aK hn.1;have hk_:=hn.2;replace BP:=aK (hk_.pm BP.out);replace BQ:=aK (hk_.pg BQ.out);replace BR:=aK (hk_.mem BR.out);clear hn hk_ hch hcr;obtain ⟨s5,hs5⟩: ∃z,z=({s4 with tw:=List.replicate s4.y.toNat 0++s4.tw.drop s4.y.toNat}:Mv):=⟨_,rfl⟩;replace HG:=aK (show Mg w.heap.size w g gm B gw cW AC cC AO cO w7 s5 s5.mv by rw [hs5];exact HG.out);have HS5:=aK hs5;clear hs5;obtain ⟨w8,hcl,hcr,hch⟩:=clear_all (c:=cC) HG.out.rc 24 0 Try.underlying24 (fun w=>by kernel_rfl);have HG8:=aK (show Mg w.heap.size w g gm B gw cW AC cC AO cO w8 {s5 with tc:=List.replicate s5.tc.length false} s5.mv from HG.out.cards hch hcr);have hk_:=HG.out.cardsK hch;have q0:=(blk_cell BQ.out 0).trans rfl;have k5:=(blk_cell HG.out.bx 5).trans rfl;replace BP:=aK (hk_.pm BP.out);replace BQ:=aK (hk_.pg BQ.out);replace BR:=aK (hk_.mem BR.out);have q8:=(blk_cell BQ.out 0).trans rfl;have k8:=(blk_cell HG8.out.bx 3).trans rfl;have f8:=blk_frozen HG8.out.bx 3;clear hk_ hch hcr HG;go_wp2;clear q0 k5 q8 k8 f8 hcl;obtain ⟨w9,hw⟩: ∃z,z=w8.setCell ⟨gm,3,none⟩ (.int .i64 0):=⟨_,rfl⟩;rw [←hw];have hn:=HG8.out.topS 0;rw [←hw] at hn;obtain ⟨s6,hs6⟩: ∃z,z=({s5 with tc:=List.replicate s5.tc.length false,t:=0}:Mv):=⟨_,rfl⟩;have HG:=aK (show Mg w.heap.size w g gm B gw cW AC cC AO cO w9 s6 s6.mv by rw [hs6];exact hn.1);have hk_:=hn.2;replace BP:=aK (hk_.pm BP.out);replace BQ:=aK (hk_.pg BQ.out);replace BR:=aK (hk_.mem BR.out);have HS6:=aK hs6;clear hn hk_ hw hs6 HG8;have q0:=(blk_cell BQ.out 0).trans rfl;have k1:=(blk_cell HG.out.bx 1).trans rfl;have k2:=(blk_cell HG.out.bx 2).trans rfl;have k3:=(blk_cell HG.out.bx 3).trans rfl;have k4:=(blk_cell HG.out.bx 4).trans rfl;have k5:=(blk_cell HG.out.bx 5).trans rfl;refine sT 10 (S:=fun w'=>w'.cell? ⟨gq,0,none⟩=some (.pointer (some ⟨gm,0,none⟩))∧w'.cell? ⟨gm,1,none⟩=some (.slice (some ⟨gw,0,none⟩) s6.tw.length cW)∧w'.cell? ⟨gm,2,none⟩=some (.int .i64 s6.y)∧w'.cell? ⟨gm,3,none⟩=some (.int .i64 s6.t)∧w'.cell? ⟨gm,4,none⟩=some (.int .i64 s6.o)∧w'.cell? ⟨gm,5,none⟩=some (.slice AC s6.tc.length cC)) (ds:=[7]) ⟨(by go_simp),(by go_simp),(by go_simp),(by go_simp),(by go_simp),(by go_simp)⟩ (fun hHeld=>?_);replace HG:=aK (HG.out.below (below_drew1 (Below.refl w9.heap.size w9)));replace BP:=aK (blk_below BP.out (below_drew1 (Below.refl w9.heap.size w9)));replace BQ:=aK (blk_below BQ.out (below_drew1 (Below.refl w9.heap.size w9)));replace BR:=aK (blk_below BR.out (below_drew1 (Below.refl w9.heap.size w9)));generalize World.drew w9=wt at HG BP BQ BR hHeld ⊢;refine pS 5 101 #[false,false,false,false,false,true,false,false,false,false] ?_;refine tS 0 96 #[true,false,false,false,false,true,false,false,false,false] rfl rfl (by kernel_rfl) hHeld zz4 ?_;refine pS 1 97 #[true,true,false,false,false,true,false,false,false,false] ?_;refine pS 2 98 #[true,true,true,false,false,true,false,false,false,false] ?_;refine tS 3 99 #[true,true,true,true,false,true,false,false,false,false] rfl rfl (by kernel_rfl) hHeld zz4 ?_;refine tS 4 100 #[true,true,true,true,true,true,false,false,false,false] rfl rfl (by kernel_rfl) hHeld zz4 ?_;refine oS 6 102 #[true,true,true,true,true,true,true,false,false,false] rfl rfl (fun K hK=>?_);refine gO Try.func60 #[.pointer (some ⟨gm,0,none⟩),.slice AR roots.length cR] ?_;(with_reducible refine (mover_nowAll.calls w.heap.size w g gm B gw cW AC cC AO cO s6 AR cR roots _ HG.out (Kd.C_below HR.out HG.out.be) HSZ.out.2.2.2 HSM.out).mono ?_);rintro e wb ⟨vr,rfl,hvr,hbb⟩;have HVW:=aK (Kd.R_elder HG.out.rw_ hvr hbb)
         have HVC:=aK (Kd.R_elder HG.out.rc hvr hbb);have HVR:=aK (Kd.R_lower (Kd.R_newR hvr HG.out.rw_) HG.out.sz);clear hvr;replace HG:=aK (HG.out.below hbb);replace BP:=aK (blk_below BP.out hbb);replace BQ:=aK (blk_below BQ.out hbb);replace BR:=aK (blk_below BR.out hbb);have z0:=(blk_cell BR.out 0).trans rfl;have f0:=blk_frozen BR.out 0;have z1:=(blk_cell BR.out 1).trans rfl;have f1:=blk_frozen BR.out 1;have z2:=(blk_cell BR.out 2).trans rfl;have f2:=blk_frozen BR.out 2;have z3:=(blk_cell BR.out 3).trans rfl;have f3:=blk_frozen BR.out 3;have z4:=(blk_cell BR.out 4).trans rfl;have f4:=blk_frozen BR.out 4;refine ⟨_,rfl,?_⟩;refine hK.out _ _ ⟨(pw_cell_below hbb hHeld.1),(pw_cell_below hbb hHeld.2.1),(pw_cell_below hbb hHeld.2.2.1),(pw_cell_below hbb hHeld.2.2.2.1),(pw_cell_below hbb hHeld.2.2.2.2.1),(pw_cell_below hbb hHeld.2.2.2.2.2)⟩ (fun hHeld=>?_);clear hK K;refine nS 102 ?_;refine last_ (i:=7) (N:=none) #[true,true,true,true,true,true,true,true,false,false] rfl rfl (by kernel_rfl) (by decide) (fun K hK=>?_);refine skip_ (w1:=?_) (by rfl) rfl ?_ ?_;rotate_left
         ·go_simp
          rfl
         refine hK.out _ _ ?_;clear hK K;refine pS 8 5 #[true,true,true,true,true,true,true,true,true,false] ?_;refine pS 9 6 #[true,true,true,true,true,true,true,true,true,true] ?_;refine done_ (by kernel_rfl) ?_;clear HLd HY q0 k1 k2 k3 k4 k5;go_wp2;rw [Exit.noGoto_ret];refine bodyPost_ret (results_list (rs:=[.cell 4 29,.tmp 5,.tmp 6]) rfl (by simp) (.cell gr 29 #[.slice (some ⟨gw,0,none⟩) s6.tw.length cW,.int .i64 s6.y,.int .i64 s6.t,.int .i64 s6.o,.slice AC s6.tc.length cC] (0,0) _ rfl (blk_box5 BR.out) Try.underlying29 rfl (by kernel_rfl) (.tmp (.tmp .nil)))) rfl ?_;have he:({s4 with tw:=List.replicate s4.y.toNat 0++s4.tw.drop s4.y.toNat,tc:=List.replicate s4.tc.length false,t:=0}:Mv)=s6:=by rw [HS6.out,HS5.out]
         have hm6:s4.mv=s6.mv:=by rw [←he]
         rw [←HRr.out,he,hm6];have hcx:Ch (fun k=>k=gr) wb (memBox wb gr (.slice (some ⟨gw,0,none⟩) s6.tw.length cW) (.int .i64 s6.y) (.int .i64 s6.t) (.int .i64 s6.o) (.slice AC s6.tc.length cC)):=Ch.box5 (Ch.refl (fun k=>k=gr) wb) (.inl rfl) _ _ _ _ _
         exact ⟨_,_,vr,rfl,Kd.R_mono (R_box5t HVW.out BR.out (by decide)) (fun k hk=>by first|exact hk.2|exact hk.1.2),Kd.R_mono (R_box5t HVC.out BR.out (by decide)) (fun _ _=>trivial),Kd.R_mono (R_box5t HVR.out BR.out (by decide)) (fun k hk=>by first|exact hk.2|exact hk.1.2),HG.out.be.trans (hcx.toBelow HG.out.sz (fun k hk=>by rw [hk];exact HGr.out))⟩
        ·rw [if_neg (fun h => h.elim (fun h => by cases h) cl)] at hc
         have d1:decide ((k_:Int)≥(t.mv.length:Int))=false:=decide_eq_false (by omega)
         have d1b:=eq_false (show¬t.mv.length≤k_ from cl);obtain ⟨ws,hws,hc⟩:=Option.bind_eq_some_iff.mp hc;obtain ⟨t1,hf,hc⟩:=Option.bind_eq_some_iff.mp hc;obtain ⟨ad,e0,hcell⟩:=Kd.at_int (Kd.R_reads' HG.out.ro).2.2 k_ (by omega) (by rw [List.length_map];omega)
         cases e0
         rw [Int.toNat_natCast] at hcell;obtain ⟨x,hx⟩: ∃x,x=rd (t.mv.map Prod.fst) k_:=⟨_,rfl⟩;rw [←hx] at hcell hws;have HW:=aK hws;have HF:=aK hf;have H5:=aK hc;have i1:=eq_true (show 0≤(k_:Int) by omega);have i2:=eq_true (show (k_:Int)<(t.mv.length:Int) by omega);have HKl:=aK (show k_<t.mv.length by omega);have HMX:=aK (Kd.C_max (Kd.R_reads' HG.out.ro).2.2);clear hc hws hf hx cl hfu;go_wp2;refine sT 10 (S:=fun w'=>w'.cell? ⟨gq,0,none⟩=some (.pointer (some ⟨gm,0,none⟩))∧w'.cell? ⟨gp,0,none⟩=some (.pointer (some ⟨g,0,none⟩))∧w'.cell? ⟨gm,7,none⟩=some (.slice (some ad) t.mv.length cO)∧w'.cell? (ad.add k_)=some (.int .i64 x)) (ds:=[9]) ⟨(by go_simp),(by go_simp),(by go_simp),(by go_simp)⟩ (fun hHeld=>?_);replace HG:=aK (HG.out.below (below_drew1 (Below.refl wr.heap.size wr)));replace BP:=aK (blk_below BP.out (below_drew1 (Below.refl wr.heap.size wr)));replace BQ:=aK (blk_below BQ.out (below_drew1 (Below.refl wr.heap.size wr)));replace BR:=aK (blk_below BR.out (below_drew1 (Below.refl wr.heap.size wr)));generalize World.drew wr=wt at HG BP BQ BR hHeld ⊢;have hcall:=led_fold.calls 58 _ Try.func58 (by kernel_rfl) rfl #[.pointer (some ⟨gq,0,none⟩),.pointer (some ⟨gp,0,none⟩)] w.heap.size w g gm B gw cW AC cC (some ad) cO m (step2 m) x ws (fun W=>W.heap[gp]? =some (.cells #[.pointer (some ⟨g,0,none⟩)] 56 (0,0))∧W.heap[gq]? =some (.cells #[.pointer (some ⟨gm,0,none⟩)] 83 (0,0))) (fun _ _=>True) t t1 _ (fun W W' h hb=>⟨blk_below h.1 hb,blk_below h.2 hb⟩) (fun AO2 cO2 u u' y W _ hgu hx hu=>(minor2.calls w.heap.size w g gm B gw cW AC cC AO2 cO2 m u u' y gq gp W HM.out rfl hgu hx.2 hx.1 hu).mono (fun e W' hh=>⟨⟨hh.1,(let ⟨_,A,c,h1,h2⟩:=hh;⟨A,c,trivial,h1⟩),(let ⟨_,A,c,h1,h2⟩:=hh;h2)⟩,(let ⟨_,A,c,h1,h2⟩:=hh;⟨h2.pm hx.1,h2.pg hx.2⟩)⟩)) HM.out rfl trivial HG.out ⟨BP.out,BQ.out⟩ HW.out HF.out;refine pS 5 62 #[false,false,false,false,false,true,false,false,false,false] ?_;refine pS 8 65 #[false,false,false,false,false,true,false,false,true,false] ?_;refine tS 0 57 #[true,false,false,false,false,true,false,false,true,false] rfl rfl (by kernel_rfl) hHeld zz12 ?_;refine tS 1 58 #[true,true,false,false,false,true,false,false,true,false] rfl rfl (by kernel_rfl) hHeld zz12 ?_;refine pS 2 59 #[true,true,true,false,false,true,false,false,true,false] ?_;refine pS 3 60 #[true,true,true,true,false,true,false,false,true,false] ?_;refine tS 4 61 #[true,true,true,true,true,true,false,false,true,false] rfl rfl (by kernel_rfl) hHeld zz12 ?_;refine pS 6 63 #[true,true,true,true,true,true,true,false,true,false] ?_;refine tS 7 64 #[true,true,true,true,true,true,true,true,true,false] rfl rfl (by kernel_rfl) hHeld zz12 ?_;refine last_ (i:=9) (N:=some 66) #[true,true,true,true,true,true,true,true,true,true] rfl rfl (by kernel_rfl) (by decide) (fun K hK=>?_);refine gO Try.func55 #[.pointer (some ⟨g,0,none⟩),.int .i64 x,.func (.func 58) #[] #[.pointer (some ⟨gq,0,none⟩),.pointer (some ⟨gp,0,none⟩)]] ?_;(with_reducible refine (hcall).mono ?_);rintro e w9 ⟨⟨rfl,⟨AN,cN,_,hgn⟩,hk_⟩,_⟩;refine ⟨_,rfl,?_⟩;refine hK.out _ _ ?_;clear hK K;refine nS 66 ?_;refine done_ (by kernel_rfl) ?_;clear hHeld;replace HG:=aK (show∃(AO:Option Addr) (cO:Nat),Mg w.heap.size w g gm B gw cW AC cC AO cO w9 t1 t1.mv from ⟨AN,cN,hgn⟩);replace BP:=aK (hk_.pm BP.out);replace BQ:=aK (hk_.pg BQ.out);replace BR:=aK (hk_.mem BR.out);clear hgn hk_;clear q0 p0 k7 k8 hcell i1 i2 d1 d1b;have u1:IntKind.i64.wrap ((k_:Int)+1)=(k_:Int)+1:=IntWalk.i64_in _ (by have h2:=HKl.out;have h3:=HMX.out;rw [List.length_map] at h3;omega)
         go_wp2
         go_roundw
         case rel=>exact ⟨k_+1,t1,rfl,⟨HK1.out.1,by rw [HK1.out.2];exact H5.out⟩,HG,BP,BQ,BR⟩
         case measure=>have:=HK1.out;simp only [intOf];omega
def gmOut:Option (Mv×List Int)→(List Int×Int×Int×Int×List Bool×List Int×Bool)
  |none=>([],0,0,0,[],[],false)
  |some p=>(p.1.tw,p.1.y,p.1.t,p.1.o,p.1.tc,p.2,true)
def gmOf (k:Nat) (roots:List Int):Option Mm→Option (List Int×Int×Int×Int×List Bool×List Int×Bool)
  |none=>some (gmOut none)
  |some m=>(minorF k m roots).bind fun r=>some (gmOut r)
def impl_GcMinor.f (k:Nat) (l0:List (S53)) (l1_0:List Int) (a1_1:Int) (a1_2:Int) (a1_3:Int) (l1_4:List Bool) (l2:List Int):Option (List Int×Int×Int×Int×List Bool×List Int×Bool):=
  if l2.length≤281474976710656 then (gopen k k l0 l1_0 a1_1 a1_2 a1_3 l1_4 l2).bind fun r=>gmOf k l2 r else none
theorem gm_out {a:List Int×Int×Int×Int×List Bool×List Int×Bool} {r1:List Int} {r2 r3 r4:Int} {r5:List Bool} {r6:List Int} {r7:Bool} (h:some a=some (r1,r2,r3,r4,r5,r6,r7)):a=(r1,r2,r3,r4,r5,r6,r7):=Option.some.inj h
set_option maxHeartbeats 8000000 in
set_option maxRecDepth 100000 in
theorem impl_GcMinor.calls (k:Nat) (A0:Option Addr) (c0:Nat) (l0:List (S53)) (A1_0:Option Addr) (c1_0:Nat) (l1_0:List Int) (a1_1:Int) (a1_2:Int) (a1_3:Int) (A1_4:Option Addr) (c1_4:Nat) (l1_4:List Bool) (A2:Option Addr) (c2:Nat) (l2:List Int) (r1:List Int) (r2 r3 r4:Int) (r5:List Bool) (r6:List Int) (r7:Bool) (w:World) (hr0:Kd.C k53 w A0 l0.length l0) (hc0:l0.length≤c0) (hr1_0:Kd.C (Kd.int .i64) w A1_0 l1_0.length l1_0) (hc1_0:l1_0.length≤c1_0) (hr1_4:Kd.C Kd.bool w A1_4 l1_4.length l1_4) (hc1_4:l1_4.length≤c1_4) (hr2:Kd.C (Kd.int .i64) w A2 l2.length l2) (hc2:l2.length≤c2) (h:impl_GcMinor.f k l0 l1_0 a1_1 a1_2 a1_3 l1_4 l2=some (r1,r2,r3,r4,r5,r6,r7)):
  Calls Try.prog 11 #[.slice A0 l0.length c0,.agg #[.slice A1_0 l1_0.length c1_0,.int .i64 a1_1,.int .i64 a1_2,.int .i64 a1_3,.slice A1_4 l1_4.length c1_4],.slice A2 l2.length c2] w fun e w'=> ∃v0_ v4_ v5_:Value,e= .returned (.tuple #[.agg #[v0_,.int .i64 r2,.int .i64 r3,.int .i64 r4,v4_],v5_,.bool r7])∧Kd.R (Kd.int .i64) 3 w' w.heap.size (fun k_=>some k_≠(v5_:Value).ownBlock) v0_ r1∧Kd.R Kd.bool 4 w' w.heap.size (fun _=>True) v4_ r5∧Kd.R (Kd.int .i64) 3 w' w.heap.size (fun k_=>some k_≠(v0_:Value).ownBlock) v5_ r6∧Below w.heap.size w w':=by
 unfold impl_GcMinor.f at h
 split at h
 case isFalse=>simp at h
 case isTrue hl2=>
 obtain ⟨m,hm,h⟩:=Option.bind_eq_some_iff.mp h;have HM:=aK hm;have HL2:=aK hl2;have HR0:=aK hr0;have HC0:=aK hc0;have HR1:=aK hr1_0;have HC1:=aK hc1_0;have HR4:=aK hr1_4;have HC4:=aK hc1_4;have HR2:=aK hr2;have HB:=aK (below_alloc (below_alloc (Below.refl w.heap.size w) (.cells #[.slice A1_0 l1_0.length c1_0,.int .i64 a1_1,.int .i64 a1_2,.int .i64 a1_3,.slice A1_4 l1_4.length c1_4] 29 (0,0))) (.cells #[.slice none 0 0,.int .i64 0,.int .i64 0,.int .i64 0,.slice none 0 0] 29 (0,0)));have BR:=aK (alloc_two w (.cells #[.slice A1_0 l1_0.length c1_0,.int .i64 a1_1,.int .i64 a1_2,.int .i64 a1_3,.slice A1_4 l1_4.length c1_4] 29 (0,0)) (.cells #[.slice none 0 0,.int .i64 0,.int .i64 0,.int .i64 0,.slice none 0 0] 29 (0,0)));have HS:=aK (show w.heap.size+1<((w.alloc (.cells #[.slice A1_0 l1_0.length c1_0,.int .i64 a1_1,.int .i64 a1_2,.int .i64 a1_3,.slice A1_4 l1_4.length c1_4] 29 (0,0))).alloc (.cells #[.slice none 0 0,.int .i64 0,.int .i64 0,.int .i64 0,.slice none 0 0] 29 (0,0))).heap.size by simp);have HZ:=aK (show w.heap.size≤((w.alloc (.cells #[.slice A1_0 l1_0.length c1_0,.int .i64 a1_1,.int .i64 a1_2,.int .i64 a1_3,.slice A1_4 l1_4.length c1_4] 29 (0,0))).alloc (.cells #[.slice none 0 0,.int .i64 0,.int .i64 0,.int .i64 0,.slice none 0 0] 29 (0,0))).heap.size by simp;omega);have HH:=aK h;clear hr0 hc0 hr1_0 hc1_0 hr1_4 hc1_4 hr2 hc2 h hm hl2;go_enter Try.func11,Try.ntmps11
 go_wp2_with fail
 go_at_call 31;refine (gcOpen.calls k k A0 c0 l0 A1_0 c1_0 l1_0 a1_1 a1_2 a1_3 A1_4 c1_4 l1_4 A2 c2 l2 m _ (Kd.C_below HR0.out HB.out) HC0.out (Kd.C_below HR1.out HB.out) HC1.out (Kd.C_below HR4.out HB.out) HC4.out (Kd.C_below HR2.out HB.out) HL2.out HM.out).mono ?_
 cases m with
 |none=>
  rintro e w1 ⟨rfl,hb⟩;have HB1:=aK (below_step HB.out hb);replace BR:=aK (blk_below BR.out hb);clear hb HM;have hz:=gm_out HH.out;injection hz with e1 hz;injection hz with e2 hz;injection hz with e3 hz;injection hz with e4 hz;injection hz with e5 hz;injection hz with e6 e7;subst e1;subst e2;subst e3;subst e4;subst e5;subst e6;subst e7;have z0:=(blk_cell BR.out 0).trans rfl;have z1:=(blk_cell BR.out 1).trans rfl;have z2:=(blk_cell BR.out 2).trans rfl;have z3:=(blk_cell BR.out 3).trans rfl;have z4:=(blk_cell BR.out 4).trans rfl;have y0:=blk_frozen BR.out 0;have y1:=blk_frozen BR.out 1;have y2:=blk_frozen BR.out 2;have y3:=blk_frozen BR.out 3;have y4:=blk_frozen BR.out 4;go_wp2;refine bodyPost_ret (results_list (rs:=[.cell 6 29,.tmp 7,.tmp 8]) rfl (by simp) (.cell (w.heap.size+1) 29 #[.slice none 0 0,.int .i64 0,.int .i64 0,.int .i64 0,.slice none 0 0] (0,0) _ rfl (blk_box5 BR.out) Try.underlying29 rfl (by kernel_rfl) (.tmp (.tmp .nil)))) rfl ?_;exact ⟨_,_,_,rfl,Kd.R_nil _ _ _ _ _,Kd.R_nil _ _ _ _ _,Kd.R_nil _ _ _ _ _,below_box5 HB1.out (by omega)⟩
 | some m =>
  rintro e w1 ⟨g,rfl,hmo,hb⟩;have HB1:=aK (below_step HB.out hb);replace BR:=aK (blk_below BR.out hb);have HMO:=aK hmo;obtain ⟨r,hr,hh⟩:=Option.bind_eq_some_iff.mp HH.out;replace HH:=aK hh;have HF:=aK hr;have HZ1:=aK (show w.heap.size+1<w1.heap.size from blk_lt BR.out);clear hb HM hmo hr hh
  go_wp2_with fail
  go_at_call 32;refine (memory_minor.calls k g m A2 c2 l2 r _ (MO_MV HMO.out) (Kd.C_below HR2.out HB1.out) HF.out).mono ?_
  cases r with
  |none=>
   rintro e w2 ⟨rfl,hb⟩;have HB2:=aK (below_step HB1.out hb);replace BR:=aK (blk_below BR.out hb);clear hb;have hz:=gm_out HH.out;injection hz with e1 hz;injection hz with e2 hz;injection hz with e3 hz;injection hz with e4 hz;injection hz with e5 hz;injection hz with e6 e7;subst e1;subst e2;subst e3;subst e4;subst e5;subst e6;subst e7;have z0:=(blk_cell BR.out 0).trans rfl;have z1:=(blk_cell BR.out 1).trans rfl;have z2:=(blk_cell BR.out 2).trans rfl;have z3:=(blk_cell BR.out 3).trans rfl;have z4:=(blk_cell BR.out 4).trans rfl;have y0:=blk_frozen BR.out 0;have y1:=blk_frozen BR.out 1;have y2:=blk_frozen BR.out 2;have y3:=blk_frozen BR.out 3;have y4:=blk_frozen BR.out 4;go_wp2;refine bodyPost_ret (results_list (rs:=[.cell 6 29,.tmp 7,.tmp 8]) rfl (by simp) (.cell (w.heap.size+1) 29 #[.slice none 0 0,.int .i64 0,.int .i64 0,.int .i64 0,.slice none 0 0] (0,0) _ rfl (blk_box5 BR.out) Try.underlying29 rfl (by kernel_rfl) (.tmp (.tmp .nil)))) rfl ?_;exact ⟨_,_,_,rfl,Kd.R_nil _ _ _ _ _,Kd.R_nil _ _ _ _ _,Kd.R_nil _ _ _ _ _,below_box5 HB2.out (by omega)⟩
  |some p=>
   rintro e w2 ⟨v0,v4,vr,rfl,h0,h4,h5,hb⟩;have HB2:=aK (below_step HB1.out hb);replace BR:=aK (blk_below BR.out hb);obtain ⟨B0,b0,rfl⟩:=Kd.R_slice h0;obtain ⟨B4,b4,rfl⟩:=Kd.R_slice h4;have H0:=aK h0;have H4:=aK h4;have H5:=aK h5;have HZ2:=aK (below_size HB1.out);clear hb h0 h4 h5;have hz:=gm_out HH.out;injection hz with e1 hz;injection hz with e2 hz;injection hz with e3 hz;injection hz with e4 hz;injection hz with e5 hz;injection hz with e6 e7;subst e1;subst e2;subst e3;subst e4;subst e5;subst e6;subst e7;have z0:=(blk_cell BR.out 0).trans rfl;have z1:=(blk_cell BR.out 1).trans rfl;have z2:=(blk_cell BR.out 2).trans rfl;have z3:=(blk_cell BR.out 3).trans rfl;have z4:=(blk_cell BR.out 4).trans rfl;have y0:=blk_frozen BR.out 0;have y1:=blk_frozen BR.out 1;have y2:=blk_frozen BR.out 2;have y3:=blk_frozen BR.out 3;have y4:=blk_frozen BR.out 4;go_wp2;refine bodyPost_ret (results_list (rs:=[.cell 6 29,.tmp 7,.tmp 8]) rfl (by simp) (.cell (w.heap.size+1) 29 #[.slice B0 p.1.tw.length b0,.int .i64 p.1.y,.int .i64 p.1.t,.int .i64 p.1.o,.slice B4 p.1.tc.length b4] (0,0) _ rfl (blk_box5 BR.out) Try.underlying29 rfl (by kernel_rfl) (.tmp (.tmp .nil)))) rfl ?_;exact ⟨_,_,vr,rfl,Kd.R_lower (Kd.R_mono (R_box5t H0.out BR.out (by decide)) (fun k hk=>by first|exact hk.1|exact hk)) HZ2.out,Kd.R_lower (Kd.R_mono (R_box5t H4.out BR.out (by decide)) (fun _ _=>trivial)) HZ2.out,Kd.R_lower (Kd.R_mono (R_box5t H5.out BR.out (by decide)) (fun k hk=>by first|exact hk.1|exact hk)) HZ2.out,below_box5 HB2.out (by omega)⟩
def laws_eqIntS.l0:Nat→List Int→List Int→Int→Option (Bool)
  |0,_,_,_=>none
  |k+1,x0,x1,x5=>if x5<(x0.length:Int) then (if 0≤x5 then (if x5<(x1.length:Int) then (if (rd x0 x5)=(rd x1 x5) then (laws_eqIntS.l0 k x0 x1 (wrap64 (x5+1))) else (some false)) else (none)) else (none)) else (some true)
def laws_eqIntS.f (k:Nat) (l0:List Int) (l1:List Int):Option (Bool):=if (l0.length:Int)=(l1.length:Int) then (laws_eqIntS.l0 k l0 l1 0) else (some false)
theorem laws_eqIntS.mono_l: ∀k,(∀y0 y1 y2,LeO (laws_eqIntS.l0 k y0 y1 y2) (laws_eqIntS.l0 (k+1) y0 y1 y2))
 |0=>fun _ _ _ r h=>by simp [laws_eqIntS.l0] at h
 | k + 1 => by
  have ih0:=laws_eqIntS.mono_l k
  ·intro y0 y1 y2
   unfold laws_eqIntS.l0;repeat' first
   |(with_reducible exact ih0 _ _ _)
   |(with_reducible exact LeO.refl _)
   |(with_reducible exact LeO.none _)
   |(with_reducible refine LeO.ite ?_ ?_)
   |(with_reducible refine LeO.bind ?_ (fun _=>?_))
   |exact ih0 _ _ _
   |exact LeO.none _
   |refine LeO.ite ?_ ?_
   |refine LeO.bind ?_ (fun _=>?_)
theorem laws_eqIntS.mono: ∀a0 a1 k,LeO (laws_eqIntS.f k a0 a1) (laws_eqIntS.f (k+1) a0 a1):=by
  intro a0 a1 k;have ih0:=laws_eqIntS.mono_l k;unfold laws_eqIntS.f
  repeat' first
      |(with_reducible exact ih0 _ _ _)
      |(with_reducible exact LeO.refl _)
      |(with_reducible exact LeO.none _)
      |(with_reducible refine LeO.ite ?_ ?_)
      |(with_reducible refine LeO.bind ?_ (fun _=>?_))
      |exact ih0 _ _ _
      |exact LeO.none _
      |refine LeO.ite ?_ ?_
      |refine LeO.bind ?_ (fun _=>?_)
set_option maxHeartbeats 8000000 in
set_option maxRecDepth 100000 in
theorem laws_eqIntS.calls (k : Nat) (A0 : Option Addr) (c0 : Nat) (l0 : List Int) (A1 : Option Addr) (c1 : Nat) (l1 : List Int) (r : Bool) (w : World) (hr0 : Kd.C (Kd.int .i64) w A0 l0.length l0) (hc0 : l0.length ≤ c0) (hr1 : Kd.C (Kd.int .i64) w A1 l1.length l1) (hc1 : l1.length ≤ c1) (h : laws_eqIntS.f k l0 l1 = some r) :
  Calls Try.prog 13 #[.slice A0 l0.length c0,.slice A1 l1.length c1] w fun e w'=>e= .returned (.bool r)∧Drawn0 w w':=by
 have HR0:=aK hr0;have HC0:=aK hc0;clear hr0 hc0;have HR1:=aK hr1;have HC1:=aK hc1;clear hr1 hc1;have H:(if (l0.length:Int)=(l1.length:Int) then (laws_eqIntS.l0 k l0 l1 0) else (some false))=some r:=h
 clear h;by_cases c3:(l0.length:Int)=(l1.length:Int)
 ·rw [if_pos c3] at H
  have c3b0:((l0.length:Int)==(l1.length:Int))=true:=beq_iff_eq.mpr c3
  have c3b1:((l0.length:Int) !=(l1.length:Int))=false:=bne_eq_false_iff_eq.mpr c3
  have c3b2:(l0.length==l1.length)=true:=by first|simpa using c3|(simp at c3 ⊢;omega)
  clear c3;have H':=aK H;clear H;go_enter Try.func13,Try.ntmps13;go_wp2;repeat (go_quiet (fail);try go_wp2)
  go_loopg [5] k (fun kq v5 w'=> ∃(x5_1:Int),v5= .int .i64 x5_1∧Aside0 (laws_eqIntS.l0 kq l0 l1 x5_1=some r)∧Aside0 (kq≤k)∧Drawn0 w w')
  case atStart=>exact ⟨(0),zz5,H',⟨Nat.le_refl _⟩,by repeat (first|exact Drawn0.refl _|apply Drawn0.step)⟩
  case round =>
   clear H';(try clear c1);(try clear p2);(try clear c3);(try clear c3b0);(try clear c3b1);(try clear c3b2);obtain ⟨x5_1,rfl,HA,HK1,⟨m1,rfl⟩⟩:=hrel
   cases gk with
   |zero=>exact absurd HA.out (by simp [laws_eqIntS.l0])
   | succ k1 =>
    have H:=HA.out;clear HA;simp only [laws_eqIntS.l0] at H;by_cases c4:x5_1<(l0.length:Int)
    ·rw [if_pos c4] at H
     have c4b0:decide (x5_1<(l0.length:Int))=true:=decide_eq_true c4
     clear c4;by_cases c5:0≤x5_1
     ·rw [if_pos c5] at H
      have c5b0:decide (0≤x5_1)=true:=decide_eq_true c5
      clear c5;by_cases c6:x5_1<(l1.length:Int)
      ·rw [if_pos c6] at H
       have c6b0:decide (x5_1<(l1.length:Int))=true:=decide_eq_true c6
       clear c6;by_cases c7:(rd l0 x5_1)=(rd l1 x5_1)
       ·rw [if_pos c7] at H
        have c7b0:((rd l0 x5_1)==(rd l1 x5_1))=true:=beq_iff_eq.mpr c7
        have c7b1:((rd l0 x5_1) !=(rd l1 x5_1))=false:=bne_eq_false_iff_eq.mpr c7
        clear c7;have H':=aK H;clear H;have p312:0≤(x5_1:Int):=of_decide_eq_true zz3
        have q312:x5_1<(l0.length:Int):=of_decide_eq_true zz3
        obtain ⟨ad312,e312,hx312_0⟩:=Kd.at_int HR0.out x5_1 p312 q312
        cases e312
        replace p312:=eq_true p312;replace q312:=eq_true q312;have p313:0≤(x5_1:Int):=of_decide_eq_true zz3
        have q313:x5_1<(l1.length:Int):=of_decide_eq_true zz3
        obtain ⟨ad313,e313,hx313_0⟩:=Kd.at_int HR1.out x5_1 p313 q313
        cases e313
        replace p313:=eq_true p313;replace q313:=eq_true q313;go_wp2;repeat (go_quiet (fail);try go_wp2)
        go_roundg k1
        case measure=>have:=HK1.out;omega
        case rel=>exact ⟨(wrap64 (x5_1+1)),zz5,H',⟨by have:=HK1.out;omega⟩,by repeat (first|exact Drawn0.refl _|apply Drawn0.step)⟩
       ·rw [if_neg c7] at H
        have c7b0:((rd l0 x5_1)==(rd l1 x5_1))=false:=beq_eq_false_iff_ne.mpr c7
        have c7b1:((rd l0 x5_1) !=(rd l1 x5_1))=true:=bne_iff_ne.mpr c7
        obtain rfl:=Option.some.inj H;have p312:0≤(x5_1:Int):=of_decide_eq_true zz3
        have q312:x5_1<(l0.length:Int):=of_decide_eq_true zz3
        obtain ⟨ad312,e312,hx312_0⟩:=Kd.at_int HR0.out x5_1 p312 q312
        cases e312
        replace p312:=eq_true p312;replace q312:=eq_true q312;have p313:0≤(x5_1:Int):=of_decide_eq_true zz3
        have q313:x5_1<(l1.length:Int):=of_decide_eq_true zz3
        obtain ⟨ad313,e313,hx313_0⟩:=Kd.at_int HR1.out x5_1 p313 q313
        cases e313
        replace p313:=eq_true p313;replace q313:=eq_true q313;go_wp2;repeat (go_quiet (fail);try go_wp2)
        go_ret;exact ⟨zz5,zz10⟩
      ·rw [if_neg c6] at H
       exact absurd H (by simp)
     ·rw [if_neg c5] at H
      exact absurd H (by simp)
    ·rw [if_neg c4] at H
     have c4b0:decide (x5_1<(l0.length:Int))=false:=decide_eq_false c4
     clear c4;obtain rfl:=Option.some.inj H;go_wp2;repeat (go_quiet (fail);try go_wp2)
     go_ret;exact ⟨zz5,zz10⟩
 ·rw [if_neg c3] at H
  have c3b0:((l0.length:Int)==(l1.length:Int))=false:=beq_eq_false_iff_ne.mpr c3
  have c3b1:((l0.length:Int) !=(l1.length:Int))=true:=bne_iff_ne.mpr c3
  have c3b2:(l0.length==l1.length)=false:=by first|simpa using c3|(simp at c3 ⊢;omega)
  obtain rfl:=Option.some.inj H;go_enter Try.func13,Try.ntmps13;go_wp2;repeat (go_quiet (fail);try go_wp2)
  go_ret;exact ⟨zz5,zz10⟩
def laws_eqBoolS.l0:Nat→List Bool→List Bool→Int→Option (Bool)
  |0,_,_,_=>none
  |k+1,x0,x1,x5=>if x5<(x0.length:Int) then (if 0≤x5 then (if x5<(x1.length:Int) then (if ((rdOf false x0 x5) !=(rdOf false x1 x5))=true then (some false) else (laws_eqBoolS.l0 k x0 x1 (wrap64 (x5+1)))) else (none)) else (none)) else (some true)
def laws_eqBoolS.f (k:Nat) (l0:List Bool) (l1:List Bool):Option (Bool):=if (l0.length:Int)=(l1.length:Int) then (laws_eqBoolS.l0 k l0 l1 0) else (some false)
theorem laws_eqBoolS.mono_l: ∀k,(∀y0 y1 y2,LeO (laws_eqBoolS.l0 k y0 y1 y2) (laws_eqBoolS.l0 (k+1) y0 y1 y2))
 |0=>fun _ _ _ r h=>by simp [laws_eqBoolS.l0] at h
 | k + 1 => by
  have ih0:=laws_eqBoolS.mono_l k
  ·intro y0 y1 y2
   unfold laws_eqBoolS.l0;repeat' first
   |(with_reducible exact ih0 _ _ _)
   |(with_reducible exact LeO.refl _)
   |(with_reducible exact LeO.none _)
   |(with_reducible refine LeO.ite ?_ ?_)
   |(with_reducible refine LeO.bind ?_ (fun _=>?_))
   |exact ih0 _ _ _
   |exact LeO.none _
   |refine LeO.ite ?_ ?_
   |refine LeO.bind ?_ (fun _=>?_)
theorem laws_eqBoolS.mono: ∀a0 a1 k,LeO (laws_eqBoolS.f k a0 a1) (laws_eqBoolS.f (k+1) a0 a1):=by
  intro a0 a1 k;have ih0:=laws_eqBoolS.mono_l k;unfold laws_eqBoolS.f
  repeat' first
      |(with_reducible exact ih0 _ _ _)
      |(with_reducible exact LeO.refl _)
      |(with_reducible exact LeO.none _)
      |(with_reducible refine LeO.ite ?_ ?_)
      |(with_reducible refine LeO.bind ?_ (fun _=>?_))
      |exact ih0 _ _ _
      |exact LeO.none _
      |refine LeO.ite ?_ ?_
      |refine LeO.bind ?_ (fun _=>?_)
set_option maxHeartbeats 8000000 in
set_option maxRecDepth 100000 in
theorem laws_eqBoolS.calls (k : Nat) (A0 : Option Addr) (c0 : Nat) (l0 : List Bool) (A1 : Option Addr) (c1 : Nat) (l1 : List Bool) (r : Bool) (w : World) (hr0 : Kd.C Kd.bool w A0 l0.length l0) (hc0 : l0.length ≤ c0) (hr1 : Kd.C Kd.bool w A1 l1.length l1) (hc1 : l1.length ≤ c1) (h : laws_eqBoolS.f k l0 l1 = some r) :
  Calls Try.prog 33 #[.slice A0 l0.length c0,.slice A1 l1.length c1] w fun e w'=>e= .returned (.bool r)∧Drawn0 w w':=by
 have HR0:=aK hr0;have HC0:=aK hc0;clear hr0 hc0;have HR1:=aK hr1;have HC1:=aK hc1;clear hr1 hc1;have H:(if (l0.length:Int)=(l1.length:Int) then (laws_eqBoolS.l0 k l0 l1 0) else (some false))=some r:=h
 clear h;by_cases c3:(l0.length:Int)=(l1.length:Int)
 ·rw [if_pos c3] at H
  have c3b0:((l0.length:Int)==(l1.length:Int))=true:=beq_iff_eq.mpr c3
  have c3b1:((l0.length:Int) !=(l1.length:Int))=false:=bne_eq_false_iff_eq.mpr c3
  have c3b2:(l0.length==l1.length)=true:=by first|simpa using c3|(simp at c3 ⊢;omega)
  clear c3;have H':=aK H;clear H;go_enter Try.func33,Try.ntmps33;go_wp2;repeat (go_quiet (fail);try go_wp2)
  go_loopg [5] k (fun kq v5 w'=> ∃(x5_1:Int),v5= .int .i64 x5_1∧Aside0 (laws_eqBoolS.l0 kq l0 l1 x5_1=some r)∧Aside0 (kq≤k)∧Drawn0 w w')
  case atStart=>exact ⟨(0),zz5,H',⟨Nat.le_refl _⟩,by repeat (first|exact Drawn0.refl _|apply Drawn0.step)⟩
  case round =>
   clear H';(try clear c1);(try clear p2);(try clear c3);(try clear c3b0);(try clear c3b1);(try clear c3b2);obtain ⟨x5_1,rfl,HA,HK1,⟨m1,rfl⟩⟩:=hrel
   cases gk with
   |zero=>exact absurd HA.out (by simp [laws_eqBoolS.l0])
   | succ k1 =>
    have H:=HA.out;clear HA;simp only [laws_eqBoolS.l0] at H;by_cases c4:x5_1<(l0.length:Int)
    ·rw [if_pos c4] at H
     have c4b0:decide (x5_1<(l0.length:Int))=true:=decide_eq_true c4
     clear c4;by_cases c5:0≤x5_1
     ·rw [if_pos c5] at H
      have c5b0:decide (0≤x5_1)=true:=decide_eq_true c5
      clear c5;by_cases c6:x5_1<(l1.length:Int)
      ·rw [if_pos c6] at H
       have c6b0:decide (x5_1<(l1.length:Int))=true:=decide_eq_true c6
       clear c6;by_cases c7:((rdOf false l0 x5_1) !=(rdOf false l1 x5_1))=true
       ·rw [if_pos c7] at H
        have c7b0:((rdOf false l0 x5_1) !=(rdOf false l1 x5_1))=true:=c7
        (try (have c7b1:decide ((rdOf false l0 x5_1)=(rdOf false l1 x5_1))=false:=by simpa using c7))
        (try (have c7b2:((rdOf false l0 x5_1)==(rdOf false l1 x5_1))=false:=by simpa using c7))
        (try (have c7b3: ¬((rdOf false l0 x5_1)=(rdOf false l1 x5_1)):=by simpa using c7))
        clear c7;obtain rfl:=Option.some.inj H;have p314:0≤(x5_1:Int):=of_decide_eq_true zz3
        have q314:x5_1<(l0.length:Int):=of_decide_eq_true zz3
        obtain ⟨ad314,e314,hx314_0⟩:=Kd.at_bool HR0.out x5_1 p314 q314
        cases e314
        replace p314:=eq_true p314;replace q314:=eq_true q314;have p315:0≤(x5_1:Int):=of_decide_eq_true zz3
        have q315:x5_1<(l1.length:Int):=of_decide_eq_true zz3
        obtain ⟨ad315,e315,hx315_0⟩:=Kd.at_bool HR1.out x5_1 p315 q315
        cases e315
        replace p315:=eq_true p315;replace q315:=eq_true q315;go_wp2;repeat (go_quiet (fail);try go_wp2)
        go_ret;exact ⟨zz5,zz10⟩
       ·rw [if_neg c7] at H
        have c7b0:((rdOf false l0 x5_1) !=(rdOf false l1 x5_1))=false:=by simpa using c7
        (try (have c7b1:decide ((rdOf false l0 x5_1)=(rdOf false l1 x5_1))=true:=by simpa using c7))
        (try (have c7b2:((rdOf false l0 x5_1)==(rdOf false l1 x5_1))=true:=by simpa using c7))
        clear c7;have H':=aK H;clear H;have p314:0≤(x5_1:Int):=of_decide_eq_true zz3
        have q314:x5_1<(l0.length:Int):=of_decide_eq_true zz3
        obtain ⟨ad314,e314,hx314_0⟩:=Kd.at_bool HR0.out x5_1 p314 q314
        cases e314
        replace p314:=eq_true p314;replace q314:=eq_true q314;have p315:0≤(x5_1:Int):=of_decide_eq_true zz3
        have q315:x5_1<(l1.length:Int):=of_decide_eq_true zz3
        obtain ⟨ad315,e315,hx315_0⟩:=Kd.at_bool HR1.out x5_1 p315 q315
        cases e315
        replace p315:=eq_true p315;replace q315:=eq_true q315;go_wp2;repeat (go_quiet (fail);try go_wp2)
        go_roundg k1
        case measure=>have:=HK1.out;omega
        case rel=>exact ⟨(wrap64 (x5_1+1)),zz5,H',⟨by have:=HK1.out;omega⟩,by repeat (first|exact Drawn0.refl _|apply Drawn0.step)⟩
      ·rw [if_neg c6] at H
       exact absurd H (by simp)
     ·rw [if_neg c5] at H
      exact absurd H (by simp)
    ·rw [if_neg c4] at H
     have c4b0:decide (x5_1<(l0.length:Int))=false:=decide_eq_false c4
     clear c4;obtain rfl:=Option.some.inj H;go_wp2;repeat (go_quiet (fail);try go_wp2)
     go_ret;exact ⟨zz5,zz10⟩
 ·rw [if_neg c3] at H
  have c3b0:((l0.length:Int)==(l1.length:Int))=false:=beq_eq_false_iff_ne.mpr c3
  have c3b1:((l0.length:Int) !=(l1.length:Int))=true:=bne_iff_ne.mpr c3
  have c3b2:(l0.length==l1.length)=false:=by first|simpa using c3|(simp at c3 ⊢;omega)
  obtain rfl:=Option.some.inj H;go_enter Try.func33,Try.ntmps33;go_wp2;repeat (go_quiet (fail);try go_wp2)
  go_ret;exact ⟨zz5,zz10⟩
def laws_eqMem.f (k:Nat) (l0_0:List Int) (a0_1:Int) (a0_2:Int) (a0_3:Int) (l0_4:List Bool) (l1_0:List Int) (a1_1:Int) (a1_2:Int) (a1_3:Int) (l1_4:List Bool):Option (Bool):=(laws_eqIntS.f k l0_0 l1_0).bind fun t318=>(if t318=true then (if a0_1=a1_1 then (if a0_2=a1_2 then (if a0_3=a1_3 then ((laws_eqBoolS.f k l0_4 l1_4).bind fun t319=>(if t319=true then (some true) else (some false))) else (some false)) else (some false)) else (some false)) else (some false))
set_option maxHeartbeats 8000000 in
set_option maxRecDepth 100000 in
theorem laws_eqMem.calls (k:Nat) (A0_0:Option Addr) (c0_0:Nat) (l0_0:List Int) (a0_1:Int) (a0_2:Int) (a0_3:Int) (A0_4:Option Addr) (c0_4:Nat) (l0_4:List Bool) (A1_0:Option Addr) (c1_0:Nat) (l1_0:List Int) (a1_1:Int) (a1_2:Int) (a1_3:Int) (A1_4:Option Addr) (c1_4:Nat) (l1_4:List Bool) (r:Bool) (w:World) (hr0_0:Kd.C (Kd.int .i64) w A0_0 l0_0.length l0_0) (hc0_0:l0_0.length≤c0_0) (hr0_4:Kd.C Kd.bool w A0_4 l0_4.length l0_4) (hc0_4:l0_4.length≤c0_4) (hr1_0:Kd.C (Kd.int .i64) w A1_0 l1_0.length l1_0) (hc1_0:l1_0.length≤c1_0) (hr1_4:Kd.C Kd.bool w A1_4 l1_4.length l1_4) (hc1_4:l1_4.length≤c1_4) (h:laws_eqMem.f k l0_0 a0_1 a0_2 a0_3 l0_4 l1_0 a1_1 a1_2 a1_3 l1_4=some r):
  Calls Try.prog 12 #[.agg #[.slice A0_0 l0_0.length c0_0,.int .i64 a0_1,.int .i64 a0_2,.int .i64 a0_3,.slice A0_4 l0_4.length c0_4],.agg #[.slice A1_0 l1_0.length c1_0,.int .i64 a1_1,.int .i64 a1_2,.int .i64 a1_3,.slice A1_4 l1_4.length c1_4]] w fun e w'=>e= .returned (.bool r)∧Below w.heap.size w w':=by
 have hu29:=Try.underlying29;have HR0_0:=aK hr0_0;have HC0_0:=aK hc0_0;clear hr0_0 hc0_0;have HR0_4:=aK hr0_4;have HC0_4:=aK hc0_4;clear hr0_4 hc0_4;have HR1_0:=aK hr1_0;have HC1_0:=aK hc1_0;clear hr1_0 hc1_0;have HR1_4:=aK hr1_4;have HC1_4:=aK hc1_4;clear hr1_4 hc1_4;have HB:=aK (Below.refl w.heap.size w);have H:((laws_eqIntS.f k l0_0 l1_0).bind fun t318=>(if t318=true then (if a0_1=a1_1 then (if a0_2=a1_2 then (if a0_3=a1_3 then ((laws_eqBoolS.f k l0_4 l1_4).bind fun t319=>(if t319=true then (some true) else (some false))) else (some false)) else (some false)) else (some false)) else (some false)))=some r:=h
 clear h;replace H:=Option.bind_eq_some_iff.mp H;obtain ⟨t318,A30,H⟩:=H;(try dsimp only at H);have A3:=aK A30;clear A30;by_cases c4:t318=true
 ·subst c4
  rw [if_pos rfl] at H;by_cases c5:a0_1=a1_1
  ·rw [if_pos c5] at H
   have c5b0:(a0_1==a1_1)=true:=beq_iff_eq.mpr c5
   have c5b1:(a0_1 !=a1_1)=false:=bne_eq_false_iff_eq.mpr c5
   clear c5;by_cases c6:a0_2=a1_2
   ·rw [if_pos c6] at H
    have c6b0:(a0_2==a1_2)=true:=beq_iff_eq.mpr c6
    have c6b1:(a0_2 !=a1_2)=false:=bne_eq_false_iff_eq.mpr c6
    clear c6;by_cases c7:a0_3=a1_3
    ·rw [if_pos c7] at H
     have c7b0:(a0_3==a1_3)=true:=beq_iff_eq.mpr c7
     have c7b1:(a0_3 !=a1_3)=false:=bne_eq_false_iff_eq.mpr c7
     clear c7;replace H:=Option.bind_eq_some_iff.mp H;obtain ⟨t319,A80,H⟩:=H;(try dsimp only at H);have A8:=aK A80;clear A80;by_cases c9:t319=true
     ·subst c9
      rw [if_pos rfl] at H;obtain rfl:=Option.some.inj H;go_enter Try.func12,Try.ntmps12
      go_wp2_with (first|((with_reducible refine gate_dst (N:=2) rfl ?_);refine box_event ?hg (N:=2) ?hd (cs:= #[.slice A0_0 l0_0.length c0_0,.int .i64 a0_1,.int .i64 a0_2,.int .i64 a0_3,.slice A0_4 l0_4.length c0_4]) (t:=29) ?hr ?_;(case hd=>rfl);(case hg=>rfl);(case hr=>first|(go_simp;done)|(go_simp;rfl));intro gb316 hg w10 hbox hb;have BK316:=aK (hbox);have GW316:=aK (zz41);have GE316:=aK (zz41);replace HB:=aK (below_step zz1 hb);clear hb hbox hg)|((with_reducible refine gate_dst (N:=3) rfl ?_);refine box_event ?hg (N:=3) ?hd (cs:= #[.slice A1_0 l1_0.length c1_0,.int .i64 a1_1,.int .i64 a1_2,.int .i64 a1_3,.slice A1_4 l1_4.length c1_4]) (t:=29) ?hr ?_;(case hd=>rfl);(case hg=>rfl);(case hr=>first|(go_simp;done)|(go_simp;rfl));intro gb317 hg w11 hbox hb;have BK317:=aK (hbox);have GW317:=aK (zz40);have GE317:=aK (zz40);have NB316_317:=aK (zz27);have NB317_316:=aK (zz28);replace BK316:=aK (blk_below (g:=gb316) (o:= .cells #[.slice A0_0 l0_0.length c0_0,.int .i64 a0_1,.int .i64 a0_2,.int .i64 a0_3,.slice A0_4 l0_4.length c0_4] 29 (0,0)) zz14 hb);replace HB:=aK (below_step zz9 hb);clear hb hbox hg;have hnb12:=NB316_317.out;have hnc12:=NB317_316.out;obtain ⟨hcz13_0,hcz13_1,hcz13_2,hcz13_3,hcz13_4,hfz13_0,hfz13_1,hfz13_2,hfz13_3,hfz13_4⟩:=cbf5 BK316;obtain ⟨hcz14_0,hcz14_1,hcz14_2,hcz14_3,hcz14_4,hfz14_0,hfz14_1,hfz14_2,hfz14_3,hfz14_4⟩:=cbf5 BK317)|((with_reducible refine gate_callee (f:=13) rfl ?_);refine goesL_ (some 9) rfl rfl Try.func13 (by kernel_rfl) rfl #[.slice A0_0 l0_0.length c0_0,.slice A1_0 l1_0.length c1_0] rfl zz2 ?_;(with_reducible refine (laws_eqIntS.calls k _ _ l0_0 _ _ l1_0 true _ ?side1 ?side2 ?side3 ?side4 A3.out).mono ?_);(case side1=>exact zz13);(case side2=>exact HC0_0.out);(case side3=>exact zz8);(case side4=>exact HC1_0.out);rintro e w' ⟨rfl,⟨nd,rfl⟩⟩;refine ⟨_,rfl,?_⟩)|((with_reducible refine gate_callee (f:=33) rfl ?_);refine goesL_ (some 30) rfl rfl Try.func33 (by kernel_rfl) rfl #[.slice A0_4 l0_4.length c0_4,.slice A1_4 l1_4.length c1_4] rfl zz2 ?_;(with_reducible refine (laws_eqBoolS.calls k _ _ l0_4 _ _ l1_4 true _ ?side1 ?side2 ?side3 ?side4 A8.out).mono ?_);(case side1=>repeat (first|exact (Kd.C_below HR0_4.out zz17)|(with_reducible refine Kd.C_alloc ?_ _)|(with_reducible refine Kd.C_drewN ?_ _)|(with_reducible refine Kd.C_drew ?_)));(case side2=>exact HC0_4.out);(case side3=>repeat (first|exact (Kd.C_below HR1_4.out zz17)|(with_reducible refine Kd.C_alloc ?_ _)|(with_reducible refine Kd.C_drewN ?_ _)|(with_reducible refine Kd.C_drew ?_)));(case side4=>exact HC1_4.out);rintro e w' ⟨rfl,⟨nd,rfl⟩⟩;refine ⟨_,rfl,?_⟩))
      go_ret;exact ⟨zz6,zz17⟩
     ·replace c9 := Bool.eq_false_iff.mpr c9
      subst c9;rw [if_neg (show¬(false=true) by decide)] at H;obtain rfl:=Option.some.inj H;go_enter Try.func12,Try.ntmps12
      go_wp2_with (first|((with_reducible refine gate_dst (N:=2) rfl ?_);refine box_event ?hg (N:=2) ?hd (cs:= #[.slice A0_0 l0_0.length c0_0,.int .i64 a0_1,.int .i64 a0_2,.int .i64 a0_3,.slice A0_4 l0_4.length c0_4]) (t:=29) ?hr ?_;(case hd=>rfl);(case hg=>rfl);(case hr=>first|(go_simp;done)|(go_simp;rfl));intro gb316 hg w15 hbox hb;have BK316:=aK (hbox);have GW316:=aK (zz41);have GE316:=aK (zz41);replace HB:=aK (below_step zz1 hb);clear hb hbox hg)|((with_reducible refine gate_dst (N:=3) rfl ?_);refine box_event ?hg (N:=3) ?hd (cs:= #[.slice A1_0 l1_0.length c1_0,.int .i64 a1_1,.int .i64 a1_2,.int .i64 a1_3,.slice A1_4 l1_4.length c1_4]) (t:=29) ?hr ?_;(case hd=>rfl);(case hg=>rfl);(case hr=>first|(go_simp;done)|(go_simp;rfl));intro gb317 hg w16 hbox hb;have BK317:=aK (hbox);have GW317:=aK (zz40);have GE317:=aK (zz40);have NB316_317:=aK (zz27);have NB317_316:=aK (zz28);replace BK316:=aK (blk_below (g:=gb316) (o:= .cells #[.slice A0_0 l0_0.length c0_0,.int .i64 a0_1,.int .i64 a0_2,.int .i64 a0_3,.slice A0_4 l0_4.length c0_4] 29 (0,0)) zz14 hb);replace HB:=aK (below_step zz9 hb);clear hb hbox hg;have hnb17:=NB316_317.out;have hnc17:=NB317_316.out;obtain ⟨hcz18_0,hcz18_1,hcz18_2,hcz18_3,hcz18_4,hfz18_0,hfz18_1,hfz18_2,hfz18_3,hfz18_4⟩:=cbf5 BK316;obtain ⟨hcz19_0,hcz19_1,hcz19_2,hcz19_3,hcz19_4,hfz19_0,hfz19_1,hfz19_2,hfz19_3,hfz19_4⟩:=cbf5 BK317)|((with_reducible refine gate_callee (f:=13) rfl ?_);refine goesL_ (some 9) rfl rfl Try.func13 (by kernel_rfl) rfl #[.slice A0_0 l0_0.length c0_0,.slice A1_0 l1_0.length c1_0] rfl zz2 ?_;(with_reducible refine (laws_eqIntS.calls k _ _ l0_0 _ _ l1_0 true _ ?side1 ?side2 ?side3 ?side4 A3.out).mono ?_);(case side1=>exact zz13);(case side2=>exact HC0_0.out);(case side3=>exact zz8);(case side4=>exact HC1_0.out);rintro e w' ⟨rfl,⟨nd,rfl⟩⟩;refine ⟨_,rfl,?_⟩)|((with_reducible refine gate_callee (f:=33) rfl ?_);refine goesL_ (some 30) rfl rfl Try.func33 (by kernel_rfl) rfl #[.slice A0_4 l0_4.length c0_4,.slice A1_4 l1_4.length c1_4] rfl zz2 ?_;(with_reducible refine (laws_eqBoolS.calls k _ _ l0_4 _ _ l1_4 false _ ?side1 ?side2 ?side3 ?side4 A8.out).mono ?_);(case side1=>repeat (first|exact (Kd.C_below HR0_4.out zz17)|(with_reducible refine Kd.C_alloc ?_ _)|(with_reducible refine Kd.C_drewN ?_ _)|(with_reducible refine Kd.C_drew ?_)));(case side2=>exact HC0_4.out);(case side3=>repeat (first|exact (Kd.C_below HR1_4.out zz17)|(with_reducible refine Kd.C_alloc ?_ _)|(with_reducible refine Kd.C_drewN ?_ _)|(with_reducible refine Kd.C_drew ?_)));(case side4=>exact HC1_4.out);rintro e w' ⟨rfl,⟨nd,rfl⟩⟩;refine ⟨_,rfl,?_⟩))
      go_ret;exact ⟨zz6,zz17⟩
    ·rw [if_neg c7] at H
     have c7b0:(a0_3==a1_3)=false:=beq_eq_false_iff_ne.mpr c7
     have c7b1:(a0_3 !=a1_3)=true:=bne_iff_ne.mpr c7
     obtain rfl:=Option.some.inj H;go_enter Try.func12,Try.ntmps12
     go_wp2_with (first|((with_reducible refine gate_dst (N:=2) rfl ?_);refine box_event ?hg (N:=2) ?hd (cs:= #[.slice A0_0 l0_0.length c0_0,.int .i64 a0_1,.int .i64 a0_2,.int .i64 a0_3,.slice A0_4 l0_4.length c0_4]) (t:=29) ?hr ?_;(case hd=>rfl);(case hg=>rfl);(case hr=>first|(go_simp;done)|(go_simp;rfl));intro gb316 hg w20 hbox hb;have BK316:=aK (hbox);have GW316:=aK (zz41);have GE316:=aK (zz41);replace HB:=aK (below_step zz1 hb);clear hb hbox hg)|((with_reducible refine gate_dst (N:=3) rfl ?_);refine box_event ?hg (N:=3) ?hd (cs:= #[.slice A1_0 l1_0.length c1_0,.int .i64 a1_1,.int .i64 a1_2,.int .i64 a1_3,.slice A1_4 l1_4.length c1_4]) (t:=29) ?hr ?_;(case hd=>rfl);(case hg=>rfl);(case hr=>first|(go_simp;done)|(go_simp;rfl));intro gb317 hg w21 hbox hb;have BK317:=aK (hbox);have GW317:=aK (zz40);have GE317:=aK (zz40);have NB316_317:=aK (zz27);have NB317_316:=aK (zz28);replace BK316:=aK (blk_below (g:=gb316) (o:= .cells #[.slice A0_0 l0_0.length c0_0,.int .i64 a0_1,.int .i64 a0_2,.int .i64 a0_3,.slice A0_4 l0_4.length c0_4] 29 (0,0)) zz14 hb);replace HB:=aK (below_step zz9 hb);clear hb hbox hg;have hnb22:=NB316_317.out;have hnc22:=NB317_316.out;obtain ⟨hcz23_0,hcz23_1,hcz23_2,hcz23_3,hcz23_4,hfz23_0,hfz23_1,hfz23_2,hfz23_3,hfz23_4⟩:=cbf5 BK316;obtain ⟨hcz24_0,hcz24_1,hcz24_2,hcz24_3,hcz24_4,hfz24_0,hfz24_1,hfz24_2,hfz24_3,hfz24_4⟩:=cbf5 BK317)|((with_reducible refine gate_callee (f:=13) rfl ?_);refine goesL_ (some 9) rfl rfl Try.func13 (by kernel_rfl) rfl #[.slice A0_0 l0_0.length c0_0,.slice A1_0 l1_0.length c1_0] rfl zz2 ?_;(with_reducible refine (laws_eqIntS.calls k _ _ l0_0 _ _ l1_0 true _ ?side1 ?side2 ?side3 ?side4 A3.out).mono ?_);(case side1=>exact zz13);(case side2=>exact HC0_0.out);(case side3=>exact zz8);(case side4=>exact HC1_0.out);rintro e w' ⟨rfl,⟨nd,rfl⟩⟩;refine ⟨_,rfl,?_⟩))
     go_ret;exact ⟨zz6,zz17⟩
   ·rw [if_neg c6] at H
    have c6b0:(a0_2==a1_2)=false:=beq_eq_false_iff_ne.mpr c6
    have c6b1:(a0_2 !=a1_2)=true:=bne_iff_ne.mpr c6
    obtain rfl:=Option.some.inj H;go_enter Try.func12,Try.ntmps12
    go_wp2_with (first|((with_reducible refine gate_dst (N:=2) rfl ?_);refine box_event ?hg (N:=2) ?hd (cs:= #[.slice A0_0 l0_0.length c0_0,.int .i64 a0_1,.int .i64 a0_2,.int .i64 a0_3,.slice A0_4 l0_4.length c0_4]) (t:=29) ?hr ?_;(case hd=>rfl);(case hg=>rfl);(case hr=>first|(go_simp;done)|(go_simp;rfl));intro gb316 hg w25 hbox hb;have BK316:=aK (hbox);have GW316:=aK (zz41);have GE316:=aK (zz41);replace HB:=aK (below_step zz1 hb);clear hb hbox hg)|((with_reducible refine gate_dst (N:=3) rfl ?_);refine box_event ?hg (N:=3) ?hd (cs:= #[.slice A1_0 l1_0.length c1_0,.int .i64 a1_1,.int .i64 a1_2,.int .i64 a1_3,.slice A1_4 l1_4.length c1_4]) (t:=29) ?hr ?_;(case hd=>rfl);(case hg=>rfl);(case hr=>first|(go_simp;done)|(go_simp;rfl));intro gb317 hg w26 hbox hb;have BK317:=aK (hbox);have GW317:=aK (zz40);have GE317:=aK (zz40);have NB316_317:=aK (zz27);have NB317_316:=aK (zz28);replace BK316:=aK (blk_below (g:=gb316) (o:= .cells #[.slice A0_0 l0_0.length c0_0,.int .i64 a0_1,.int .i64 a0_2,.int .i64 a0_3,.slice A0_4 l0_4.length c0_4] 29 (0,0)) zz14 hb);replace HB:=aK (below_step zz9 hb);clear hb hbox hg;have hnb27:=NB316_317.out;have hnc27:=NB317_316.out;obtain ⟨hcz28_0,hcz28_1,hcz28_2,hcz28_3,hcz28_4,hfz28_0,hfz28_1,hfz28_2,hfz28_3,hfz28_4⟩:=cbf5 BK316;obtain ⟨hcz29_0,hcz29_1,hcz29_2,hcz29_3,hcz29_4,hfz29_0,hfz29_1,hfz29_2,hfz29_3,hfz29_4⟩:=cbf5 BK317)|((with_reducible refine gate_callee (f:=13) rfl ?_);refine goesL_ (some 9) rfl rfl Try.func13 (by kernel_rfl) rfl #[.slice A0_0 l0_0.length c0_0,.slice A1_0 l1_0.length c1_0] rfl zz2 ?_;(with_reducible refine (laws_eqIntS.calls k _ _ l0_0 _ _ l1_0 true _ ?side1 ?side2 ?side3 ?side4 A3.out).mono ?_);(case side1=>exact zz13);(case side2=>exact HC0_0.out);(case side3=>exact zz8);(case side4=>exact HC1_0.out);rintro e w' ⟨rfl,⟨nd,rfl⟩⟩;refine ⟨_,rfl,?_⟩))
    go_ret;exact ⟨zz6,zz17⟩
  ·rw [if_neg c5] at H
   have c5b0:(a0_1==a1_1)=false:=beq_eq_false_iff_ne.mpr c5
   have c5b1:(a0_1 !=a1_1)=true:=bne_iff_ne.mpr c5
   obtain rfl:=Option.some.inj H;go_enter Try.func12,Try.ntmps12
   go_wp2_with (first|((with_reducible refine gate_dst (N:=2) rfl ?_);refine box_event ?hg (N:=2) ?hd (cs:= #[.slice A0_0 l0_0.length c0_0,.int .i64 a0_1,.int .i64 a0_2,.int .i64 a0_3,.slice A0_4 l0_4.length c0_4]) (t:=29) ?hr ?_;(case hd=>rfl);(case hg=>rfl);(case hr=>first|(go_simp;done)|(go_simp;rfl));intro gb316 hg w30 hbox hb;have BK316:=aK (hbox);have GW316:=aK (zz41);have GE316:=aK (zz41);replace HB:=aK (below_step zz1 hb);clear hb hbox hg)|((with_reducible refine gate_dst (N:=3) rfl ?_);refine box_event ?hg (N:=3) ?hd (cs:= #[.slice A1_0 l1_0.length c1_0,.int .i64 a1_1,.int .i64 a1_2,.int .i64 a1_3,.slice A1_4 l1_4.length c1_4]) (t:=29) ?hr ?_;(case hd=>rfl);(case hg=>rfl);(case hr=>first|(go_simp;done)|(go_simp;rfl));intro gb317 hg w31 hbox hb;have BK317:=aK (hbox);have GW317:=aK (zz40);have GE317:=aK (zz40);have NB316_317:=aK (zz27);have NB317_316:=aK (zz28);replace BK316:=aK (blk_below (g:=gb316) (o:= .cells #[.slice A0_0 l0_0.length c0_0,.int .i64 a0_1,.int .i64 a0_2,.int .i64 a0_3,.slice A0_4 l0_4.length c0_4] 29 (0,0)) zz14 hb);replace HB:=aK (below_step zz9 hb);clear hb hbox hg;have hnb32:=NB316_317.out;have hnc32:=NB317_316.out;obtain ⟨hcz33_0,hcz33_1,hcz33_2,hcz33_3,hcz33_4,hfz33_0,hfz33_1,hfz33_2,hfz33_3,hfz33_4⟩:=cbf5 BK316;obtain ⟨hcz34_0,hcz34_1,hcz34_2,hcz34_3,hcz34_4,hfz34_0,hfz34_1,hfz34_2,hfz34_3,hfz34_4⟩:=cbf5 BK317)|((with_reducible refine gate_callee (f:=13) rfl ?_);refine goesL_ (some 9) rfl rfl Try.func13 (by kernel_rfl) rfl #[.slice A0_0 l0_0.length c0_0,.slice A1_0 l1_0.length c1_0] rfl zz2 ?_;(with_reducible refine (laws_eqIntS.calls k _ _ l0_0 _ _ l1_0 true _ ?side1 ?side2 ?side3 ?side4 A3.out).mono ?_);(case side1=>exact zz13);(case side2=>exact HC0_0.out);(case side3=>exact zz8);(case side4=>exact HC1_0.out);rintro e w' ⟨rfl,⟨nd,rfl⟩⟩;refine ⟨_,rfl,?_⟩))
   go_ret;exact ⟨zz6,zz17⟩
 ·replace c4 := Bool.eq_false_iff.mpr c4
  subst c4;rw [if_neg (show¬(false=true) by decide)] at H;obtain rfl:=Option.some.inj H;go_enter Try.func12,Try.ntmps12
  go_wp2_with (first|((with_reducible refine gate_dst (N:=2) rfl ?_);refine box_event ?hg (N:=2) ?hd (cs:= #[.slice A0_0 l0_0.length c0_0,.int .i64 a0_1,.int .i64 a0_2,.int .i64 a0_3,.slice A0_4 l0_4.length c0_4]) (t:=29) ?hr ?_;(case hd=>rfl);(case hg=>rfl);(case hr=>first|(go_simp;done)|(go_simp;rfl));intro gb316 hg w35 hbox hb;have BK316:=aK (hbox);have GW316:=aK (zz41);have GE316:=aK (zz41);replace HB:=aK (below_step zz1 hb);clear hb hbox hg)|((with_reducible refine gate_dst (N:=3) rfl ?_);refine box_event ?hg (N:=3) ?hd (cs:= #[.slice A1_0 l1_0.length c1_0,.int .i64 a1_1,.int .i64 a1_2,.int .i64 a1_3,.slice A1_4 l1_4.length c1_4]) (t:=29) ?hr ?_;(case hd=>rfl);(case hg=>rfl);(case hr=>first|(go_simp;done)|(go_simp;rfl));intro gb317 hg w36 hbox hb;have BK317:=aK (hbox);have GW317:=aK (zz40);have GE317:=aK (zz40);have NB316_317:=aK (zz27);have NB317_316:=aK (zz28);replace BK316:=aK (blk_below (g:=gb316) (o:= .cells #[.slice A0_0 l0_0.length c0_0,.int .i64 a0_1,.int .i64 a0_2,.int .i64 a0_3,.slice A0_4 l0_4.length c0_4] 29 (0,0)) zz14 hb);replace HB:=aK (below_step zz9 hb);clear hb hbox hg;have hnb37:=NB316_317.out;have hnc37:=NB317_316.out;obtain ⟨hcz38_0,hcz38_1,hcz38_2,hcz38_3,hcz38_4,hfz38_0,hfz38_1,hfz38_2,hfz38_3,hfz38_4⟩:=cbf5 BK316;obtain ⟨hcz39_0,hcz39_1,hcz39_2,hcz39_3,hcz39_4,hfz39_0,hfz39_1,hfz39_2,hfz39_3,hfz39_4⟩:=cbf5 BK317)|((with_reducible refine gate_callee (f:=13) rfl ?_);refine goesL_ (some 9) rfl rfl Try.func13 (by kernel_rfl) rfl #[.slice A0_0 l0_0.length c0_0,.slice A1_0 l1_0.length c1_0] rfl zz2 ?_;(with_reducible refine (laws_eqIntS.calls k _ _ l0_0 _ _ l1_0 false _ ?side1 ?side2 ?side3 ?side4 A3.out).mono ?_);(case side1=>exact zz13);(case side2=>exact HC0_0.out);(case side3=>exact zz8);(case side4=>exact HC1_0.out);rintro e w' ⟨rfl,⟨nd,rfl⟩⟩;refine ⟨_,rfl,?_⟩))
  go_ret;exact ⟨zz6,zz17⟩
def laws_eqClass.f (k:Nat) (a0_0:Int) (l0_1:List Int) (a1_0:Int) (l1_1:List Int):Option (Bool):=if a0_0=a1_0 then ((laws_eqIntS.f k l0_1 l1_1).bind fun t322=>(if t322=true then (some true) else (some false))) else (some false)
set_option maxHeartbeats 8000000 in
set_option maxRecDepth 100000 in
theorem laws_eqClass.calls (k:Nat) (a0_0:Int) (A0_1:Option Addr) (c0_1:Nat) (l0_1:List Int) (a1_0:Int) (A1_1:Option Addr) (c1_1:Nat) (l1_1:List Int) (r:Bool) (w:World) (hr0_1:Kd.C (Kd.int .i64) w A0_1 l0_1.length l0_1) (hc0_1:l0_1.length≤c0_1) (hr1_1:Kd.C (Kd.int .i64) w A1_1 l1_1.length l1_1) (hc1_1:l1_1.length≤c1_1) (h:laws_eqClass.f k a0_0 l0_1 a1_0 l1_1=some r):
  Calls Try.prog 34 #[.agg #[.int .i64 a0_0,.slice A0_1 l0_1.length c0_1],.agg #[.int .i64 a1_0,.slice A1_1 l1_1.length c1_1]] w fun e w'=>e= .returned (.bool r)∧Below w.heap.size w w':=by
 have hu53:=Try.underlying53;have HR0_1:=aK hr0_1;have HC0_1:=aK hc0_1;clear hr0_1 hc0_1;have HR1_1:=aK hr1_1;have HC1_1:=aK hc1_1;clear hr1_1 hc1_1;have HB:=aK (Below.refl w.heap.size w);have H:(if a0_0=a1_0 then ((laws_eqIntS.f k l0_1 l1_1).bind fun t322=>(if t322=true then (some true) else (some false))) else (some false))=some r:=h
 clear h;by_cases c3:a0_0=a1_0
 ·rw [if_pos c3] at H
  have c3b0:(a0_0==a1_0)=true:=beq_iff_eq.mpr c3
  have c3b1:(a0_0 !=a1_0)=false:=bne_eq_false_iff_eq.mpr c3
  clear c3;replace H:=Option.bind_eq_some_iff.mp H;obtain ⟨t322,A40,H⟩:=H;(try dsimp only at H);have A4:=aK A40;clear A40;by_cases c5:t322=true
  ·subst c5
   rw [if_pos rfl] at H;obtain rfl:=Option.some.inj H;go_enter Try.func34,Try.ntmps34
   go_wp2_with (first|((with_reducible refine gate_dst (N:=2) rfl ?_);refine box_event ?hg (N:=2) ?hd (cs:= #[.int .i64 a0_0,.slice A0_1 l0_1.length c0_1]) (t:=53) ?hr ?_;(case hd=>rfl);(case hg=>rfl);(case hr=>first|(go_simp;done)|(go_simp;rfl));intro gb320 hg w6 hbox hb;have BK320:=aK (hbox);have GW320:=aK ((by rw [hg];exact (below_size zz1):w.heap.size≤gb320));have GE320:=aK ((by rw [hg];exact (below_size zz1):w.heap.size≤gb320));replace HB:=aK (below_step zz1 hb);clear hb hbox hg)|((with_reducible refine gate_dst (N:=3) rfl ?_);refine box_event ?hg (N:=3) ?hd (cs:= #[.int .i64 a1_0,.slice A1_1 l1_1.length c1_1]) (t:=53) ?hr ?_;(case hd=>rfl);(case hg=>rfl);(case hr=>first|(go_simp;done)|(go_simp;rfl));intro gb321 hg w7 hbox hb;have BK321:=aK (hbox);have GW321:=aK ((by rw [hg];exact (below_size zz22):w.heap.size≤gb321));have GE321:=aK ((by rw [hg];exact (below_size zz22):w.heap.size≤gb321));have NB320_321:=aK ((by rw [hg];exact Nat.ne_of_lt (blk_lt (g:=gb320) (o:= .cells #[.int .i64 a0_0,.slice A0_1 l0_1.length c0_1] 53 (0,0)) zz29):gb320≠gb321));have NB321_320:=aK ((by rw [hg];exact Nat.ne_of_gt (blk_lt (g:=gb320) (o:= .cells #[.int .i64 a0_0,.slice A0_1 l0_1.length c0_1] 53 (0,0)) zz29):gb321≠gb320));replace BK320:=aK (blk_below (g:=gb320) (o:= .cells #[.int .i64 a0_0,.slice A0_1 l0_1.length c0_1] 53 (0,0)) zz29 hb);replace HB:=aK (below_step zz22 hb);clear hb hbox hg;have hnb8:=NB320_321.out;have hnc8:=NB321_320.out;obtain ⟨hcz9_0,hcz9_1,hfz9_0,hfz9_1⟩:=cbf2 BK320;obtain ⟨hcz10_0,hcz10_1,hfz10_0,hfz10_1⟩:=cbf2 BK321)|((with_reducible refine gate_callee (f:=13) rfl ?_);refine goesL_ (some 14) rfl rfl Try.func13 (by kernel_rfl) rfl #[.slice A0_1 l0_1.length c0_1,.slice A1_1 l1_1.length c1_1] rfl zz2 ?_;(with_reducible refine (laws_eqIntS.calls k _ _ l0_1 _ _ l1_1 true _ ?side1 ?side2 ?side3 ?side4 A4.out).mono ?_);(case side1=>exact zz46);(case side2=>exact HC0_1.out);(case side3=>exact (by repeat (first|exact (Kd.C_below HR1_1.out HB.out)|(with_reducible refine Kd.C_alloc ?_ _)|(with_reducible refine Kd.C_drewN ?_ _)|(with_reducible refine Kd.C_drew ?_))));(case side4=>exact HC1_1.out);rintro e w' ⟨rfl,⟨nd,rfl⟩⟩;refine ⟨_,rfl,?_⟩))
   go_ret;exact ⟨zz6,zz50⟩
  ·replace c5 := Bool.eq_false_iff.mpr c5
   subst c5;rw [if_neg (show¬(false=true) by decide)] at H;obtain rfl:=Option.some.inj H;go_enter Try.func34,Try.ntmps34
   go_wp2_with (first|((with_reducible refine gate_dst (N:=2) rfl ?_);refine box_event ?hg (N:=2) ?hd (cs:= #[.int .i64 a0_0,.slice A0_1 l0_1.length c0_1]) (t:=53) ?hr ?_;(case hd=>rfl);(case hg=>rfl);(case hr=>first|(go_simp;done)|(go_simp;rfl));intro gb320 hg w11 hbox hb;have BK320:=aK (hbox);have GW320:=aK ((by rw [hg];exact (below_size zz1):w.heap.size≤gb320));have GE320:=aK ((by rw [hg];exact (below_size zz1):w.heap.size≤gb320));replace HB:=aK (below_step zz1 hb);clear hb hbox hg)|((with_reducible refine gate_dst (N:=3) rfl ?_);refine box_event ?hg (N:=3) ?hd (cs:= #[.int .i64 a1_0,.slice A1_1 l1_1.length c1_1]) (t:=53) ?hr ?_;(case hd=>rfl);(case hg=>rfl);(case hr=>first|(go_simp;done)|(go_simp;rfl));intro gb321 hg w12 hbox hb;have BK321:=aK (hbox);have GW321:=aK ((by rw [hg];exact (below_size zz22):w.heap.size≤gb321));have GE321:=aK ((by rw [hg];exact (below_size zz22):w.heap.size≤gb321));have NB320_321:=aK ((by rw [hg];exact Nat.ne_of_lt (blk_lt (g:=gb320) (o:= .cells #[.int .i64 a0_0,.slice A0_1 l0_1.length c0_1] 53 (0,0)) zz29):gb320≠gb321));have NB321_320:=aK ((by rw [hg];exact Nat.ne_of_gt (blk_lt (g:=gb320) (o:= .cells #[.int .i64 a0_0,.slice A0_1 l0_1.length c0_1] 53 (0,0)) zz29):gb321≠gb320));replace BK320:=aK (blk_below (g:=gb320) (o:= .cells #[.int .i64 a0_0,.slice A0_1 l0_1.length c0_1] 53 (0,0)) zz29 hb);replace HB:=aK (below_step zz22 hb);clear hb hbox hg;have hnb13:=NB320_321.out;have hnc13:=NB321_320.out;obtain ⟨hcz14_0,hcz14_1,hfz14_0,hfz14_1⟩:=cbf2 BK320;obtain ⟨hcz15_0,hcz15_1,hfz15_0,hfz15_1⟩:=cbf2 BK321)|((with_reducible refine gate_callee (f:=13) rfl ?_);refine goesL_ (some 14) rfl rfl Try.func13 (by kernel_rfl) rfl #[.slice A0_1 l0_1.length c0_1,.slice A1_1 l1_1.length c1_1] rfl zz2 ?_;(with_reducible refine (laws_eqIntS.calls k _ _ l0_1 _ _ l1_1 false _ ?side1 ?side2 ?side3 ?side4 A4.out).mono ?_);(case side1=>exact zz46);(case side2=>exact HC0_1.out);(case side3=>exact (by repeat (first|exact (Kd.C_below HR1_1.out HB.out)|(with_reducible refine Kd.C_alloc ?_ _)|(with_reducible refine Kd.C_drewN ?_ _)|(with_reducible refine Kd.C_drew ?_))));(case side4=>exact HC1_1.out);rintro e w' ⟨rfl,⟨nd,rfl⟩⟩;refine ⟨_,rfl,?_⟩))
   go_ret;exact ⟨zz6,zz50⟩
 ·rw [if_neg c3] at H
  have c3b0:(a0_0==a1_0)=false:=beq_eq_false_iff_ne.mpr c3
  have c3b1:(a0_0 !=a1_0)=true:=bne_iff_ne.mpr c3
  obtain rfl:=Option.some.inj H;go_enter Try.func34,Try.ntmps34
  go_wp2_with (first|((with_reducible refine gate_dst (N:=2) rfl ?_);refine box_event ?hg (N:=2) ?hd (cs:= #[.int .i64 a0_0,.slice A0_1 l0_1.length c0_1]) (t:=53) ?hr ?_;(case hd=>rfl);(case hg=>rfl);(case hr=>first|(go_simp;done)|(go_simp;rfl));intro gb320 hg w16 hbox hb;have BK320:=aK (hbox);have GW320:=aK ((by rw [hg];exact (below_size zz1):w.heap.size≤gb320));have GE320:=aK ((by rw [hg];exact (below_size zz1):w.heap.size≤gb320));replace HB:=aK (below_step zz1 hb);clear hb hbox hg)|((with_reducible refine gate_dst (N:=3) rfl ?_);refine box_event ?hg (N:=3) ?hd (cs:= #[.int .i64 a1_0,.slice A1_1 l1_1.length c1_1]) (t:=53) ?hr ?_;(case hd=>rfl);(case hg=>rfl);(case hr=>first|(go_simp;done)|(go_simp;rfl));intro gb321 hg w17 hbox hb;have BK321:=aK (hbox);have GW321:=aK ((by rw [hg];exact (below_size zz22):w.heap.size≤gb321));have GE321:=aK ((by rw [hg];exact (below_size zz22):w.heap.size≤gb321));have NB320_321:=aK ((by rw [hg];exact Nat.ne_of_lt (blk_lt (g:=gb320) (o:= .cells #[.int .i64 a0_0,.slice A0_1 l0_1.length c0_1] 53 (0,0)) zz29):gb320≠gb321));have NB321_320:=aK ((by rw [hg];exact Nat.ne_of_gt (blk_lt (g:=gb320) (o:= .cells #[.int .i64 a0_0,.slice A0_1 l0_1.length c0_1] 53 (0,0)) zz29):gb321≠gb320));replace BK320:=aK (blk_below (g:=gb320) (o:= .cells #[.int .i64 a0_0,.slice A0_1 l0_1.length c0_1] 53 (0,0)) zz29 hb);replace HB:=aK (below_step zz22 hb);clear hb hbox hg;have hnb18:=NB320_321.out;have hnc18:=NB321_320.out;obtain ⟨hcz19_0,hcz19_1,hfz19_0,hfz19_1⟩:=cbf2 BK320;obtain ⟨hcz20_0,hcz20_1,hfz20_0,hfz20_1⟩:=cbf2 BK321))
  go_ret;exact ⟨zz6,zz50⟩
end Go.Proofs.Ytbaklikaoleplaa.K
