import Derived.Test.YtbaklikaoleplaaPh3
import Derived.Test.YtbaklikaoleplaaPh4
import Derived.Test.YtbaklikaoleplaaPh7
import Derived.Test.YtbaklikaoleplaaPh8
import Derived.Test.YtbaklikaoleplaaPh10
import Derived.Test.YtbaklikaoleplaaPh11
import Derived.Test.YtbaklikaoleplaaPh12
import Derived.Test.YtbaklikaoleplaaPh22
namespace Go.Proofs.YtbaklikaoleplaaW.PrintMore
open Go.RowKit Go.Proofs.YtbaklikaoleplaaW.PrintWords
namespace Kd
open Go.Proofs.YtbaklikaoleplaaW.PrintWords.Kd
end Kd
namespace Kd
open Go.Proofs.YtbaklikaoleplaaW.PrintWords.Kd
section
variable {α:Type} {d:Kd α} {e base g N:Nat} {ok:Nat→Prop} {W w1:World} {u v:Value} {xs:List α}
end
end Kd
theorem gD (k k':IntKind) (x y:Int):Builtin.max2 (.int k x) (.int k' y)=pure (.int k (if x<y then y else x)):=by simp only [Builtin.max2,gt_iff_lt]
theorem gB (k k':IntKind) (x y:Int):Builtin.min2 (.int k x) (.int k' y)=pure (.int k (if y<x then y else x)):=by simp only [Builtin.min2]
theorem gY (ats:Array TypeId) (ty:TypeId) (a b:Value):Builtin.max_ ats ty #[a,b]=(Builtin.max2 a b >>= fun s=>pure s):=by simp only [Builtin.max_,List.foldlM_cons,List.foldlM_nil]
theorem gW (ats:Array TypeId) (ty:TypeId) (a b:Value):Builtin.min_ ats ty #[a,b]=(Builtin.min2 a b >>= fun s=>pure s):=by simp only [Builtin.min_,List.foldlM_cons,List.foldlM_nil]
theorem fR (ats:Array TypeId) (ty:TypeId) (a b c:Value):Builtin.max_ ats ty #[a,b,c]=(Builtin.max2 a b >>= fun s=>Builtin.max2 s c >>= fun s=>pure s):=by simp only [Builtin.max_,List.foldlM_cons,List.foldlM_nil]
theorem fQ (ats:Array TypeId) (ty:TypeId) (a b c:Value):Builtin.min_ ats ty #[a,b,c]=(Builtin.min2 a b >>= fun s=>Builtin.min2 s c >>= fun s=>pure s):=by simp only [Builtin.min_,List.foldlM_cons,List.foldlM_nil]
theorem gC (ats:Array TypeId) (ty:TypeId) (a b c d:Value):Builtin.max_ ats ty #[a,b,c,d]=(Builtin.max2 a b >>= fun s=>Builtin.max2 s c >>= fun s=>Builtin.max2 s d >>= fun s=>pure s):=by simp only [Builtin.max_,List.foldlM_cons,List.foldlM_nil]
theorem gA (ats:Array TypeId) (ty:TypeId) (a b c d:Value):Builtin.min_ ats ty #[a,b,c,d]=(Builtin.min2 a b >>= fun s=>Builtin.min2 s c >>= fun s=>Builtin.min2 s d >>= fun s=>pure s):=by simp only [Builtin.min_,List.foldlM_cons,List.foldlM_nil]
end Go.Proofs.YtbaklikaoleplaaW.PrintMore
namespace Go.Proofs.YtbaklikaoleplaaW.PrintWords
open Go.RowKit
section
variable {P:Program} {ops:Array Oper} {rest:List Oper} {o:Oper} {a:Act} {Q:Exit→Act→World→Prop} {W:World}
theorem dG {f:FuncId} {as:Array Operand} {ts:Array TypeId} (_ho:o.op= .call {callee:= .value (.func f),args:=as,argTypes:=ts}) (h:wpList P ops Q (o::rest) a W):wpList P ops Q (o::rest) a W:=h
theorem jK {b:Builtin} {xs:Array Operand} {ts:Array TypeId} (_ho:o.op= .call {callee:= .builtin b,args:=xs,argTypes:=ts}) (h:wpList P ops Q (o::rest) a W):wpList P ops Q (o::rest) a W:=h
end
theorem zD (w:World) (n:Nat):w.drewN n=w.drewN n:=rfl
namespace Kd
section
variable {α:Type} {d:Kd α} {e base:Nat} {ok:Nat→Prop} {W w1:World} {v:Value} {xs:List α}
end
section
variable {α:Type} {d:Kd α} {e base g n cap:Nat} {ok oki okp:Nat→Prop} {W:World} {xs:List α} {i:Int} {c:List Value}
theorem H_at (h:H d e W base ok (.slice (some ⟨g,0,none⟩) n cap) xs i oki c) (h0:0≤i) (h1:i<n):(∀j u,c[j]? =some u→W.cell? ⟨g,i.toNat*d.sz+j,none⟩=some u)∧∀j,W.frozen? ⟨g,i.toNat*d.sz+j,none⟩=false:=by
  obtain ⟨rows,_,hraw,_,_,hcc,_⟩:=H_raw h h0 h1;obtain ⟨_,_,_,_,hfr⟩:=R_elem hraw [] i h0 h1;exact ⟨hcc,hfr⟩
theorem S_seg0 (hH:H d e W base ok (.slice (some ⟨g,0,none⟩) n cap) xs i oki c) (h0:0≤i) (h1:i<n) {seg:List Value} {j:Nat} (hj:j+seg.length≤d.sz)
    {x':α} (hM:d.M W base okp x' (c.take j++seg++c.drop (j+seg.length))) (hokp: ∀k,okp k→oki k):
    S d e (W.setCells g (i.toNat*d.sz+j) seg) base ok (.slice (some ⟨g,0,none⟩) n cap) (xs.set i.toNat x')∧W.grownBy (W.setCells g (i.toNat*d.sz+j) seg) (some g):=
  S_seg (okg:=fun _=>False) (H_mono hH (fun _ hk=>⟨hk,fun h=>h⟩)) h0 h1 hj hM (fun k hk=> .inl (hokp k hk)) (fun _ hk=>hk.elim)
end
section
variable {α:Type} {d:Kd α} {e base b b' g N:Nat} {ok ok1:Nat→Prop} {W W2 w1:World} {u v:Value} {xs ys:List α} {S:Nat→Prop}
end
end Kd
theorem Kept.keepG {w W W2:World} {S2:Nat→Prop} {g:Nat} (h:gZ w W g none) (k:Kept W W2 S2) (hs: ∀k,S2 k→k=g∨w.heap.size≤k):gZ w W2 g none:=
  ⟨Nat.le_trans h.1 k.1,fun i hi hg hr=>(k.2 i (Nat.lt_of_lt_of_le hi h.1) (fun h2=>(hs i h2).elim hg (fun h3=>by omega))).trans (h.2 i hi hg hr)⟩
namespace Kd
def V {α:Type} (d:Kd α) (_e:Nat) (W:World) (_base:Nat) (ok:Nat→Prop) (v:Value) (xs:List α):Prop:= ∃A c,v= .slice A xs.length c∧xs.length≤c∧F d W ok A xs.length xs
section
variable {α β:Type} {d:Kd α} {e base base' n m c g N' lo hi:Nat} {ok ok' S:Nat→Prop} {w W w1:World} {A:Option Addr} {ad:Addr} {u v v1:Value} {xs:List α}
theorem bMo (h:V d e W base ok v xs) (hF: ∀A,F d W ok A xs.length xs→F d w1 ok' A xs.length xs):V d e w1 base' ok' v xs:=by
  obtain ⟨A,c,hv,hl,hf⟩:=h;exact ⟨A,c,hv,hl,hF A hf⟩
theorem V_mk (hl:xs.length≤c) (hf:F d W ok A xs.length xs):V d e W base ok (.slice A xs.length c) xs:=⟨A,c,rfl,hl,hf⟩
theorem V_slice (h:V d e W base ok v xs): ∃A c,v= .slice A xs.length c:=by
  obtain ⟨A,c,hv,_⟩:=h;exact ⟨A,c,hv⟩
theorem V_at (h:V d e W base ok (.slice A n c) xs):n=xs.length∧n≤c∧F d W ok A xs.length xs:=by
  obtain ⟨A',c',hv,hl,hf⟩:=h;injection hv with ha hn hc;subst ha;subst hc;exact ⟨hn,by rw [hn];exact hl,hf⟩
theorem V_reads' (h:V d e W base ok (.slice A n c) xs):n=xs.length∧n≤c∧d.C W A xs.length xs:=⟨(V_at h).1,(V_at h).2.1,F_now (V_at h).2.2⟩
theorem V_F (h:V d e W base ok (.slice A n c) xs):F d W ok A n xs:=by
  obtain ⟨hn,_,hf⟩:=V_at h;rw [hn];exact hf
theorem R_V (h:d.R e W base ok v xs):V d e W base' ok v xs:=by
  obtain ⟨A,c,rfl⟩:=R_slice h;exact ⟨A,c,rfl,(R_reads' h).2.1,R_F h⟩
theorem S_V (h:Kd.S d e W base ok v xs):V d e W base' ok v xs:=R_V (S_R h)
theorem N_V (h:N d e W base ok v xs):V d e W base' ok v xs:=by
  obtain ⟨A,c,rfl⟩:=N_slice h;exact ⟨A,c,rfl,(bMr h).2.1,N_F h⟩
theorem V_mono (h:V d e W base ok v xs) (hok: ∀k,ok k→ok' k):V d e W base ok' v xs:=bMo h (fun _ hf=>F_mono hf hok)
theorem V_bound (h:V d e W base ok v xs):V d e W base (fun k=>ok k∧k<W.heap.size) v xs:=bMo h (fun _ hf=>bOt hf)
theorem V_below (h:V d e W base ok v xs) (hb:Below W.heap.size W w1):V d e w1 base ok v xs:=bMo h (fun _ hf=>F_below hf hb)
theorem V_keep (h:V d e W base ok v xs) (hk:gZ W w1 g none) (hok: ∀k,ok k→k≠g):V d e w1 base ok v xs:=bMo h (fun _ hf=>F_keep hf hk hok)
theorem V_kept (h:V d e W base ok v xs) (hk:Kept W w1 S) (hok: ∀k,ok k→¬S k):V d e w1 base ok v xs:=bMo h (fun _ hf=>F_kept hf hk hok)
theorem F_cut (h:F d W ok A xs.length xs) (hm:m≤xs.length) (hc:xs.length≤c):F d W ok (if c=m then A else A.map (·.add (m*d.sz))) (xs.drop m).length (xs.drop m):=F_imp h (fun _ hC=>C_drop hC hm hc)
theorem C_foot_ownV (h:V d e W base ok (.slice A n c) xs) (hok: ∀k,ok k→k≠g): ∀W',gZ W W' g none→d.C W' A n xs:=fun W' hk=>by
  have h2:=V_reads' (V_keep h hk hok);rw [h2.1];exact h2.2.2
end
end Kd
end Go.Proofs.YtbaklikaoleplaaW.PrintWords
