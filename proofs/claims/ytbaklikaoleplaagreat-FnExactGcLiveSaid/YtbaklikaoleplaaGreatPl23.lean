import Derived.Test.YtbaklikaoleplaaGreatPl3
import Derived.Test.YtbaklikaoleplaaGreatPl4
import Derived.Test.YtbaklikaoleplaaGreatPl7
import Derived.Test.YtbaklikaoleplaaGreatPl8
import Derived.Test.YtbaklikaoleplaaGreatPl10
import Derived.Test.YtbaklikaoleplaaGreatPl11
import Derived.Test.YtbaklikaoleplaaGreatPl12
import Derived.Test.YtbaklikaoleplaaGreatPl22
namespace Go.Proofs.YtbaklikaoleplaaGreatW.PrintMore
open Go.RowKit Go.Proofs.YtbaklikaoleplaaGreatW.PrintWords
namespace Kd
open Go.Proofs.YtbaklikaoleplaaGreatW.PrintWords.Kd
end Kd
namespace Kd
open Go.Proofs.YtbaklikaoleplaaGreatW.PrintWords.Kd
section
variable {α:Type} {d:Kd α} {e base g N:Nat} {ok:Nat→Prop} {W w1:World} {u v:Value} {xs:List α}
end
end Kd
theorem gV (k k':IntKind) (x y:Int):Builtin.max2 (.int k x) (.int k' y)=pure (.int k (if x<y then y else x)):=by simp only [Builtin.max2,gt_iff_lt]
theorem gT (k k':IntKind) (x y:Int):Builtin.min2 (.int k x) (.int k' y)=pure (.int k (if y<x then y else x)):=by simp only [Builtin.min2]
theorem jT (ats:Array TypeId) (ty:TypeId) (a b:Value):Builtin.max_ ats ty #[a,b]=(Builtin.max2 a b >>= fun s=>pure s):=by simp only [Builtin.max_,List.foldlM_cons,List.foldlM_nil]
theorem jS (ats:Array TypeId) (ty:TypeId) (a b:Value):Builtin.min_ ats ty #[a,b]=(Builtin.min2 a b >>= fun s=>pure s):=by simp only [Builtin.min_,List.foldlM_cons,List.foldlM_nil]
theorem fY (ats:Array TypeId) (ty:TypeId) (a b c:Value):Builtin.max_ ats ty #[a,b,c]=(Builtin.max2 a b >>= fun s=>Builtin.max2 s c >>= fun s=>pure s):=by simp only [Builtin.max_,List.foldlM_cons,List.foldlM_nil]
theorem fX (ats:Array TypeId) (ty:TypeId) (a b c:Value):Builtin.min_ ats ty #[a,b,c]=(Builtin.min2 a b >>= fun s=>Builtin.min2 s c >>= fun s=>pure s):=by simp only [Builtin.min_,List.foldlM_cons,List.foldlM_nil]
theorem gU (ats:Array TypeId) (ty:TypeId) (a b c d:Value):Builtin.max_ ats ty #[a,b,c,d]=(Builtin.max2 a b >>= fun s=>Builtin.max2 s c >>= fun s=>Builtin.max2 s d >>= fun s=>pure s):=by simp only [Builtin.max_,List.foldlM_cons,List.foldlM_nil]
theorem gR (ats:Array TypeId) (ty:TypeId) (a b c d:Value):Builtin.min_ ats ty #[a,b,c,d]=(Builtin.min2 a b >>= fun s=>Builtin.min2 s c >>= fun s=>Builtin.min2 s d >>= fun s=>pure s):=by simp only [Builtin.min_,List.foldlM_cons,List.foldlM_nil]
end Go.Proofs.YtbaklikaoleplaaGreatW.PrintMore
namespace Go.Proofs.YtbaklikaoleplaaGreatW.PrintWords
open Go.RowKit
section
variable {P:Program} {ops:Array Oper} {rest:List Oper} {o:Oper} {a:Act} {Q:Exit→Act→World→Prop} {W:World}
theorem cD {f:FuncId} {as:Array Operand} {ts:Array TypeId} (_ho:o.op= .call {callee:= .value (.func f),args:=as,argTypes:=ts}) (h:wpList P ops Q (o::rest) a W):wpList P ops Q (o::rest) a W:=h
theorem kR {b:Builtin} {xs:Array Operand} {ts:Array TypeId} (_ho:o.op= .call {callee:= .builtin b,args:=xs,argTypes:=ts}) (h:wpList P ops Q (o::rest) a W):wpList P ops Q (o::rest) a W:=h
end
namespace Kd
section
variable {α:Type} {d:Kd α} {e base:Nat} {ok:Nat→Prop} {W w1:World} {v:Value} {xs:List α}
end
section
variable {α:Type} {d:Kd α} {e base g n cap:Nat} {ok oki okp:Nat→Prop} {W:World} {xs:List α} {i:Int} {c:List Value}
theorem H_at (h:H d e W base ok (.slice (some ⟨g,0,none⟩) n cap) xs i oki c) (h0:0≤i) (h1:i<n):(∀j u,c[j]? =some u→W.cell? ⟨g,i.toNat*d.sz+j,none⟩=some u)∧∀j,W.frozen? ⟨g,i.toNat*d.sz+j,none⟩=false:=by
  obtain ⟨rows,_,hraw,_,_,hcc,_⟩:=H_raw h h0 h1;obtain ⟨_,_,_,_,hfr⟩:=bMp hraw [] i h0 h1;exact ⟨hcc,hfr⟩
theorem S_seg0 (hH:H d e W base ok (.slice (some ⟨g,0,none⟩) n cap) xs i oki c) (h0:0≤i) (h1:i<n) {seg:List Value} {j:Nat} (hj:j+seg.length≤d.sz)
    {x':α} (hM:d.M W base okp x' (c.take j++seg++c.drop (j+seg.length))) (hokp: ∀k,okp k→oki k):
    S d e (W.setCells g (i.toNat*d.sz+j) seg) base ok (.slice (some ⟨g,0,none⟩) n cap) (xs.set i.toNat x')∧W.grownBy (W.setCells g (i.toNat*d.sz+j) seg) (some g):=
  S_seg (okg:=fun _=>False) (H_mono hH (fun _ hk=>⟨hk,fun h=>h⟩)) h0 h1 hj hM (fun k hk=> .inl (hokp k hk)) (fun _ hk=>hk.elim)
end
section
variable {α:Type} {d:Kd α} {e base b b' g N:Nat} {ok ok1:Nat→Prop} {W W2 w1:World} {u v:Value} {xs ys:List α} {S:Nat→Prop}
theorem R_reok (hE:d.E=[]) (h:d.R e W base ok1 v xs) (hok: ∀k,v.ownBlock=some k→ok k):d.R e W base ok v xs:=R_mono (R_tight hE h) (fun k hk=>hok k hk.symm)
theorem R_keptB (h:d.R e W base ok v xs) (hk:Kept W W2 S) (hne: ∀k,ok k→¬S k):d.R e W2 base (fun k=>ok k∧(¬S k∧k<W.heap.size)) v xs:=
  R_kept (R_mono (R_bound h) (fun k hk=>⟨hk.1,hne k hk.1,hk.2.2.1⟩)) hk (fun _ hk=>hk.2.1)
end
end Kd
namespace Kd
def V {α:Type} (d:Kd α) (_e:Nat) (W:World) (_base:Nat) (ok:Nat→Prop) (v:Value) (xs:List α):Prop:= ∃A c,v= .slice A xs.length c∧xs.length≤c∧F d W ok A xs.length xs
section
variable {α β:Type} {d:Kd α} {e base base' n m c g N' lo hi:Nat} {ok ok' S:Nat→Prop} {w W w1:World} {A:Option Addr} {ad:Addr} {u v v1:Value} {xs:List α}
theorem bMn (h:V d e W base ok v xs) (hF: ∀A,F d W ok A xs.length xs→F d w1 ok' A xs.length xs):V d e w1 base' ok' v xs:=by
  obtain ⟨A,c,hv,hl,hf⟩:=h;exact ⟨A,c,hv,hl,hF A hf⟩
theorem R_V (h:d.R e W base ok v xs):V d e W base' ok v xs:=by
  obtain ⟨A,c,rfl⟩:=R_slice h;exact ⟨A,c,rfl,(R_reads' h).2.1,R_F h⟩
theorem V_mono (h:V d e W base ok v xs) (hok: ∀k,ok k→ok' k):V d e W base ok' v xs:=bMn h (fun _ hf=>F_mono hf hok)
theorem V_bound (h:V d e W base ok v xs):V d e W base (fun k=>ok k∧k<W.heap.size) v xs:=bMn h (fun _ hf=>bJy hf)
theorem V_kept (h:V d e W base ok v xs) (hk:Kept W w1 S) (hok: ∀k,ok k→¬S k):V d e w1 base ok v xs:=bMn h (fun _ hf=>F_kept hf hk hok)
end
end Kd
end Go.Proofs.YtbaklikaoleplaaGreatW.PrintWords
